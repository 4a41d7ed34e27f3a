/-
  HELPERS of the claim: part 10 of its texts.
-/
import Derived.Test.YthlpinppaclofaaGreatDoorSybi
noncomputable section
set_option linter.unusedVariables false
set_option linter.unusedSectionVars false
set_option linter.unusedSimpArgs false
set_option maxHeartbeats 1000000
namespace Go.Pb
variable [Go.Sym.Tab]
open Go.Sym
def Mo {α : Type} (a b:Option α):Prop:=∀ r,a=some r->b=some r
theorem Mo.refl {α : Type} (a:Option α):Mo a a:=fun _ h=>h
theorem Mo.none {α : Type} (b:Option α):Mo none b:=fun _ h=>by cases h
section
variable (L:List Tok) (E:Int)
theorem ME.all:∀ f:Nat,(∀ n s,Mo (F1 L E f n s) (F1 L E (f+1) n s))/\(∀ n e s,Mo (I5 L E f n e s) (I5 L E (f+1) n e s))/\(∀ s,Mo (K9 L E f s) (K9 L E (f+1) s))
 | 0=>⟨fun _ _=>Mo.none _,fun _ _ _=>Mo.none _,fun _=>Mo.none _⟩
 | f+1=>by
  obtain ⟨hb,hl,hu⟩:=ME.all f;refine ⟨fun n s=>?_,fun n e s=>?_,fun s=>?_⟩
  ·rw [F1,F1];split
   ·exact hu s
   cases h:F1 L E f (n+1) s with
   | none=>exact Mo.none _
   | some q=>rw [hb _ _ _ h];exact hl _ _ _
  ·rw [I5,I5];dsimp only;split
   ·exact Mo.refl _
   cases h:F1 L E f (n+1) (A6 s) with
   | none=>exact Mo.none _
   | some q =>
    rw [hb _ _ _ h];dsimp only;split
    ·exact Mo.refl _
    ·exact hl _ _ _
  ·rw [K9,K9];dsimp only;split
   ·exact Mo.refl _
   split
   ·exact Mo.refl _
   split
   ·cases h:F1 L E f 1 { i:=(B9 L E s (s.par+1) 16 50).i+1,e:=(B9 L E s (s.par+1) 16 50).e,pos:=(B9 L E s (s.par+1) 16 50).pos,ops:=(B9 L E s (s.par+1) 16 50).ops,par:=(B9 L E s (s.par+1) 16 50).par+1 } with
    | none=>exact Mo.none _
    | some q=>rw [hb _ _ _ h];exact Mo.refl _
   ·cases h:K9 L E f { i:=(B9 L E s (s.par+1) 16 50).i+1,e:=(B9 L E s (s.par+1) 16 50).e,pos:=(B9 L E s (s.par+1) 16 50).pos,ops:=(B9 L E s (s.par+1) 16 50).ops,par:=(B9 L E s (s.par+1) 16 50).par+1 } with
    | none=>exact Mo.none _
    | some q=>rw [hu _ _ h];exact Mo.refl _
theorem A2w (f:Nat) (s:Rd):Mo (H7 L E f s) (H7 L E (f+1) s):=(ME.all L E f).1 _ _
theorem D4c (f:Nat) (k p:Int) (s:Rd):Mo (G9 L E f k p s) (G9 L E (f+1) k p s):=by
 unfold G9;split
 ·cases h:H7 L E f s with
  | none=>exact Mo.none _
  | some q=>rw [A2w L E f _ _ h];exact Mo.refl _
 split
 ·cases h:H7 L E f (C5 L E (B1 L E s 4).2 [44]) with
  | none=>exact Mo.none _
  | some q=>rw [A2w L E f _ _ h];exact Mo.refl _
 split
 ·exact Mo.refl _
 dsimp only;split
 ·cases h:H7 L E f (B1 L E s 1).2 with
  | none=>exact Mo.none _
  | some q =>
   rw [A2w L E f _ _ h];dsimp only;split
   ·cases h2:H7 L E f (C5 L E q.2 [44]) with
    | none=>exact Mo.none _
    | some q2=>rw [A2w L E f _ _ h2];exact Mo.refl _
   ·exact Mo.refl _
 ·exact Mo.refl _
theorem MS.all:∀ f:Nat,(∀ d s,Mo (F6 L E f d s) (F6 L E (f+1) d s))/\(∀ d l s,Mo (J3 L E f d l s) (J3 L E (f+1) d l s)) /\
  (∀ d s,Mo (K7 L E f d s) (K7 L E (f+1) d s))/\(∀ d s,Mo (N5 L E f d s) (N5 L E (f+1) d s))
 | 0=>⟨fun _ _=>Mo.none _,fun _ _ _=>Mo.none _,fun _ _=>Mo.none _,fun _ _=>Mo.none _⟩
 | f+1=>by
  obtain ⟨hb,hl,hs,ho⟩:=MS.all f;refine ⟨fun d s=>?_,fun d l s=>?_,fun d s=>?_,fun d s=>?_⟩
  ·rw [F6,F6];exact hl _ _ _
  ·rw [J3,J3];split
   ·split
    ·exact Mo.refl _
    cases h:K7 L E f d (B9 L E s ((l.length:Int)+1) 64 9) with
    | none=>exact Mo.none _
    | some q=>rw [hs _ _ _ h];exact hl _ _ _
   ·exact Mo.refl _
  ·rw [K7,K7];dsimp only;split
   ·exact Mo.refl _
   split
   ·cases h:H7 L E f (C5 L E (B1 L E (B9 L E s d 8 50) 1).2 [61]) with
    | none=>exact Mo.none _
    | some q=>rw [A2w L E f _ _ h];exact Mo.refl _
   split
   ·cases h:H7 L E f (A6 (B9 L E s d 8 50)) with
    | none=>exact Mo.none _
    | some q =>
     rw [A2w L E f _ _ h];dsimp only;cases h2:F6 L E f (d+1) q.2 with
     | none=>exact Mo.none _
     | some q2 =>
      rw [hb _ _ _ h2];dsimp only;split
      ·cases h3:N5 L E f d (A6 q2.2) with
       | none=>exact Mo.none _
       | some q3=>rw [ho _ _ _ h3];exact Mo.refl _
      ·exact Mo.refl _
   ·exact D4c L E f _ _ _
  ·rw [N5,N5];split
   ·cases h:K7 L E f (d+1) s with
    | none=>exact Mo.none _
    | some q=>rw [hs _ _ _ h];exact Mo.refl _
   ·exact hb _ _
theorem C9j:∀ (f:Nat) (l:List Hd) (s:Rd),Mo (K5 L E f l s) (K5 L E (f+1) l s)
 | 0,_,_=>Mo.none _
 | f+1,l,s=>by
  rw [K5,K5];split
  ·split
   ·exact Mo.refl _
   dsimp only;split
   ·exact Mo.refl _
   generalize hk:(if 2<=B6 L E (C5 L E (B9 L E s ((l.length:Int)+1) 32 9) [111,110]) C8 then (B1 L E (A6 (C5 L E (B9 L E s ((l.length:Int)+1) 32 9) [111,110])) 1).2 else A6 (C5 L E (B9 L E s ((l.length:Int)+1) 32 9) [111,110]))=s4;cases h:F6 L E f 1 s4 with
   | none=>exact Mo.none _
   | some q=>rw [(MS.all L E f).1 _ _ _ h];exact C9j f _ _
  ·exact Mo.refl _
theorem E0i (f:Nat) (s:Rd):Mo (A0l L E f s) (A0l L E (f+1) s):=by
 unfold A0l;dsimp only;cases h:K5 L E f [] (C5 L E (B1 L E (B1 L E (C5 L E s [109,111,100,101]) 1).2 3).2 [123]) with
 | none=>exact Mo.none _
 | some q=>rw [C9j L E f _ _ _ h];exact Mo.refl _
theorem C0y:∀ (f:Nat) (l:List Dc) (s:Rd),Mo (J9 L E f l s) (J9 L E (f+1) l s)
 | 0,_,_=>Mo.none _
 | f+1,l,s=>by
  rw [J9,J9];dsimp only;split
  ·exact Mo.refl _
  split
  ·exact C0y f _ _
  ·exact C0y f _ _
theorem C0x:∀ (f:Nat) (l:List Md) (s:Rd),Mo (I9 L E f l s) (I9 L E (f+1) l s)
 | 0,_,_=>Mo.none _
 | f+1,l,s=>by
  rw [I9,I9];dsimp only;split
  ·split
   ·exact Mo.refl _
   split
   ·cases h:A0l L E f (B9 L E s ((l.length:Int)+1) 16 9) with
    | none=>exact Mo.none _
    | some q=>rw [E0i L E f _ _ h];exact C0x f _ _
   ·exact C0x f _ _
  ·exact Mo.refl _
theorem E0h (f:Nat) (s:Rd):Mo (Y8 L E f s) (Y8 L E (f+1) s):=by
 unfold Y8;cases h:J9 L E f [] s with
 | none=>exact Mo.none _
 | some q =>
  rw [C0y L E f _ _ _ h];dsimp only;cases h2:I9 L E f [] q.2 with
  | none=>exact Mo.none _
  | some q2=>rw [C0x L E f _ _ _ h2];exact Mo.refl _
end
theorem C9k {α : Type} {g:Nat->Option α} (h:∀ f,Mo (g f) (g (f+1))) {f:Nat} {r : α} (hf:g f=some r):Evt g r:=by
 refine ⟨f,fun k hk=>?_⟩
 induction k with
 | zero =>
  obtain rfl:f=0:=(by omega);exact hf
 | succ k ih =>
  by_cases e:f=k+1
  ·subst e;exact hf
  ·exact h k r (ih (by omega))
theorem D2z {L:List Tok} {E:Int} {f:Nat} {r:Ru × Rd} (h:Y8 L E f rd0=some r):A0y L E=r:=(A2s L E).uniq (C9k (E0h L E · rd0) h)
theorem D2c {L:List Tok} {E:Int} {f:Nat} {r:Ex × Rd} (h:H7 L E f rd0=some r):D2d L E=r:=(C6g L E).uniq (C9k (A2w L E · rd0) h)
theorem D3p {s:List UInt8} {r:Ru} {i N:Nat} {p o q:Int} (h1:(C0 s).2.2=0) (h2:Y8 (C0 s).1 s.length N rd0=some (r,⟨i,0,p,o,q⟩)):P0 s=(r,0,0):=by
 unfold P0;dsimp only;rw [if_neg (by rw [h1];decide),D2z h2,if_neg (by show ¬ ((0:Int) == 0)=false;decide)]
theorem C3e {s:List UInt8} {r:Ex} {i N:Nat} {p o q:Int} (h1:(C0 s).2.2=0) (h2:H7 (C0 s).1 s.length N rd0=some (r,⟨i,0,p,o,q⟩)) (hi:(C0 s).1.length<=i):B5b s=(r,0,0):=by
 unfold B5b;dsimp only;rw [if_neg (by rw [h1];decide),D2c h2];dsimp only;have hz:(if okR (⟨i,0,p,o,q⟩:Rd)=true/\i<(C0 s).1.length then P2 (C0 s).1 s.length ⟨i,0,p,o,q⟩ else ⟨i,0,p,o,q⟩)=⟨i,0,p,o,q⟩:=if_neg fun h=>absurd h.2 (Nat.not_lt.2 hi);rw [hz,if_neg (by show ¬ ((0:Int) == 0)=false;decide)]
end Go.Pb
set_option maxHeartbeats 8000000
set_option maxRecDepth 100000
namespace Go.Proofs.YthlpinppaclofaaGreatDoor
open Go.Eng (IC IOper DReg IFn J0)
open Go.Sym Go.Pb
def sl1:List UInt8:=[49,43,50,42,120]
def sl2:List UInt8:=[40,49,43,50,41,42,120]
def sl3:List UInt8:=[108,97,109,112,32,108,32,51,59,32,109,111,100,101,32,109,32,49,32,123,32,111,110,32,115,116,97,114,116,32,123,32,108,105,103,104,116,32,108,32,56,59,32,125,32,125]
def se1:Ex:=.mk 15 0 [] [.mk 1 1 [] [] 0,.mk 12 0 [] [.mk 1 2 [] [] 2,.mk 2 0 [120] [] 4] 3] 1
def se2:Ex:=.mk 12 0 [] [.mk 15 0 [] [.mk 1 1 [] [] 1,.mk 1 2 [] [] 3] 2,.mk 2 0 [120] [] 6] 5
def sr3:Ru:=⟨[⟨3,[108],3,0⟩],[⟨[109],1,[⟨1,[],[.mk 8 [108] [] [.mk 1 8 [] [] 40] [] [] 32],21⟩],10⟩]⟩
theorem sp1:B5b sl1=(se1,0,0):=C3e (N:=60) (i:=5) (p:=0) (o:=3) (q:=0) (by decide +kernel) (by kernel_rfl) (by decide +kernel)
theorem sp2:B5b sl2=(se2,0,0):=C3e (N:=60) (i:=7) (p:=0) (o:=3) (q:=0) (by decide +kernel) (by kernel_rfl) (by decide +kernel)
theorem sp3:P0 sl3=(sr3,0,0):=D3p (N:=60) (i:=17) (p:=0) (o:=1) (q:=0) (by decide +kernel) (by kernel_rfl)
theorem sf2:E1g se2=[40,32,49,32,43,32,50,32,41,32,42,32,120]:=by decide +kernel
theorem sv3:A1x sr3=true:=by decide +kernel
theorem c_sane31:PC Tryz.prog 12 [] (.bool true):=by
 have p1:=c_PParseE sl1 (by decide);have p2:=c_PParseE sl2 (by decide);have p3:=c_PParse sl3 (by decide);rw [sp1] at p1;rw [sp2] at p2;rw [sp3] at p3;have f2:=c_PFormatE se2 (by decide);rw [sf2] at f2;have f3:=c_PFormat sr3 (by decide);have v3:=c_Valid sr3 (by decide);rw [sv3] at v3;have hne:(Y3 sr3 == [])=false:=by
  have:=D0n sv3 (by unfold sr3;simp);simpa using this
 generalize Y3 sr3=t3 at f3 hne;dsimp only [C4t,C8z] at p1 p2 p3;have e3:sr3.v=.agg [O1 sr3.decls,.lst [(sr3.modes.map Md.v).getD 0 (.bool true)]]:=rfl;rw [e3] at p3 f3 v3;generalize sr3.decls.map Dc.v=d1 at *;generalize (sr3.modes.map Md.v).getD 0 (.bool true)=m1 at *;have e2:=Ex.v_w se2;have e1:se1.v=.agg [I64 15,I64 0,.str [],.lst [(Ex.mk 1 1 [] [] 0).v,.agg [I64 12,I64 0,.str [],H9 [.mk 1 2 [] [] 2,.mk 2 0 [120] [] 4],I64 3]],I64 1]:=by unfold se1;rw [Ex.v_w];simp [Ex.v_w,Ex.kind,Ex.value,Ex.name,Ex.args,Ex.pos]
 rw [e1] at p1;generalize (Ex.mk 1 1 [] [] 0).v=x1 at *;generalize H9 [.mk 1 2 [] [] 2,.mk 2 0 [120] [] 4]=x2 at *;rw [e2] at p2 f2;unfold sl1 at p1;unfold sl2 at p2;unfold sl3 at p3;have hi1:P5 5 (.lst [x1,.agg [I64 12,I64 0,.str [],x2,I64 3]]) (.int .i64 1)=some (.fptr [I64 12,I64 0,.str [],x2,I64 3]):=C0i (l:=1);refine PC.ofT B2 rfl (A0A rfl) (by simp [DV.nlL,DV.nl]) (by simp [DV.nlL,DV.nl]) ?_;repeat' ((with_reducible first|refine wr ?_|refine cpc p1 ?_|refine cpc p2 ?_|refine cpc p3 ?_|refine cpc f2 ?_|refine cpc f3 ?_|refine cpc v3 ?_|refine A2 ?_ ?_|fail)<;>try simp only [go_sem,seval,hne,hi1])
 all_goals exact A9 rfl
abbrev mkB (L:List UInt8) (w i:Nat):Blk:=⟨0,true,[.lst (bytesC L),I64 i,I64 w]⟩
theorem A6c {L:List UInt8} {i:Nat} {b:UInt8} (h:L[i]? = some b):(bytesC L)[i]? = some (.int .u8 (b.toNat:Int)):=by
 simp [bytesC,h]
theorem c_Next (L:List UInt8) (hL:L.length<=300) (w i:Nat) (hi:i<=300) (n:Nat) (hn:0<n) (hn2:n<=1000) (H:Hp) (cc t:Nat) (ht:H t=some (mkB L w i)) (htc:t<cc) :
  AC Tryz.prog 41 [.ptr t 0,I64 n] H cc (fun v H' c'=>v=I64 (nxK L n i).1/\H'=H.upd t (mkB L w (nxK L n i).2)):=by
 refine AC.bodyT B2 rfl (A0A rfl) fun hfr=>?_;have hlen:(bytesC L).length=L.length:=by simp [bytesC]
 unfold nxK;by_cases hlt:i<L.length
 ·have hd:decide ((i:Int)≥L.length)=false:=by simp;omega
  have hg:=A6c (A0E hlt);rw [dif_pos hlt];generalize L[i]=b at hg;have hw:=w64 (n:=(i:Int)+1);have hw3:IntKind.i64.wrap ((i:Int)+1-1)=(i:Int):=by rw [w6z (by omega)];omega
  have hb:=b.toNat_lt;have hw4:=w64 (n:=(b.toNat:Int));have hrm:binR .rem (.int .i64 (b.toNat:Int)) (I64 (n:Int))=some (I64 ((b.toNat % n:Nat):Int)):=by
   rw [B2z (by omega)];rfl
  repeat' ((with_reducible first|refine wr ?_|refine A2 ?_ ?_|fail)<;>try simp only [go_sem,seval,ht,hd,hg,hw,hw3,hw4,hrm,hlen,A0,A1])
  exact ⟨_,_,GL.refl _ _,rfl,rfl⟩
 ·have hd:decide ((i:Int)≥L.length)=true:=by simp;omega
  rw [dif_neg hlt];repeat' ((with_reducible first|refine wr ?_|refine A2 ?_ ?_|fail)<;>try simp only [go_sem,seval,ht,hd,hlen,A0,A1])
  exact ⟨_,_,GL.refl _ _,rfl,(upd_same ht).symm⟩
theorem G3 {L:List UInt8} (hL:L.length<=300) {n i:Nat} (hi:i<=300):(nxK L n i).2<=300:=by
 unfold nxK;split<;>simp<;>omega
theorem c_name32 (L:List UInt8) (hL:L.length<=300) (w i:Nat) (hw:w<=100) (hi:i<=300) (p:List UInt8) (hp:p.length<=100) (n:Nat) (hn:0<n) (hn2:n<=1000) (H:Hp) (cc t:Nat) (ht:H t=some (mkB L w i)) (htc:t<cc) :
  AC Tryz.prog 46 [.ptr t 0,.str p,I64 n] H cc (fun v H' c'=>v=.str (nmK L w p n i).1/\H'=H.upd t (mkB L w (nmK L w p n i).2)):=by
 refine AC.bodyT B2 rfl (A0A rfl) fun hfr=>?_;unfold nmK;by_cases h0:0<w
 ·have q0:decide ((w:Int)>0)=true:=by simpa using h0
  repeat' ((with_reducible first|refine wr ?_|refine A2 ?_ ?_|fail)<;>try simp only [go_sem,seval,ht,q0,A0,A1])
  refine AC.call (c_Next L hL w i hi w h0 (by omega) _ _ t ht (by omega)) ?_;rintro v' H' c2 ⟨rfl,rfl⟩ hc2;have hi2:=G3 hL (n:=w) hi;have hw1:=w64 (n:=(w:Int)-1);simp only [go_sem,seval,A0,A1];repeat' ((with_reducible first|refine wr ?_|refine A2 ?_ ?_|fail)<;>try simp only [go_sem,seval,A0,A1,hw1])
  refine ⟨by and_intros<;>(rw [A3 (by omega)];exact hfr _ (by omega)),?_⟩;by_cases hq:(nxK L w i).1+1=w
  ·have qq:(((nxK L w i).1:Int) == IntKind.i64.wrap ((w:Int)-1))=true:=by rw [hw1];simp;omega
   rw [if_pos ⟨h0,hq⟩];repeat' ((with_reducible first|refine wr ?_|refine A2 ?_ ?_|fail)<;>try simp only [go_sem,seval,A0,A1,qq])
   refine AC.call (c_Next L hL w _ hi2 10 (by decide) (by decide) _ _ t (by rw [A3 (by omega)];exact A0) (by omega)) ?_;rintro v' H' c3 ⟨rfl,rfl⟩ hc3;have hlt:=M8 L (nxK L w i).2 (n:=10) (by decide);generalize (nxK L 10 (nxK L w i).2)=kq at hlt ⊢;obtain ⟨k,i3⟩:=kq;dsimp only at hlt ⊢;have hia:P5 1 (.slc c2 0 10) (I64 (k:Int))=some (.ptr c2 k):=by simp [P5];omega
   have hld:([.str [115,119,48],.str [99,111,105,108,48],.str [108,97,109,112,48],.str [118,48],.str [116,109,48],.str [101,118,48],.str [109,111,100,101,48],.str [110,111,110,101],.str [115,110,100,48],.str [115,104,111,119,48]]:List DV)[k]? = some (.str (A1w.getD k [])):=by
    match k,hlt with
    | 0,_=>rfl
    | 1,_=>rfl
    | 2,_=>rfl
    | 3,_=>rfl
    | 4,_=>rfl
    | 5,_=>rfl
    | 6,_=>rfl
    | 7,_=>rfl
    | 8,_=>rfl
    | 9,_=>rfl
   have ne0:=X3 t c2 (by omega);generalize hWL:([.str [115,119,48],.str [99,111,105,108,48],.str [108,97,109,112,48],.str [118,48],.str [116,109,48],.str [101,118,48],.str [109,111,100,101,48],.str [110,111,110,101],.str [115,110,100,48],.str [115,104,111,119,48]]:List DV)=WL at hld ⊢;simp only [go_sem,seval,A0,A1,ne0,hia,hld];repeat' ((with_reducible first|refine wr ?_|refine A2 ?_ ?_|fail)<;>try simp only [go_sem,seval,A0,A1,ne0,hia,hld])
   refine ⟨_,_,GL.less' (fun j b hj=>?_),rfl,rfl⟩;by_cases e:j=t
   ·subst e;rw [A0] at hj ⊢;exact hj
   ·rw [A3 e] at hj;have:j≠c2:=by rintro rfl;rw [hfr _ (by omega)] at hj;cases hj
    rw [A3 e,A3 this,A3 e];exact hj
  ·have qq:(((nxK L w i).1:Int) == IntKind.i64.wrap ((w:Int)-1))=false:=by rw [hw1];simp;omega
   rw [if_neg (fun h=>hq h.2),if_pos h0];repeat' ((with_reducible first|refine wr ?_|refine A2 ?_ ?_|fail)<;>try simp only [go_sem,seval,A0,A1,qq])
   refine AC.call (c_Next L hL w _ hi2 n hn hn2 _ _ t A0 (by omega)) ?_;rintro v' H' c3 ⟨rfl,rfl⟩ hc3;have hlt:=M8 L (nxK L w i).2 hn;have hdc:=c_Dec' ((nxK L n (nxK L w i).2).1:Int) (by omega) (by omega);have hdl:=N8 (n:=((nxK L n (nxK L w i).2).1:Int)) (by omega) (by omega);have hadd:=R5 (s:=p) (t:=G8 ((nxK L n (nxK L w i).2).1:Int)) (by omega);simp only [go_sem,seval,A1];repeat' ((with_reducible first|refine wr ?_|refine cpc hdc ?_|refine A2 ?_ ?_|fail)<;>try simp only [go_sem,seval,A0,A1,hadd])
   exact ⟨_,_,GL.refl _ _,rfl,rfl⟩
 ·have q0:decide ((w:Int)>0)=false:=by simpa using h0
  rw [if_neg (fun h=>h0 h.1),if_neg h0];repeat' ((with_reducible first|refine wr ?_|refine A2 ?_ ?_|fail)<;>try simp only [go_sem,seval,ht,q0,A0,A1])
  refine ⟨by and_intros<;>exact hfr _ (by omega),?_⟩;repeat' ((with_reducible first|refine wr ?_|refine A2 ?_ ?_|fail)<;>try simp only [go_sem,seval,ht,q0,A0,A1])
  refine AC.call (c_Next L hL w i hi n hn hn2 _ _ t ht (by omega)) ?_;rintro v' H' c2 ⟨rfl,rfl⟩ hc2;have hlt:=M8 L i hn;have hdc:=c_Dec' ((nxK L n i).1:Int) (by omega) (by omega);have hdl:=N8 (n:=((nxK L n i).1:Int)) (by omega) (by omega);have hadd:=R5 (s:=p) (t:=G8 ((nxK L n i).1:Int)) (by omega);simp only [go_sem,seval];repeat' ((with_reducible first|refine wr ?_|refine cpc hdc ?_|refine A2 ?_ ?_|fail)<;>try simp only [go_sem,seval,A0,A1,hadd])
  exact ⟨_,_,GL.refl _ _,rfl,rfl⟩
theorem A6u {L:List UInt8} (hL:L.length<=300) {w n i:Nat} {p:List UInt8} (hi:i<=300):(nmK L w p n i).2<=300:=by
 unfold nmK;dsimp only;split
 ·exact G3 hL (G3 hL hi)
 ·split
  ·exact G3 hL (G3 hL hi)
  ·exact G3 hL hi
theorem A2v {L:List UInt8} {w n i:Nat} {p:List UInt8} (hn:0<n) (hn2:n<=1000):(nmK L w p n i).1.length<=p.length+100:=by
 unfold nmK;dsimp only;split
 ·have:=M8 L (nxK L w i).2 (n:=10) (by decide);generalize (nxK L 10 (nxK L w i).2).1=k at this
  match k,this with
  | 0,_=>simp [A1w]
  | 1,_=>simp [A1w]
  | 2,_=>simp [A1w]
  | 3,_=>simp [A1w]
  | 4,_=>simp [A1w]
  | 5,_=>simp [A1w]
  | 6,_=>simp [A1w]
  | 7,_=>simp [A1w]
  | 8,_=>simp [A1w]
  | 9,_=>simp [A1w]
 ·have:=M8 L (if 0<w then (nxK L w i).2 else i) hn;have h:=N8 (n:=((nxK L n (if 0<w then (nxK L w i).2 else i)).1:Int)) (by omega) (by omega);rw [A0C];omega
theorem c_bl0 (L:List UInt8) (hL:L.length<=300) (w:Nat) (hw:w<=100) (i:Nat) (hi:i<=300) (d:Int) (hd:d<=0) (H:Hp) (cc t:Nat) (ht:H t=some (mkB L w i)) (htc:t<cc) :
  AC Tryz.prog 21 [.ptr t 0,I64 d] H cc (fun v H' c'=>v=.str (bl0 L w i).1/\H'=H.upd t (mkB L w (bl0 L w i).2)):=by
 refine AC.bodyT B2 rfl (A0A rfl) fun hfr=>?_;have qd:decide (d<=0)=true:=by simpa using hd
 unfold bl0;repeat' ((with_reducible first|refine wr ?_|refine A2 ?_ ?_|fail)<;>try simp only [go_sem,seval,qd])
 refine AC.call (c_Next L hL w i hi 5 (by decide) (by decide) _ _ t ht (by omega)) ?_;rintro v' H' c2 ⟨rfl,rfl⟩ hc2;have hi2:=G3 hL (n:=5) hi;generalize nxK L 5 i=k at hi2 ⊢;obtain ⟨k,i2⟩:=k;dsimp only at hi2 ⊢;by_cases k0:k=0
 ·subst k0;simp only [go_sem,seval];repeat' ((with_reducible first|refine wr ?_|refine A2 ?_ ?_|fail)<;>try simp only [go_sem,seval])
  exact ⟨_,_,GL.refl _ _,rfl,rfl⟩
 have q0:((k:Int) == 0)=false:=by simpa using k0
 rw [if_neg k0];by_cases k1:k=1
 ·subst k1;simp only [go_sem,seval];repeat' ((with_reducible first|refine wr ?_|refine A2 ?_ ?_|fail)<;>try simp only [go_sem,seval])
  exact ⟨_,_,GL.refl _ _,rfl,rfl⟩
 have q1:((k:Int) == 1)=false:=by simp;omega
 rw [if_neg k1];by_cases k2:k=2
 ·subst k2;rw [if_pos rfl];simp only [go_sem,seval];repeat' ((with_reducible first|refine wr ?_|refine A2 ?_ ?_|fail)<;>try simp only [go_sem,seval])
  refine AC.call (c_name32 L hL w i2 hw hi2 [109,111,100,101] (by decide) 3 (by decide) (by decide) _ _ t A0 (by omega)) ?_;rintro v' H' c3 ⟨rfl,rfl⟩ hc3;have hl:=A2v (L:=L) (w:=w) (i:=i2) (p:=[109,111,100,101]) (n:=3) (by decide) (by decide);generalize nmK L w [109,111,100,101] 3 i2=a at hl ⊢;have hadd:=R5 (s:=[97,99,116,105,118,101,32]) (t:=a.1) (by simp at hl ⊢;omega);simp only [go_sem,seval,A1,hadd];repeat' ((with_reducible first|refine wr ?_|refine A2 ?_ ?_|fail)<;>try simp only [go_sem,seval,A1,hadd])
  exact ⟨_,_,GL.refl _ _,rfl,rfl⟩
 have q2:((k:Int) == 2)=false:=by simp;omega
 rw [if_neg k2];simp only [go_sem,seval,q0,q1,q2];repeat' ((with_reducible first|refine wr ?_|refine A2 ?_ ?_|fail)<;>try simp only [go_sem,seval,q0,q1,q2])
 refine AC.call (c_name32 L hL w i2 hw hi2 [115,119] (by decide) 4 (by decide) (by decide) _ _ t A0 (by omega)) ?_;rintro v' H' c3 ⟨rfl,rfl⟩ hc3;have hl:=A2v (L:=L) (w:=w) (i:=i2) (p:=[115,119]) (n:=4) (by decide) (by decide);generalize nmK L w [115,119] 4 i2=a at hl ⊢;have hadd:=R5 (s:=[99,108,111,115,101,100,32]) (t:=a.1) (by simp at hl ⊢;omega);simp only [go_sem,seval,A1,hadd];repeat' ((with_reducible first|refine wr ?_|refine A2 ?_ ?_|fail)<;>try simp only [go_sem,seval,A1,hadd])
 exact ⟨_,_,GL.refl _ _,rfl,rfl⟩
theorem A4s {H:Hp} {cc t c2:Nat} {b0 b1 b:Blk} {ds:List DV} (hfr:∀ i,cc<=i->H i=none) (htc:t<cc) (hc:cc<=c2):GL (((H.upd t b0).upd c2 b1).upd t b) ds (H.upd t b) ds:=GL.less' fun j q hj=>by
 by_cases e:j=t
 ·subst e;rw [A0] at hj ⊢;exact hj
 ·rw [A3 e] at hj;have:j≠c2:=by rintro rfl;rw [hfr _ (by omega)] at hj;cases hj
  rw [A3 e,A3 this,A3 e];exact hj
theorem c_in0 (L:List UInt8) (hL:L.length<=300) (w:Nat) (hw:w<=100) (i:Nat) (hi:i<=300) (d:Int) (hd:d<=0) (hd2 : -1000<=d) (H:Hp) (cc t:Nat) (ht:H t=some (mkB L w i)) (htc:t<cc) :
  AC Tryz.prog 20 [.ptr t 0,I64 d] H cc (fun v H' c'=>v=.str (in0 L w i).1/\H'=H.upd t (mkB L w (in0 L w i).2)):=by
 refine AC.bodyT B2 rfl (A0A rfl) fun hfr=>?_;have qd:decide (d<=0)=true:=by simpa using hd
 have kI:∀ (j c0:Nat),j<=300->cc<=c0->IW Tryz.prog 86 (pz Tryz.prog 20 (.i (.i (.o .h)))) ⟨tm [(0,.ptr t 0),(1,I64 d)],H.upd t (mkB L w j),c0⟩ (rt [.tmp 4] fun v H' c' => ∃ v2 H2,GL H' [v] H2 [v2]/\v2=.str (in1 L w j).1/\H2=H.upd t (mkB L w (in1 L w j).2)):=by
  intro j c0 hj hc0;unfold in1;repeat' ((with_reducible first|refine wr ?_|refine A2 ?_ ?_|fail)<;>try simp only [go_sem,seval,qd])
  refine AC.call (c_Next L hL w j hj 7 (by decide) (by decide) _ _ t A0 (by omega)) ?_;rintro v' H' c2 ⟨rfl,rfl⟩ hc2;rw [A1];have hi2:=G3 hL (n:=7) hj;generalize nxK L 7 j=k at hi2 ⊢;obtain ⟨k,i2⟩:=k;dsimp only at hi2 ⊢;by_cases k0:k=0
  ·subst k0;rw [if_pos (.inl rfl)];simp only [go_sem,seval];repeat' ((with_reducible first|refine wr ?_|refine A2 ?_ ?_|fail)<;>try simp only [go_sem,seval])
   refine AC.call (c_name32 L hL w i2 hw hi2 [118] (by decide) 3 (by decide) (by decide) _ _ t A0 (by omega)) ?_;rintro v' H' c3 ⟨rfl,rfl⟩ hc3;rw [A1];simp only [go_sem,seval];repeat' ((with_reducible first|refine wr ?_|refine A2 ?_ ?_|fail)<;>try simp only [go_sem,seval])
   exact ⟨_,_,GL.refl _ _,rfl,rfl⟩
  have q0:((k:Int) == 0)=false:=by simpa using k0
  by_cases k1:k=1
  ·subst k1;rw [if_pos (.inr rfl)];simp only [go_sem,seval];repeat' ((with_reducible first|refine wr ?_|refine A2 ?_ ?_|fail)<;>try simp only [go_sem,seval])
   refine AC.call (c_name32 L hL w i2 hw hi2 [118] (by decide) 3 (by decide) (by decide) _ _ t A0 (by omega)) ?_;rintro v' H' c3 ⟨rfl,rfl⟩ hc3;rw [A1];simp only [go_sem,seval];repeat' ((with_reducible first|refine wr ?_|refine A2 ?_ ?_|fail)<;>try simp only [go_sem,seval])
   exact ⟨_,_,GL.refl _ _,rfl,rfl⟩
  have q1:((k:Int) == 1)=false:=by simp;omega
  rw [if_neg (by omega)];by_cases k2:k=2
  ·subst k2;simp only [go_sem,seval];repeat' ((with_reducible first|refine wr ?_|refine A2 ?_ ?_|fail)<;>try simp only [go_sem,seval])
   exact ⟨_,_,GL.refl _ _,rfl,rfl⟩
  have q2:((k:Int) == 2)=false:=by simp;omega
  rw [if_neg k2];by_cases k3:k=3
  ·subst k3;simp only [go_sem,seval];repeat' ((with_reducible first|refine wr ?_|refine A2 ?_ ?_|fail)<;>try simp only [go_sem,seval])
   exact ⟨_,_,GL.refl _ _,rfl,rfl⟩
  have q3:((k:Int) == 3)=false:=by simp;omega
  rw [if_neg k3];by_cases k4:k=4
  ·subst k4;rw [if_pos rfl];simp only [go_sem,seval];repeat' ((with_reducible first|refine wr ?_|refine A2 ?_ ?_|fail)<;>try simp only [go_sem,seval])
   refine AC.call (c_name32 L hL w i2 hw hi2 [116,109] (by decide) 2 (by decide) (by decide) _ _ t A0 (by omega)) ?_;rintro v' H' c3 ⟨rfl,rfl⟩ hc3;have hl:=A2v (L:=L) (w:=w) (i:=i2) (p:=[116,109]) (n:=2) (by decide) (by decide);generalize nmK L w [116,109] 2 i2=a at hl ⊢;have hadd:=R5 (s:=[108,101,102,116,32]) (t:=a.1) (by simp at hl ⊢;omega);simp only [go_sem,seval,A1,hadd];repeat' ((with_reducible first|refine wr ?_|refine A2 ?_ ?_|fail)<;>try simp only [go_sem,seval,A1,hadd])
   exact ⟨_,_,GL.refl _ _,rfl,rfl⟩
  have q4:((k:Int) == 4)=false:=by simp;omega
  rw [if_neg k4];by_cases k5:k=5
  ·subst k5;rw [if_pos rfl];simp only [go_sem,seval];repeat' ((with_reducible first|refine wr ?_|refine A2 ?_ ?_|fail)<;>try simp only [go_sem,seval])
   refine AC.call (c_Next L hL w i2 hi2 4 (by decide) (by decide) _ _ t (by rw [A3 (by omega)];exact A0) (by omega)) ?_;rintro v' H' c3 ⟨rfl,rfl⟩ hc3;have hlt:=M8 L i2 (n:=4) (by decide);generalize (nxK L 4 i2)=kq at hlt ⊢;obtain ⟨k,i3⟩:=kq;dsimp only at hlt ⊢;have hia:P5 1 (.slc c2 0 4) (I64 (k:Int))=some (.ptr c2 k):=by simp [P5];omega
   have hld:([.str [50,49,52,55,52,56,51,54,52,55],.str [49,48,48,48,48,48,48],.str [54,53,53,51,54],.str [49,48,48,48,48,48]]:List DV)[k]? = some (.str (E2c.getD k [])):=by
    match k,hlt with
    | 0,_=>rfl
    | 1,_=>rfl
    | 2,_=>rfl
    | 3,_=>rfl
   have ne0:=X3 t c2 (by omega);generalize hWL:([.str [50,49,52,55,52,56,51,54,52,55],.str [49,48,48,48,48,48,48],.str [54,53,53,51,54],.str [49,48,48,48,48,48]]:List DV)=WL at hld ⊢;simp only [go_sem,seval,A0,A1,ne0,hia,hld];repeat' ((with_reducible first|refine wr ?_|refine A2 ?_ ?_|fail)<;>try simp only [go_sem,seval,A0,A1,ne0,hia,hld])
   exact ⟨_,_,A4s hfr htc (by omega),rfl,rfl⟩
  have q5:((k:Int) == 5)=false:=by simp;omega
  rw [if_neg k5];simp only [go_sem,seval,q0,q1,q2,q3,q4,q5];repeat' ((with_reducible first|refine wr ?_|refine A2 ?_ ?_|fail)<;>try simp only [go_sem,seval,q0,q1,q2,q3,q4,q5])
  refine AC.call (c_Next L hL w i2 hi2 12 (by decide) (by decide) _ _ t A0 (by omega)) ?_;rintro v' H' c3 ⟨rfl,rfl⟩ hc3;rw [A1];have hlt:=M8 L i2 (n:=12) (by decide);have hdc:=c_Dec' ((nxK L 12 i2).1:Int) (by omega) (by omega);simp only [go_sem,seval];repeat' ((with_reducible first|refine wr ?_|refine cpc hdc ?_|refine A2 ?_ ?_|fail)<;>try simp only [go_sem,seval])
  exact ⟨_,_,GL.refl _ _,rfl,rfl⟩
 unfold in0 wlK;by_cases h0:0<w
 ·have q0:decide ((w:Int)>0)=true:=by simpa using h0
  have hw4:IntKind.i64.wrap (4 * (w:Int))=((4 * w:Nat):Int):=by rw [w6z (by omega)];omega
  repeat' ((with_reducible first|refine wr ?_|refine A2 ?_ ?_|fail)<;>try simp only [go_sem,seval,ht,q0,hw4])
  refine AC.call (c_Next L hL w i hi (4 * w) (by omega) (by omega) _ _ t ht (by omega)) ?_;rintro v' H' c2 ⟨rfl,rfl⟩ hc2;have hi2:=G3 hL (n:=4 * w) hi;generalize nxK L (4 * w) i=k at hi2 ⊢;obtain ⟨k,i2⟩:=k;dsimp only at hi2 ⊢;by_cases k1:k=1
  ·subst k1;rw [if_pos ⟨h0,rfl⟩];have hw1:=w64 (n:=d-1);simp only [go_sem,seval];repeat' ((with_reducible first|refine wr ?_|refine A2 ?_ ?_|fail)<;>try simp only [go_sem,seval,hw1])
   refine AC.call (c_bl0 L hL w hw i2 hi2 (d-1) (by omega) _ _ t A0 (by omega)) ?_;rintro v' H' c3 ⟨rfl,rfl⟩ hc3;rw [A1];simp only [go_sem,seval];repeat' ((with_reducible first|refine wr ?_|refine A2 ?_ ?_|fail)<;>try simp only [go_sem,seval])
   exact ⟨_,_,GL.refl _ _,rfl,rfl⟩
  have q1:((k:Int) == 1)=false:=by simp;omega
  rw [if_neg (fun h=>k1 h.2),if_pos h0];simp only [go_sem,seval,q1];repeat' ((with_reducible first|refine E3 (p:=IW _ _ (pz Tryz.prog 20 (.i (.i (.o .h)))) _ _) ?_|refine wr ?_|refine A2 ?_ ?_|fail)<;>try simp only [go_sem,seval,q1])
  exact IW.stage (by simp [C6,tm,Tm.upd]) (kI i2 _ hi2 hc2)
 ·have q0:decide ((w:Int)>0)=false:=by simpa using h0
  rw [if_neg (fun h=>h0 h.1),if_neg h0];have hHt:H=H.upd t (mkB L w i):=(upd_same ht).symm;repeat' ((with_reducible first|refine E3 (p:=IW _ _ (pz Tryz.prog 20 (.i (.i (.o .h)))) _ _) ?_|refine wr ?_|refine A2 ?_ ?_|fail)<;>try simp only [go_sem,seval,ht,q0])
  have:=kI i cc hi (A0H _);rw [upd_same ht] at this;exact IW.stage (by simp [C6,tm,Tm.upd]) this
def lnB:Nat->Nat
 | 0=>300
 | d+1=>2 * lnB d+300
theorem D4k (d:Nat):300<=lnB d:=by cases d<;>simp only [lnB]<;>omega
def B1x (n:Nat) (f:Nat->Mk):Prop:=∀ i,i<=300->(f i).1.length<=n/\(f i).2<=300
theorem B5h {L:List UInt8} (hL:L.length<=300) (w:Nat):B1x 300 (bl0 L w):=by
 intro i hi;unfold bl0;dsimp only;have h2:=G3 hL (n:=5) hi;split
 ·exact ⟨by simp,h2⟩
 ·split
  ·exact ⟨by simp,h2⟩
  ·split
   ·have:=A2v (L:=L) (w:=w) (i:=(nxK L 5 i).2) (p:=[109,111,100,101]) (n:=3) (by decide) (by decide);exact ⟨by simp at this ⊢;omega,A6u hL h2⟩
   ·have:=A2v (L:=L) (w:=w) (i:=(nxK L 5 i).2) (p:=[115,119]) (n:=4) (by decide) (by decide);exact ⟨by simp at this ⊢;omega,A6u hL h2⟩
theorem R8 {l:List (List UInt8)} {n:Nat} (h:∀ x∈l,x.length<=n) (k:Nat):(l.getD k []).length<=n:=by
 rw [A0S];cases hk:l[k]? with
 | none=>simp
 | some x=>exact h x (A0Y hk)
theorem D9x {L:List UInt8} (hL:L.length<=300) (w:Nat):B1x 300 (in1 L w):=by
 intro i hi;unfold in1;dsimp only;have h2:=G3 hL (n:=7) hi;split
 ·have:=A2v (L:=L) (w:=w) (i:=(nxK L 7 i).2) (p:=[118]) (n:=3) (by decide) (by decide);exact ⟨by simp at this ⊢;omega,A6u hL h2⟩
 ·split
  ·exact ⟨by simp,h2⟩
  ·split
   ·exact ⟨by simp,h2⟩
   ·split
    ·have:=A2v (L:=L) (w:=w) (i:=(nxK L 7 i).2) (p:=[116,109]) (n:=2) (by decide) (by decide);exact ⟨by simp at this ⊢;omega,A6u hL h2⟩
    ·split
     ·exact ⟨A1U (R8 (n:=300) (by decide) _) (by decide),G3 hL h2⟩
     ·have hlt:=M8 L (nxK L 7 i).2 (n:=12) (by decide);have h:=N8 (n:=((nxK L 12 (nxK L 7 i).2).1:Int)) (by omega) (by omega);exact ⟨A1U h (by decide),G3 hL h2⟩
theorem D6r {L:List UInt8} (hL:L.length<=300) {w n:Nat} {f g:Nat->Mk} (hf:B1x n f) (hg:B1x n g):B1x n (wlK L w f g):=by
 intro i hi;unfold wlK;dsimp only;have h2:=G3 hL (n:=4 * w) hi;split
 ·exact hf _ h2
 ·split
  ·exact hg _ h2
  ·exact hg _ hi
theorem B1x.mono {n m:Nat} {f:Nat->Mk} (h:B1x n f) (hnm:n<=m):B1x m f:=fun i hi=>⟨A1U (h i hi).1 hnm,(h i hi).2⟩
theorem B5g {L:List UInt8} (hL:L.length<=300) (w:Nat):B1x 300 (in0 L w):=D6r hL (B5h hL w) (D9x hL w)
theorem A6r {L:List UInt8} (hL:L.length<=300) (w:Nat):∀ d,B1x (lnB d) (inK L w d)/\B1x (lnB d) (blK L w d)
 | 0=>⟨fun i hi=>by rw [inK];exact B5g hL w i hi,fun i hi=>by rw [blK];exact B5h hL w i hi⟩
 | d+1=>by
  obtain ⟨h1,h2⟩:=A6r hL w d;have h300:=D4k d;have e:lnB (d+1)=2 * lnB d+300:=rfl;refine ⟨fun i hi=>?_,fun i hi=>?_⟩
  ·rw [inK];refine D6r hL (h2.mono (by omega)) (fun i hi=>?_) i hi;dsimp only;have hk:=G3 hL (n:=5) hi;split
   ·exact (B5g hL w).mono (by omega) _ hk
   ·split
    ·have:=B5g hL w _ hk;exact ⟨by simp;omega,this.2⟩
    ·have ha:=h1 _ hk;have hc:=h1 _ ha.2;refine ⟨?_,G3 hL hc.2⟩;have ho:=R8 (l:=C1z) (n:=5) (by decide) (nxK L 5 (inK L w d (inK L w d (nxK L 5 i).2).2).2).1;simp only [A0C,A0B,A0F];omega
  ·rw [blK];dsimp only;have hk:=G3 hL (n:=6) hi;split
   ·have:=B5h hL w _ hk;exact ⟨by simp;omega,this.2⟩
   ·split
    ·have ha:=h2 _ hk;have hc:=h2 _ ha.2;exact ⟨by simp only [A0C,A0B,A0F];omega,hc.2⟩
    ·split
     ·have ha:=h2 _ hk;have hc:=h2 _ ha.2;exact ⟨by simp only [A0C,A0B,A0F];omega,hc.2⟩
     ·have ha:=h1 _ hk;have ho:=G3 hL (n:=6) ha.2;have hc:=h1 _ ho;have hg:=R8 (l:=C5w) (n:=5) (by decide) (nxK L 6 (inK L w d (nxK L 6 i).2).2).1;exact ⟨by simp only [A0C,A0B,A0F];omega,hc.2⟩
def InC (L:List UInt8) (w d:Nat):Prop:=∀ (i:Nat) (hi:i<=300) (H:Hp) (cc t:Nat) (ht:H t=some (mkB L w i)) (htc:t<cc),
  AC Tryz.prog 20 [.ptr t 0,I64 d] H cc (fun v H' c'=>v=.str (inK L w d i).1/\H'=H.upd t (mkB L w (inK L w d i).2))
def BlC (L:List UInt8) (w d:Nat):Prop:=∀ (i:Nat) (hi:i<=300) (H:Hp) (cc t:Nat) (ht:H t=some (mkB L w i)) (htc:t<cc),
  AC Tryz.prog 21 [.ptr t 0,I64 d] H cc (fun v H' c'=>v=.str (blK L w d i).1/\H'=H.upd t (mkB L w (blK L w d i).2))
theorem C3s {G:Hp} {k t:Nat} {b:Blk} (h:¬ t=k):L8 (G.upd k b) [k] t=G t:=by
 simp only [L8];rw [if_neg (by simpa using h),A3 h]
theorem A9o {X:Hp} {k t:Nat} {B:Blk} (h:¬ t=k):G6 [k] X ((L8 X [k]).upd t B)=X.upd t B:=by
 funext j
 simp only [G6];by_cases e:j=k
 ·subst e;rw [if_pos (by simp),A3 (Ne.symm h)]
 ·rw [if_neg (by simpa using e)];by_cases e2:j=t
  ·subst e2;rw [A0,A0]
  ·rw [A3 e2,A3 e2];simp only [L8];rw [if_neg (by simpa using e)]
theorem c_bl1 (L:List UInt8) (hL:L.length<=300) (w:Nat) (hw:w<=100) (d:Nat) (hd:d<=10) (h1:InC L w d) (h2:BlC L w d):BlC L w (d+1):=by
 intro i hi H cc t ht htc;obtain ⟨o1,o2⟩:=A6r hL w d;have hB:lnB d<=1000000:=by
  have:∀ d,d<=10->lnB d<=1000000:=by decide
  exact this d hd
 refine AC.bodyT B2 rfl (A0A rfl) fun hfr=>?_;have qd:decide (((d+1:Nat):Int)<=0)=false:=by simp<;>omega
 have hw1:IntKind.i64.wrap (((d+1:Nat):Int)-1)=(d:Int):=by rw [w6z (by omega)];omega
 rw [blK];dsimp only;generalize hD:((d+1:Nat):Int)=D at qd hw1 ⊢;repeat' ((with_reducible first|refine wr ?_|refine A2 ?_ ?_|fail)<;>try simp only [go_sem,seval,qd])
 refine AC.call (c_Next L hL w i hi 6 (by decide) (by decide) _ _ t ht (by omega)) ?_;rintro v' H' c2 ⟨rfl,rfl⟩ hc2;have hi2:=G3 hL (n:=6) hi;generalize nxK L 6 i=k at hi2 ⊢;obtain ⟨k,i2⟩:=k;dsimp only at hi2 ⊢;by_cases k0:k=0
 ·subst k0;rw [if_pos rfl];simp only [go_sem,seval];repeat' ((with_reducible first|refine wr ?_|refine A2 ?_ ?_|fail)<;>try simp only [go_sem,seval])
  refine AC.call (c_bl0 L hL w hw i2 hi2 0 (by omega) _ _ t A0 (by omega)) ?_;rintro v' H' c3 ⟨rfl,rfl⟩ hc3;have hl:=(B5h hL w i2 hi2).1;have hadd:=R5 (s:=[33]) (t:=(bl0 L w i2).1) (by simp;omega);rw [A1];simp only [go_sem,seval,hadd];repeat' ((with_reducible first|refine wr ?_|refine A2 ?_ ?_|fail)<;>try simp only [go_sem,seval,hadd])
  exact ⟨_,_,GL.refl _ _,rfl,rfl⟩
 have q0:((k:Int) == 0)=false:=by simpa using k0
 rw [if_neg k0];by_cases k1:k=1
 ·subst k1;rw [if_pos rfl];simp only [go_sem,seval];repeat' ((with_reducible first|refine wr ?_|refine A2 ?_ ?_|fail)<;>try simp only [go_sem,seval,hw1])
  refine AC.call (h2 i2 hi2 _ _ t A0 (by omega)) ?_;rintro v' H' c3 ⟨rfl,rfl⟩ hc3;have hl:=o2 i2 hi2;generalize blK L w d i2=a at hl ⊢;have a1:=R5 (s:=[40]) (t:=a.1) (by simp;omega);have a2:=R5 (s:=40 :: a.1) (t:=[32,38,38,32]) (by simp;omega);rw [A1];simp only [go_sem,seval,a1,a2];repeat' ((with_reducible first|refine wr ?_|refine A2 ?_ ?_|fail)<;>try simp only [go_sem,seval,hw1,a1,a2])
  refine AC.call (h2 a.2 hl.2 _ _ t A0 (by omega)) ?_;rintro v' H' c4 ⟨rfl,rfl⟩ hc4;have hl2:=o2 a.2 hl.2;generalize blK L w d a.2=c at hl2 ⊢;have a3:=R5 (s:=40 :: (a.1++[32,38,38,32])) (t:=c.1) (by simp;omega);have a4:=R5 (s:=40 :: (a.1++[32,38,38,32]++c.1)) (t:=[41]) (by simp;omega);rw [A1];simp only [go_sem,seval,a3,a4];repeat' ((with_reducible first|refine wr ?_|refine A2 ?_ ?_|fail)<;>try simp only [go_sem,seval,a3,a4])
  refine ⟨_,_,GL.refl _ _,?_,rfl⟩;simp
 have q1:((k:Int) == 1)=false:=by simp;omega
 rw [if_neg k1];by_cases k2:k=2
 ·subst k2;rw [if_pos rfl];simp only [go_sem,seval];repeat' ((with_reducible first|refine wr ?_|refine A2 ?_ ?_|fail)<;>try simp only [go_sem,seval,hw1])
  refine AC.call (h2 i2 hi2 _ _ t A0 (by omega)) ?_;rintro v' H' c3 ⟨rfl,rfl⟩ hc3;have hl:=o2 i2 hi2;generalize blK L w d i2=a at hl ⊢;have a1:=R5 (s:=[40]) (t:=a.1) (by simp;omega);have a2:=R5 (s:=40 :: a.1) (t:=[32,124,124,32]) (by simp;omega);rw [A1];simp only [go_sem,seval,a1,a2];repeat' ((with_reducible first|refine wr ?_|refine A2 ?_ ?_|fail)<;>try simp only [go_sem,seval,hw1,a1,a2])
  refine AC.call (h2 a.2 hl.2 _ _ t A0 (by omega)) ?_;rintro v' H' c4 ⟨rfl,rfl⟩ hc4;have hl2:=o2 a.2 hl.2;generalize blK L w d a.2=c at hl2 ⊢;have a3:=R5 (s:=40 :: (a.1++[32,124,124,32])) (t:=c.1) (by simp;omega);have a4:=R5 (s:=40 :: (a.1++[32,124,124,32]++c.1)) (t:=[41]) (by simp;omega);rw [A1];simp only [go_sem,seval,a3,a4];repeat' ((with_reducible first|refine wr ?_|refine A2 ?_ ?_|fail)<;>try simp only [go_sem,seval,a3,a4])
  refine ⟨_,_,GL.refl _ _,?_,rfl⟩;simp
 have q2:((k:Int) == 2)=false:=by simp;omega
 rw [if_neg k2];simp only [go_sem,seval,q0,q1,q2];repeat' ((with_reducible first|refine wr ?_|refine A2 ?_ ?_|fail)<;>try simp only [go_sem,seval,q0,q1,q2,hw1])
 refine AC.call (h1 i2 hi2 _ _ t A0 (by omega)) ?_;rintro v' H' c3 ⟨rfl,rfl⟩ hc3;have hl:=o1 i2 hi2;generalize inK L w d i2=a at hl ⊢;have a1:=R5 (s:=a.1) (t:=[32]) (by simp;omega);rw [A1];simp only [go_sem,seval,a1,hw1];repeat' ((with_reducible first|refine wr ?_|refine A2 ?_ ?_|fail)<;>try simp only [go_sem,seval,hw1,a1])
 refine AC.call (c_Next L hL w a.2 hl.2 6 (by decide) (by decide) _ _ t (by rw [C3s (by omega)];exact A0) (by omega)) ?_;rintro v' H' c4 ⟨rfl,rfl⟩ hc4;have hlt:=M8 L a.2 (n:=6) (by decide);have ho2:=G3 hL (n:=6) hl.2;generalize nxK L 6 a.2=kq at hlt ho2 ⊢;obtain ⟨k3,i3⟩:=kq;dsimp only at hlt ho2 ⊢;have hmg:∀ (X:Hp) (B:Blk),G6 [c3+2] X ((L8 X [c3+2]).upd t B)=X.upd t B:=fun X B=>A9o (by omega);have hia:P5 1 (.slc (c3+2) 0 6) (I64 (k3:Int))=some (.ptr (c3+2) k3):=by simp [P5];omega
 have hld:([.str [60],.str [60,61],.str [62],.str [62,61],.str [61,61],.str [33,61]]:List DV)[k3]? = some (.str (C5w.getD k3 [])):=by
  match k3,hlt with
  | 0,_=>rfl
  | 1,_=>rfl
  | 2,_=>rfl
  | 3,_=>rfl
  | 4,_=>rfl
  | 5,_=>rfl
 have hg:=R8 (l:=C5w) (n:=5) (by decide) k3;generalize C5w.getD k3 []=og at hg hld ⊢;generalize hWL:([.str [60],.str [60,61],.str [62],.str [62,61],.str [61,61],.str [33,61]]:List DV)=WL at hld ⊢;have ne0:=X3 t (c3+2) (by omega);have a2:=R5 (s:=a.1++[32]) (t:=og) (by simp;omega);have a3:=R5 (s:=a.1++[32]++og) (t:=[32]) (by simp;omega);simp only [go_sem,seval,hmg,A0,A1,ne0,hia,hld,a1,a2,a3,hw1];refine ⟨by and_intros<;>first|rfl|(rw [<- hWL];done)|((repeat rw [A3 (by omega)]);exact hfr _ (by omega)),?_⟩;refine AC.call (h1 i3 ho2 _ _ t (by simp only [L8];rw [if_neg (by simp;omega)];exact A0) (by omega)) ?_;rintro v' H' c5 ⟨rfl,rfl⟩ hc5;have hl3:=o1 i3 ho2;generalize inK L w d i3=c at hl3 ⊢;have a4:=R5 (s:=a.1++[32]++og++[32]) (t:=c.1) (by simp;omega);simp only [go_sem,seval,hmg,A0,A1,ne0,hia,hld,a1,a2,a3,a4,hw1];refine ⟨by and_intros<;>first|rfl|(rw [<- hWL];done)|((repeat rw [A3 (by omega)]);exact hfr _ (by omega)),?_⟩;repeat' ((with_reducible first|refine wr ?_|refine A2 ?_ ?_|fail)<;>try simp only [go_sem,seval])
 exact ⟨_,_,A4s hfr htc (by omega),by simp,rfl⟩
def in2 (L:List UInt8) (w d i:Nat):Mk :=
 let k:=nxK L 5 i
 if k.1=0 then in0 L w k.2
 else if k.1=1 then let a:=in0 L w k.2;([45]++a.1,a.2)
 else
  let a:=inK L w d k.2
  let c:=inK L w d a.2
  let o:=nxK L 5 c.2
  (((((([40]++a.1)++[32])++C1z.getD o.1 [])++[32])++c.1)++[41],o.2)
theorem c_in2 (L:List UInt8) (hL:L.length<=300) (w:Nat) (hw:w<=100) (d:Nat) (hd:d<=10) (h1:InC L w d) (h2:BlC L w d):InC L w (d+1):=by
 intro i hi H cc t ht htc;obtain ⟨o1,o2⟩:=A6r hL w d;have hB:lnB d<=1000000:=by
  have:∀ d,d<=10->lnB d<=1000000:=by decide
  exact this d hd
 refine AC.bodyT B2 rfl (A0A rfl) fun hfr=>?_;have qd:decide (((d+1:Nat):Int)<=0)=false:=by simp<;>omega
 have hw1:IntKind.i64.wrap (((d+1:Nat):Int)-1)=(d:Int):=by rw [w6z (by omega)];omega
 rw [show inK L w (d+1) i=wlK L w (blK L w d) (in2 L w d) i from by rw [inK];rfl];generalize hD:((d+1:Nat):Int)=D at qd hw1 ⊢;have kI:∀ (j c0:Nat),j<=300->cc<=c0->IW Tryz.prog 86 (pz Tryz.prog 20 (.i (.i (.o .h)))) ⟨tm [(0,.ptr t 0),(1,I64 D)],H.upd t (mkB L w j),c0⟩ (rt [.tmp 4] fun v H' c' => ∃ v2 H2,GL H' [v] H2 [v2]/\v2=.str (in2 L w d j).1/\H2=H.upd t (mkB L w (in2 L w d j).2)):=by
  intro j c0 hj hc0;unfold in2;repeat' ((with_reducible first|refine wr ?_|refine A2 ?_ ?_|fail)<;>try simp only [go_sem,seval,qd])
  refine AC.call (c_Next L hL w j hj 5 (by decide) (by decide) _ _ t A0 (by omega)) ?_;rintro v' H' c2 ⟨rfl,rfl⟩ hc2;rw [A1];have hi2:=G3 hL (n:=5) hj;generalize nxK L 5 j=k at hi2 ⊢;obtain ⟨k,i2⟩:=k;dsimp only at hi2 ⊢;by_cases k0:k=0
  ·subst k0;rw [if_pos rfl];simp only [go_sem,seval];repeat' ((with_reducible first|refine wr ?_|refine A2 ?_ ?_|fail)<;>try simp only [go_sem,seval])
   refine AC.call (c_in0 L hL w hw i2 hi2 0 (by omega) (by omega) _ _ t A0 (by omega)) ?_;rintro v' H' c3 ⟨rfl,rfl⟩ hc3;rw [A1];simp only [go_sem,seval];repeat' ((with_reducible first|refine wr ?_|refine A2 ?_ ?_|fail)<;>try simp only [go_sem,seval])
   exact ⟨_,_,GL.refl _ _,rfl,rfl⟩
  have q0:((k:Int) == 0)=false:=by simpa using k0
  rw [if_neg k0];by_cases k1:k=1
  ·subst k1;rw [if_pos rfl];simp only [go_sem,seval];repeat' ((with_reducible first|refine wr ?_|refine A2 ?_ ?_|fail)<;>try simp only [go_sem,seval])
   refine AC.call (c_in0 L hL w hw i2 hi2 0 (by omega) (by omega) _ _ t A0 (by omega)) ?_;rintro v' H' c3 ⟨rfl,rfl⟩ hc3;rw [A1];have hl:=(B5g hL w i2 hi2).1;have hadd:=R5 (s:=[45]) (t:=(in0 L w i2).1) (by simp;omega);simp only [go_sem,seval,hadd];repeat' ((with_reducible first|refine wr ?_|refine A2 ?_ ?_|fail)<;>try simp only [go_sem,seval,hadd])
   exact ⟨_,_,GL.refl _ _,rfl,rfl⟩
  have q1:((k:Int) == 1)=false:=by simp;omega
  rw [if_neg k1];simp only [go_sem,seval,q0,q1];repeat' ((with_reducible first|refine wr ?_|refine A2 ?_ ?_|fail)<;>try simp only [go_sem,seval,q0,q1,hw1])
  refine AC.call (h1 i2 hi2 _ _ t A0 (by omega)) ?_;rintro v' H' c3 ⟨rfl,rfl⟩ hc3;have hl:=o1 i2 hi2;generalize inK L w d i2=a at hl ⊢;rw [A1];simp only [go_sem,seval,hw1];repeat' ((with_reducible first|refine wr ?_|refine A2 ?_ ?_|fail)<;>try simp only [go_sem,seval,hw1])
  refine AC.call (h1 a.2 hl.2 _ _ t A0 (by omega)) ?_;rintro v' H' c4 ⟨rfl,rfl⟩ hc4;have hl2:=o1 a.2 hl.2;generalize inK L w d a.2=c at hl2 ⊢;rw [A1];have a1:=R5 (s:=[40]) (t:=a.1) (by simp;omega);have a2:=R5 (s:=40 :: a.1) (t:=[32]) (by simp;omega);simp only [go_sem,seval,a1,a2];repeat' ((with_reducible first|refine wr ?_|refine A2 ?_ ?_|fail)<;>try simp only [go_sem,seval,a1,a2])
  refine AC.call (c_Next L hL w c.2 hl2.2 5 (by decide) (by decide) _ _ t (by rw [A3 (by omega)];exact A0) (by omega)) ?_;rintro v' H' c5 ⟨rfl,rfl⟩ hc5;have hlt:=M8 L c.2 (n:=5) (by decide);generalize nxK L 5 c.2=kq at hlt ⊢;obtain ⟨k3,i3⟩:=kq;dsimp only at hlt ⊢;have hia:P5 1 (.slc c4 0 5) (I64 (k3:Int))=some (.ptr c4 k3):=by simp [P5];omega
  have hld:([.str [43],.str [45],.str [42],.str [47],.str [37]]:List DV)[k3]? = some (.str (C1z.getD k3 [])):=by
   match k3,hlt with
   | 0,_=>rfl
   | 1,_=>rfl
   | 2,_=>rfl
   | 3,_=>rfl
   | 4,_=>rfl
  have hg:=R8 (l:=C1z) (n:=5) (by decide) k3;generalize C1z.getD k3 []=og at hg hld ⊢;generalize hWL:([.str [43],.str [45],.str [42],.str [47],.str [37]]:List DV)=WL at hld ⊢;have ne0:=X3 t c4 (by omega);have a3:=R5 (s:=40 :: (a.1++[32])) (t:=og) (by simp;omega);have a4:=R5 (s:=40 :: (a.1++[32]++og)) (t:=[32]) (by simp;omega);have a5:=R5 (s:=40 :: (a.1++[32]++og++[32])) (t:=c.1) (by simp;omega);have a6:=R5 (s:=40 :: (a.1++[32]++og++[32]++c.1)) (t:=[41]) (by simp;omega);simp only [go_sem,seval,A0,A1,ne0,hia,hld,a3,a4,a5,a6];repeat' ((with_reducible first|refine wr ?_|refine A2 ?_ ?_|fail)<;>try simp only [go_sem,seval,A0,A1,ne0,hia,hld,a3,a4,a5,a6])
  exact ⟨_,_,A4s hfr htc (by omega),by simp,rfl⟩
 unfold wlK;by_cases h0:0<w
 ·have q0:decide ((w:Int)>0)=true:=by simpa using h0
  have hw4:IntKind.i64.wrap (4 * (w:Int))=((4 * w:Nat):Int):=by rw [w6z (by omega)];omega
  repeat' ((with_reducible first|refine wr ?_|refine A2 ?_ ?_|fail)<;>try simp only [go_sem,seval,ht,q0,hw4])
  refine AC.call (c_Next L hL w i hi (4 * w) (by omega) (by omega) _ _ t ht (by omega)) ?_;rintro v' H' c2 ⟨rfl,rfl⟩ hc2;have hi2:=G3 hL (n:=4 * w) hi;generalize nxK L (4 * w) i=k at hi2 ⊢;obtain ⟨k,i2⟩:=k;dsimp only at hi2 ⊢;by_cases k1:k=1
  ·subst k1;rw [if_pos ⟨h0,rfl⟩];simp only [go_sem,seval];repeat' ((with_reducible first|refine wr ?_|refine A2 ?_ ?_|fail)<;>try simp only [go_sem,seval,hw1])
   refine AC.call (h2 i2 hi2 _ _ t A0 (by omega)) ?_;rintro v' H' c3 ⟨rfl,rfl⟩ hc3;rw [A1];simp only [go_sem,seval];repeat' ((with_reducible first|refine wr ?_|refine A2 ?_ ?_|fail)<;>try simp only [go_sem,seval])
   exact ⟨_,_,GL.refl _ _,rfl,rfl⟩
  have q1:((k:Int) == 1)=false:=by simp;omega
  rw [if_neg (fun h=>k1 h.2),if_pos h0];simp only [go_sem,seval,q1];repeat' ((with_reducible first|refine E3 (p:=IW _ _ (pz Tryz.prog 20 (.i (.i (.o .h)))) _ _) ?_|refine wr ?_|refine A2 ?_ ?_|fail)<;>try simp only [go_sem,seval,q1])
  exact IW.stage (by simp [C6,tm,Tm.upd]) (kI i2 _ hi2 hc2)
 ·have q0:decide ((w:Int)>0)=false:=by simpa using h0
  rw [if_neg (fun h=>h0 h.1),if_neg h0];repeat' ((with_reducible first|refine E3 (p:=IW _ _ (pz Tryz.prog 20 (.i (.i (.o .h)))) _ _) ?_|refine wr ?_|refine A2 ?_ ?_|fail)<;>try simp only [go_sem,seval,ht,q0])
  have:=kI i cc hi (A0H _);rw [upd_same ht] at this;exact IW.stage (by simp [C6,tm,Tm.upd]) this
theorem c_exK (L:List UInt8) (hL:L.length<=300) (w:Nat) (hw:w<=100):∀ d,d<=10->InC L w d/\BlC L w d
 | 0,_=>⟨fun i hi H cc t ht htc=>by rw [inK];exact c_in0 L hL w hw i hi 0 (by omega) (by omega) H cc t ht htc,fun i hi H cc t ht htc=>by rw [blK];exact c_bl0 L hL w hw i hi 0 (by omega) H cc t ht htc⟩
 | d+1,h=>by
  obtain ⟨h1,h2⟩:=c_exK L hL w hw d (by omega);exact ⟨c_in2 L hL w hw d (by omega) h1 h2,c_bl1 L hL w hw d (by omega) h1 h2⟩
def NmS (L:List UInt8) (w:Nat) (p:List UInt8) (n:Nat) (s:List UInt8):Prop:=∃ i,i<=300/\s=(nmK L w p n i).1
def InS (L:List UInt8) (w d:Nat) (s:List UInt8):Prop:=∃ i,i<=300/\s=(inK L w d i).1
def BlS (L:List UInt8) (w d:Nat) (s:List UInt8):Prop:=∃ i,i<=300/\s=(blK L w d i).1
theorem D9 (a b:List UInt8) (h:a.length+b.length<=100000000):∃ x,x=a++b/\x.length=a.length+b.length/\binR .add (.str a) (.str b)=some (.str x) :=
 ⟨_,rfl,by simp,R5 (by omega)⟩
def D0o:List (List UInt8):=[[102,105,114,101,32],[104,111,108,100,32],[114,101,108,101,97,115,101,32]]
def C7w:List (List UInt8):=[[114,117,110,32],[104,97,108,116,32]]
def C6p:List (List UInt8):=[[103,111],[106,97,99,107,112,111,116],[97,92,34,98],[]]
def C0r:List (List UInt8 × List UInt8 × Nat):=[([115,116,111,112,32],[116,109],2),([98,101,103,105,110,32],[109,111,100,101],3),([101,110,100,32],[109,111,100,101],3),([112,111,115,116,32],[101,118],2),([112,108,97,121,32],[115,110,100],2)]
inductive StG (L:List UInt8) (w:Nat) (K:List UInt8->Prop):List UInt8->Prop where
 | ifA {b x:List UInt8}:BlS L w 1 b->K x->StG L w K ((([105,102,32]++b)++[32])++x)
 | ifB {b x y:List UInt8}:BlS L w 1 b->K x->K y->StG L w K ((((([105,102,32]++b)++[32])++x)++[32,101,108,115,101,32])++y)
 | ifC {b x c y:List UInt8}:BlS L w 1 b->K x->BlS L w 0 c->K y->StG L w K ((((((([105,102,32]++b)++[32])++x)++[32,101,108,115,101,32,105,102,32])++c)++[32])++y)
 | rep {e x:List UInt8}:InS L w 0 e->K x->StG L w K ((([114,101,112,101,97,116,32]++e)++[32])++x)
 | sco {e:List UInt8}:InS L w 1 e->StG L w K (([115,99,111,114,101,32]++e)++[59])
 | fir {k:Nat} {n:List UInt8}:k<3->NmS L w [99,111,105,108] 3 n->StG L w K ((D0o.getD k []++n)++[59])
 | lig {n e:List UInt8}:NmS L w [108,97,109,112] 4 n->InS L w 0 e->StG L w K (((([108,105,103,104,116,32]++n)++[32])++e)++[59])
 | bli {n e f:List UInt8}:NmS L w [108,97,109,112] 4 n->InS L w 0 e->InS L w 0 f->StG L w K (((((([98,108,105,110,107,32]++n)++[32])++e)++[44,32])++f)++[59])
 | sta {n e:List UInt8}:NmS L w [116,109] 2 n->InS L w 1 e->StG L w K (((([115,116,97,114,116,32]++n)++[32])++e)++[59])
 | one {q:List UInt8 × List UInt8 × Nat} {n:List UInt8}:q∈C0r->NmS L w q.2.1 q.2.2 n->StG L w K ((q.1++n)++[59])
 | run {k:Nat} {n:List UInt8}:k<2->NmS L w [115,104,111,119] 2 n->StG L w K ((C7w.getD k []++n)++[59])
 | txt {k:Nat} {e:List UInt8}:k<4->InS L w 0 e->StG L w K (((([116,101,120,116,32,34]++C6p.getD k [])++[34,44,32])++e)++[59])
 | con:StG L w K [99,111,110,115,117,109,101,59]
 | asg {n e:List UInt8}:NmS L w [118] 3 n->InS L w 2 e->StG L w K (((n++[32,61,32])++e)++[59])
def A3x (ss:List (List UInt8)):List UInt8:=ss.foldl (fun a x=>(a++[32])++x) [123]
theorem B1g (ss:List (List UInt8)) (x:List UInt8):A3x (ss++[x])=(A3x ss++[32])++x:=by unfold A3x;rw [A4Q];rfl
def BkG (P:List UInt8->Prop) (s:List UInt8):Prop:=∃ ss:List (List UInt8),ss.length<=3/\(∀ x∈ss,P x)/\s=A3x ss++[32,125]
def StD (L:List UInt8) (w:Nat):Nat->List UInt8->Prop
 | 0=>StG L w fun _=>False
 | d+1=>StG L w (BkG (StD L w d))
def C4l:List (List UInt8):=[[115,116,97,114,116],[115,116,111,112],[99,108,111,115,101,32,115,119,48],[111,112,101,110,32,115,119,48],[99,108,111,115,101,32,115,119,49],[99,108,111,115,101,32,115,119,50],[116,105,109,101,114,32,116,109,48],[116,105,109,101,114,32,116,109,49],[101,118,101,110,116,32,101,118,48],[101,118,101,110,116,32,101,118,49],[111,112,101,110,32,115,119,51]]
def D7y:List DV:=[.str [115,116,97,114,116],.str [115,116,111,112],.str [99,108,111,115,101,32,115,119,48],.str [111,112,101,110,32,115,119,48],.str [99,108,111,115,101,32,115,119,49],.str [99,108,111,115,101,32,115,119,50],.str [116,105,109,101,114,32,116,109,48],.str [116,105,109,101,114,32,116,109,49],.str [101,118,101,110,116,32,101,118,48],.str [101,118,101,110,116,32,101,118,49],.str [111,112,101,110,32,115,119,51]]
theorem C6s {k:Nat} (h:k<11):D7y[k]? = some (.str (C4l.getD k [])):=by
 match k,h with
 | 0,_=>rfl
 | 1,_=>rfl
 | 2,_=>rfl
 | 3,_=>rfl
 | 4,_=>rfl
 | 5,_=>rfl
 | 6,_=>rfl
 | 7,_=>rfl
 | 8,_=>rfl
 | 9,_=>rfl
 | 10,_=>rfl
inductive HdG (L:List UInt8) (w k:Nat):List UInt8->Prop where
 | std {x:List UInt8}:BkG (StD L w 2) x->HdG L w k ((([111,110,32]++C4l.getD (k % 11) [])++[32])++x)
 | wild {n x:List UInt8}:0<w->NmS L w [115,119] 4 n->BkG (StD L w 2) x->HdG L w k ((([111,110,32]++([99,108,111,115,101,32]++n))++[32])++x)
def ruA:List UInt8:=[115,119,105,116,99,104,32,115,119,48,32,51,59,32,115,119,105,116,99,104,32,115,119,49,32,57,59,32,115,119,105,116,99,104,32,115,119,50,32,52,48,59,32,115,119,105,116,99,104,32,115,119,51,32,54,51,59,10,99,111,105,108,32,99,111,105,108,48,32,48,59,32,99,111,105,108,32,99,111,105,108,49,32,55,59,32,99,111,105,108,32,99,111,105,108,50,32,51,49,59,10,108,97,109,112,32,108,97,109,112,48,32,48,59,32,108,97,109,112,32,108,97,109,112,49,32,57,59,32,108,97,109,112,32,108,97,109,112,50,32,51,51,59,32,108,97,109,112,32,108,97,109,112,51,32,54,51,59,10,115,111,117,110,100,32,115,110,100,48,32,48,59,32,115,111,117,110,100,32,115,110,100,49,32,53,59,32,115,104,111,119,32,115,104,111,119,48,32,48,59,32,115,104,111,119,32,115,104,111,119,49,32,49,59,10]
def ruB:List UInt8:=[118,97,114,32,118,48,32]
def ruC:List UInt8:=[59,32,118,97,114,32,118,49,32,49,59,32,118,97,114,32,118,50,32,48,59,32,116,105,109,101,114,32,116,109,48,59,32,116,105,109,101,114,32,116,109,49,59,32,101,118,101,110,116,32,101,118,48,59,32,101,118,101,110,116,32,101,118,49,59,10]
def v0L:List (List UInt8):=[[48],[53],[45,55],[50,49,52,55,52,56,51,54,52,55]]
def v0V:List DV:=[.str [48],.str [53],.str [45,55],.str [50,49,52,55,52,56,51,54,52,55]]
theorem D2g {k:Nat} (h:k<4):v0V[k]? = some (.str (v0L.getD k [])):=by
 match k,h with
 | 0,_=>rfl
 | 1,_=>rfl
 | 2,_=>rfl
 | 3,_=>rfl
def A1i (s:List UInt8) (hs:List (List UInt8)):List UInt8:=hs.foldl (fun a x=>(a++x)++[10]) s
theorem C1m (s:List UInt8) (hs:List (List UInt8)) (x:List UInt8):A1i s (hs++[x])=(A1i s hs++x)++[10]:=by unfold A1i;rw [A4Q];rfl
def B5o (s:List UInt8) (i p:Nat):List UInt8:=((((s++[109,111,100,101,32,109,111,100,101])++G8 (i:Int))++[32])++G8 (p:Int))++[32,123,10]
inductive RuP (L:List UInt8) (w:Nat):Nat->List UInt8->Prop where
 | head {k:Nat}:k<4->RuP L w 0 (((ruA++ruB)++v0L.getD k [])++ruC)
 | mode {i p k:Nat} {s:List UInt8} {hs:List (List UInt8)}:RuP L w i s->p<4->k<11->hs.length<=4->(∀ j x,hs[j]? = some x->HdG L w (k+j) x)->RuP L w (i+1) (A1i (B5o s i p) hs++[125,10])
end Go.Proofs.YthlpinppaclofaaGreatDoor
namespace Go.Pb
variable [Go.Sym.Tab]
open Go.Sym
theorem W1 (L:List UInt8) (n i:Nat):i<=(nxK L n i).2/\((nxK L n i).1=0\/i+1<=(nxK L n i).2):=by
 unfold nxK;split
 ·exact ⟨by simp,.inr (A0H _)⟩
 ·exact ⟨A0H _,.inl rfl⟩
def Pot (f:Nat->Mk):Prop:=∀ i,(f i).1.length+50 * i<=5+50 * (f i).2
theorem A4t {l:List (List UInt8)} {n:Nat} (h:∀ x∈l,x.length<=n) (k:Nat):(l.getD k []).length<=n:=by
 rw [A0S];cases hk:l[k]? with
 | none=>simp
 | some x=>exact h x (A0Y hk)
theorem A2u (L:List UInt8) (w:Nat) {p:List UInt8} {n:Nat} (hp:p.length<=4) (hn:0<n) (hn2:n<=1000):Pot (nmK L w p n):=by
 intro i;unfold nmK;dsimp only;obtain ⟨h1,h2⟩:=W1 L w i;split
 ·have h3:=A4t (l:=A1w) (n:=5) (by decide) (nxK L 10 (nxK L w i).2).1;have h4:=B5i L 10 (nxK L w i).2;dsimp only;omega
 ·have key:∀ j,i<=j->(p++G8 ((nxK L n j).1:Int)).length+50 * i<=5+50 * (nxK L n j).2:=by
   intro j hj;obtain ⟨h3,h4⟩:=W1 L n j;have hlt:=M8 L j hn;rw [A0C];rcases h4 with h4|h4
   ·rw [h4];have:(G8 ((0:Nat):Int)).length=1:=by rw [A9u (by decide) (by decide)];rfl
    omega
   ·have:=N8 (n:=((nxK L n j).1:Int)) (by omega) (by omega);omega
  split
  ·exact key _ h1
  ·exact key _ (A0H _)
theorem B6h (L:List UInt8) (w:Nat):Pot (bl0 L w):=by
 intro i;unfold bl0;dsimp only;obtain ⟨h1,h2⟩:=W1 L 5 i;split
 ·show 4+50 * i<=_;dsimp only;omega
 ·split
  ·show 5+50 * i<=_;dsimp only;omega
  ·split
   ·have:=A2u L w (p:=[109,111,100,101]) (n:=3) (by decide) (by decide) (by decide) (nxK L 5 i).2;simp only [A0C,A0B,A0F];omega
   ·have:=A2u L w (p:=[115,119]) (n:=4) (by decide) (by decide) (by decide) (nxK L 5 i).2;simp only [A0C,A0B,A0F];omega
theorem D5b (L:List UInt8) (w:Nat):Pot (in1 L w):=by
 intro i;unfold in1;dsimp only;obtain ⟨h1,h2⟩:=W1 L 7 i;split
 ·have:=A2u L w (p:=[118]) (n:=3) (by decide) (by decide) (by decide) (nxK L 7 i).2;omega
 ·split
  ·show 6+50 * i<=_;dsimp only;omega
  ·split
   ·show 4+50 * i<=_;dsimp only;omega
   ·split
    ·have:=A2u L w (p:=[116,109]) (n:=2) (by decide) (by decide) (by decide) (nxK L 7 i).2;simp only [A0C,A0B,A0F];omega
    ·split
     ·have h3:=A4t (l:=E2c) (n:=10) (by decide) (nxK L 4 (nxK L 7 i).2).1;have h4:=B5i L 4 (nxK L 7 i).2;dsimp only;omega
     ·obtain ⟨h3,h4⟩:=W1 L 12 (nxK L 7 i).2;have hlt:=M8 L (nxK L 7 i).2 (n:=12) (by decide);have:=N8 (n:=((nxK L 12 (nxK L 7 i).2).1:Int)) (by omega) (by omega);dsimp only;omega
theorem C6i (L:List UInt8) (w:Nat) {f g:Nat->Mk} (hf:Pot f) (hg:Pot g):Pot (wlK L w f g):=by
 intro i;unfold wlK;dsimp only;obtain ⟨h1,h2⟩:=W1 L (4 * w) i;split
 ·have:=hf (nxK L (4 * w) i).2;omega
 ·split
  ·have:=hg (nxK L (4 * w) i).2;omega
  ·exact hg i
theorem B5x (L:List UInt8) (w:Nat):Pot (in0 L w):=C6i L w (B6h L w) (D5b L w)
theorem C1i (L:List UInt8) (w:Nat):∀ d,Pot (inK L w d)/\Pot (blK L w d)
 | 0=>⟨fun i=>by rw [inK];exact B5x L w i,fun i=>by rw [blK];exact B6h L w i⟩
 | d+1=>by
  obtain ⟨h1,h2⟩:=C1i L w d;refine ⟨fun i=>?_,fun i=>?_⟩
  ·rw [inK];refine C6i L w h2 (fun i=>?_) i;dsimp only;obtain ⟨k1,k2⟩:=W1 L 5 i;split
   ·have:=B5x L w (nxK L 5 i).2;omega
   ·split
    ·have:=B5x L w (nxK L 5 i).2;simp only [A0C,A0B,A0F];omega
    ·have ha:=h1 (nxK L 5 i).2;have hc:=h1 (inK L w d (nxK L 5 i).2).2;have ho:=B5i L 5 (inK L w d (inK L w d (nxK L 5 i).2).2).2;have hg:=A4t (l:=C1z) (n:=5) (by decide) (nxK L 5 (inK L w d (inK L w d (nxK L 5 i).2).2).2).1;simp only [A0C,A0B,A0F];omega
  ·rw [blK];dsimp only;obtain ⟨k1,k2⟩:=W1 L 6 i;split
   ·have:=B6h L w (nxK L 6 i).2;have e:0<L.length\/True:=.inr trivial;simp only [A0C,A0B,A0F];unfold bl0 at this ⊢;dsimp only at this ⊢;obtain ⟨q1,q2⟩:=W1 L 5 (nxK L 6 i).2;split
    ·show 0+1+4+50 * i<=_;dsimp only;omega
    ·split
     ·show 0+1+5+50 * i<=_;dsimp only;omega
     ·split
      ·have:=A2u L w (p:=[109,111,100,101]) (n:=3) (by decide) (by decide) (by decide) (nxK L 5 (nxK L 6 i).2).2;simp only [A0C,A0B,A0F];omega
      ·have:=A2u L w (p:=[115,119]) (n:=4) (by decide) (by decide) (by decide) (nxK L 5 (nxK L 6 i).2).2;simp only [A0C,A0B,A0F];omega
   ·split
    ·have ha:=h2 (nxK L 6 i).2;have hc:=h2 (blK L w d (nxK L 6 i).2).2;simp only [A0C,A0B,A0F];omega
    ·split
     ·have ha:=h2 (nxK L 6 i).2;have hc:=h2 (blK L w d (nxK L 6 i).2).2;simp only [A0C,A0B,A0F];omega
     ·have ha:=h1 (nxK L 6 i).2;have ho:=B5i L 6 (inK L w d (nxK L 6 i).2).2;have hc:=h1 (nxK L 6 (inK L w d (nxK L 6 i).2).2).2;have hg:=A4t (l:=C5w) (n:=5) (by decide) (nxK L 6 (inK L w d (nxK L 6 i).2).2).1;simp only [A0C,A0B,A0F];omega
end Go.Pb
namespace Go.Proofs.YthlpinppaclofaaGreatDoor
open Go.Eng (IC IOper DReg IFn J0)
open Go.Sym Go.Pb
def MX (f:Nat) (xs:List DV) (L:List UInt8) (w n:Nat) (Q:List UInt8->Prop):Prop:=∀ (i:Nat) (hi:i<=300) (H:Hp) (cc t:Nat) (ht:H t=some (mkB L w i)) (htc:t<cc),
  AC Tryz.prog f (.ptr t 0 :: xs) H cc (fun v H' c' => ∃ s j,Q s/\s.length+50 * i<=n+50 * j/\j<=300/\v=.str s/\H'=H.upd t (mkB L w j))
theorem Q1 (L:List UInt8) (hL:L.length<=300) (w:Nat) (hw:w<=100) (p:List UInt8) (hp:p.length<=4) (n:Nat) (hn:0<n) (hn2:n<=1000):MX 46 [.str p,I64 n] L w 5 (NmS L w p n):=by
 intro i hi H cc t ht htc;refine (c_name32 L hL w i hw hi p (by omega) n hn hn2 H cc t ht htc).mono ?_;rintro v H' c' ⟨rfl,rfl⟩;exact ⟨_,_,⟨i,hi,rfl⟩,A2u L w hp hn hn2 i,A6u hL hi,rfl,rfl⟩
theorem A1j (L:List UInt8) (hL:L.length<=300) (w:Nat) (hw:w<=100) (d:Nat) (hd:d<=2):MX 20 [I64 d] L w 5 (InS L w d):=by
 intro i hi H cc t ht htc;refine ((c_exK L hL w hw d (by omega)).1 i hi H cc t ht htc).mono ?_;rintro v H' c' ⟨rfl,rfl⟩;have h1:=(A6r hL w d).1 i hi;exact ⟨_,_,⟨i,hi,rfl⟩,(C1i L w d).1 i,h1.2,rfl,rfl⟩
theorem B6b (L:List UInt8) (hL:L.length<=300) (w:Nat) (hw:w<=100) (d:Nat) (hd:d<=2):MX 21 [I64 d] L w 5 (BlS L w d):=by
 intro i hi H cc t ht htc;refine ((c_exK L hL w hw d (by omega)).2 i hi H cc t ht htc).mono ?_;rintro v H' c' ⟨rfl,rfl⟩;have h1:=(A6r hL w d).2 i hi;exact ⟨_,_,⟨i,hi,rfl⟩,(C1i L w d).2 i,h1.2,rfl,rfl⟩
theorem Y4 (L:List UInt8) (hL:L.length<=300) (w:Nat) (n:Nat) (hn:0<n) (hn2:n<=1000) (i:Nat) (hi:i<=300) (H:Hp) (cc t:Nat) (ht:H t=some (mkB L w i)) (htc:t<cc) :
  AC Tryz.prog 41 [.ptr t 0,I64 n] H cc (fun v H' c' => ∃ k j,k<n/\j<=300/\(i<=j/\(k=0\/i+1<=j))/\v=I64 (k:Nat)/\H'=H.upd t (mkB L w j)):=by
 refine (c_Next L hL w i hi n hn hn2 H cc t ht htc).mono ?_;rintro v H' c' ⟨rfl,rfl⟩;exact ⟨_,_,M8 L i hn,G3 hL hi,W1 L n i,rfl,rfl⟩
theorem D1f (L:List UInt8) (hL:L.length<=300) (w:Nat) (hw:w<=100) (D:Int) (hD2:D<=10) (hD3 : -10<=D) (K:List UInt8->Prop) (hK:D<=0\/MX 81 [I64 (D-1)] L w 3 K) :
  MX 131 [I64 D] L w 14 (StG L w K):=by
 intro i hi H cc t ht htc;refine AC.bodyT B2 rfl (A0A rfl) fun hfr=>?_;have hw1:IntKind.i64.wrap (D-1)=D-1:=w6z (by omega);obtain ⟨qd,hqd⟩:∃ b:Bool,decide (D<=0)=b:=⟨_,rfl⟩;have hqt:qd=true->D<=0:=fun e=>by rw [e] at hqd;simpa using hqd
 have hqf:qd=false->¬ D<=0:=fun e=>by rw [e] at hqd;simpa using hqd
 repeat' ((with_reducible first|refine wr ?_|refine A2 ?_ ?_|fail)<;>try simp only [go_sem,seval,hqd])
 refine AC.call (Y4 L hL w 20 (by decide) (by decide) i hi _ _ t ht (by omega)) ?_;rintro v' H' c2 ⟨k,j,hlt,hj,hjp,rfl,rfl⟩ hc2;by_cases k4:k=4
 ·subst k4;cases qd;all_goals
   simp only [go_sem,seval,hqd];repeat' ((with_reducible first|refine wr ?_|refine A2 ?_ ?_|fail)<;>try simp only [go_sem,seval,hqd,hw1])
   refine AC.call (A1j L hL w hw 1 (by decide) j hj _ _ t A0 (by omega)) ?_;rintro v' H' c3 ⟨r1,j1,g1,l1,b1,rfl,rfl⟩ hc3;rw [A1];obtain ⟨x1,e1,m1,a1⟩:=D9 [115,99,111,114,101,32] r1 (by (try simp)<;>omega);try simp only [A0B,A0F] at m1
   obtain ⟨x2,e2,m2,a2⟩:=D9 x1 [59] (by (try simp)<;>omega);try simp only [A0B,A0F] at m2
   simp only [go_sem,seval,a1,a2,hw1];repeat' ((with_reducible first|refine wr ?_|refine A2 ?_ ?_|fail)<;>try simp only [go_sem,seval,a1,a2,hw1])
   exact ⟨_,_,GL.refl _ _,x2,j1,by rw [e2,e1];exact .sco g1,by omega,b1,rfl,rfl⟩
 by_cases k5:k=5
 ·subst k5;cases qd;all_goals
   simp only [go_sem,seval,hqd];repeat' ((with_reducible first|refine wr ?_|refine A2 ?_ ?_|fail)<;>try simp only [go_sem,seval,hqd,hw1])
   refine AC.call (A1j L hL w hw 1 (by decide) j hj _ _ t A0 (by omega)) ?_;rintro v' H' c3 ⟨r1,j1,g1,l1,b1,rfl,rfl⟩ hc3;rw [A1];obtain ⟨x1,e1,m1,a1⟩:=D9 [115,99,111,114,101,32] r1 (by (try simp)<;>omega);try simp only [A0B,A0F] at m1
   obtain ⟨x2,e2,m2,a2⟩:=D9 x1 [59] (by (try simp)<;>omega);try simp only [A0B,A0F] at m2
   simp only [go_sem,seval,a1,a2,hw1];repeat' ((with_reducible first|refine wr ?_|refine A2 ?_ ?_|fail)<;>try simp only [go_sem,seval,a1,a2,hw1])
   exact ⟨_,_,GL.refl _ _,x2,j1,by rw [e2,e1];exact .sco g1,by omega,b1,rfl,rfl⟩
 by_cases k7:k=7
 ·subst k7;cases qd;all_goals
   simp only [go_sem,seval,hqd];repeat' ((with_reducible first|refine wr ?_|refine A2 ?_ ?_|fail)<;>try simp only [go_sem,seval,hqd,hw1])
   refine AC.call (Q1 L hL w hw [108,97,109,112] (by decide) 4 (by decide) (by decide) j hj _ _ t A0 (by omega)) ?_;rintro v' H' c3 ⟨r1,j1,g1,l1,b1,rfl,rfl⟩ hc3;rw [A1];obtain ⟨x1,e1,m1,a1⟩:=D9 [108,105,103,104,116,32] r1 (by (try simp)<;>omega);try simp only [A0B,A0F] at m1
   obtain ⟨x2,e2,m2,a2⟩:=D9 x1 [32] (by (try simp)<;>omega);try simp only [A0B,A0F] at m2
   simp only [go_sem,seval,a1,a2,hw1];repeat' ((with_reducible first|refine wr ?_|refine A2 ?_ ?_|fail)<;>try simp only [go_sem,seval,a1,a2,hw1])
   refine AC.call (A1j L hL w hw 0 (by decide) j1 b1 _ _ t A0 (by omega)) ?_;rintro v' H' c4 ⟨r2,j2,g2,l2,b2,rfl,rfl⟩ hc4;rw [A1];obtain ⟨x3,e3,m3,a3⟩:=D9 x2 r2 (by (try simp)<;>omega);try simp only [A0B,A0F] at m3
   obtain ⟨x4,e4,m4,a4⟩:=D9 x3 [59] (by (try simp)<;>omega);try simp only [A0B,A0F] at m4
   simp only [go_sem,seval,a3,a4,hw1];repeat' ((with_reducible first|refine wr ?_|refine A2 ?_ ?_|fail)<;>try simp only [go_sem,seval,a3,a4,hw1])
   exact ⟨_,_,GL.refl _ _,x4,j2,by rw [e4,e3,e2,e1];exact .lig g1 g2,by omega,b2,rfl,rfl⟩
 by_cases k8:k=8
 ·subst k8;cases qd;all_goals
   simp only [go_sem,seval,hqd];repeat' ((with_reducible first|refine wr ?_|refine A2 ?_ ?_|fail)<;>try simp only [go_sem,seval,hqd,hw1])
   refine AC.call (Q1 L hL w hw [108,97,109,112] (by decide) 4 (by decide) (by decide) j hj _ _ t A0 (by omega)) ?_;rintro v' H' c3 ⟨r1,j1,g1,l1,b1,rfl,rfl⟩ hc3;rw [A1];obtain ⟨x1,e1,m1,a1⟩:=D9 [98,108,105,110,107,32] r1 (by (try simp)<;>omega);try simp only [A0B,A0F] at m1
   obtain ⟨x2,e2,m2,a2⟩:=D9 x1 [32] (by (try simp)<;>omega);try simp only [A0B,A0F] at m2
   simp only [go_sem,seval,a1,a2,hw1];repeat' ((with_reducible first|refine wr ?_|refine A2 ?_ ?_|fail)<;>try simp only [go_sem,seval,a1,a2,hw1])
   refine AC.call (A1j L hL w hw 0 (by decide) j1 b1 _ _ t A0 (by omega)) ?_;rintro v' H' c4 ⟨r2,j2,g2,l2,b2,rfl,rfl⟩ hc4;rw [A1];obtain ⟨x3,e3,m3,a3⟩:=D9 x2 r2 (by (try simp)<;>omega);try simp only [A0B,A0F] at m3
   obtain ⟨x4,e4,m4,a4⟩:=D9 x3 [44,32] (by (try simp)<;>omega);try simp only [A0B,A0F] at m4
   simp only [go_sem,seval,a3,a4,hw1];repeat' ((with_reducible first|refine wr ?_|refine A2 ?_ ?_|fail)<;>try simp only [go_sem,seval,a3,a4,hw1])
   refine AC.call (A1j L hL w hw 0 (by decide) j2 b2 _ _ t A0 (by omega)) ?_;rintro v' H' c5 ⟨r3,j3,g3,l3,b3,rfl,rfl⟩ hc5;rw [A1];obtain ⟨x5,e5,m5,a5⟩:=D9 x4 r3 (by (try simp)<;>omega);try simp only [A0B,A0F] at m5
   obtain ⟨x6,e6,m6,a6⟩:=D9 x5 [59] (by (try simp)<;>omega);try simp only [A0B,A0F] at m6
   simp only [go_sem,seval,a5,a6,hw1];repeat' ((with_reducible first|refine wr ?_|refine A2 ?_ ?_|fail)<;>try simp only [go_sem,seval,a5,a6,hw1])
   exact ⟨_,_,GL.refl _ _,x6,j3,by rw [e6,e5,e4,e3,e2,e1];exact .bli g1 g2 g3,by omega,b3,rfl,rfl⟩
 by_cases k9:k=9
 ·subst k9;cases qd;all_goals
   simp only [go_sem,seval,hqd];repeat' ((with_reducible first|refine wr ?_|refine A2 ?_ ?_|fail)<;>try simp only [go_sem,seval,hqd,hw1])
   refine AC.call (Q1 L hL w hw [116,109] (by decide) 2 (by decide) (by decide) j hj _ _ t A0 (by omega)) ?_;rintro v' H' c3 ⟨r1,j1,g1,l1,b1,rfl,rfl⟩ hc3;rw [A1];obtain ⟨x1,e1,m1,a1⟩:=D9 [115,116,97,114,116,32] r1 (by (try simp)<;>omega);try simp only [A0B,A0F] at m1
   obtain ⟨x2,e2,m2,a2⟩:=D9 x1 [32] (by (try simp)<;>omega);try simp only [A0B,A0F] at m2
   simp only [go_sem,seval,a1,a2,hw1];repeat' ((with_reducible first|refine wr ?_|refine A2 ?_ ?_|fail)<;>try simp only [go_sem,seval,a1,a2,hw1])
   refine AC.call (A1j L hL w hw 1 (by decide) j1 b1 _ _ t A0 (by omega)) ?_;rintro v' H' c4 ⟨r2,j2,g2,l2,b2,rfl,rfl⟩ hc4;rw [A1];obtain ⟨x3,e3,m3,a3⟩:=D9 x2 r2 (by (try simp)<;>omega);try simp only [A0B,A0F] at m3
   obtain ⟨x4,e4,m4,a4⟩:=D9 x3 [59] (by (try simp)<;>omega);try simp only [A0B,A0F] at m4
   simp only [go_sem,seval,a3,a4,hw1];repeat' ((with_reducible first|refine wr ?_|refine A2 ?_ ?_|fail)<;>try simp only [go_sem,seval,a3,a4,hw1])
   exact ⟨_,_,GL.refl _ _,x4,j2,by rw [e4,e3,e2,e1];exact .sta g1 g2,by omega,b2,rfl,rfl⟩
 by_cases k10:k=10
 ·subst k10;cases qd;all_goals
   simp only [go_sem,seval,hqd];repeat' ((with_reducible first|refine wr ?_|refine A2 ?_ ?_|fail)<;>try simp only [go_sem,seval,hqd,hw1])
   refine AC.call (Q1 L hL w hw [116,109] (by decide) 2 (by decide) (by decide) j hj _ _ t A0 (by omega)) ?_;rintro v' H' c3 ⟨r1,j1,g1,l1,b1,rfl,rfl⟩ hc3;rw [A1];obtain ⟨x1,e1,m1,a1⟩:=D9 [115,116,111,112,32] r1 (by (try simp)<;>omega);try simp only [A0B,A0F] at m1
   obtain ⟨x2,e2,m2,a2⟩:=D9 x1 [59] (by (try simp)<;>omega);try simp only [A0B,A0F] at m2
   simp only [go_sem,seval,a1,a2,hw1];repeat' ((with_reducible first|refine wr ?_|refine A2 ?_ ?_|fail)<;>try simp only [go_sem,seval,a1,a2,hw1])
   exact ⟨_,_,GL.refl _ _,x2,j1,by rw [e2,e1];exact .one (q:=([115,116,111,112,32],[116,109],2)) (by simp [C0r]) g1,by omega,b1,rfl,rfl⟩
 by_cases k11:k=11
 ·subst k11;cases qd;all_goals
   simp only [go_sem,seval,hqd];repeat' ((with_reducible first|refine wr ?_|refine A2 ?_ ?_|fail)<;>try simp only [go_sem,seval,hqd,hw1])
   refine AC.call (Q1 L hL w hw [109,111,100,101] (by decide) 3 (by decide) (by decide) j hj _ _ t A0 (by omega)) ?_;rintro v' H' c3 ⟨r1,j1,g1,l1,b1,rfl,rfl⟩ hc3;rw [A1];obtain ⟨x1,e1,m1,a1⟩:=D9 [98,101,103,105,110,32] r1 (by (try simp)<;>omega);try simp only [A0B,A0F] at m1
   obtain ⟨x2,e2,m2,a2⟩:=D9 x1 [59] (by (try simp)<;>omega);try simp only [A0B,A0F] at m2
   simp only [go_sem,seval,a1,a2,hw1];repeat' ((with_reducible first|refine wr ?_|refine A2 ?_ ?_|fail)<;>try simp only [go_sem,seval,a1,a2,hw1])
   exact ⟨_,_,GL.refl _ _,x2,j1,by rw [e2,e1];exact .one (q:=([98,101,103,105,110,32],[109,111,100,101],3)) (by simp [C0r]) g1,by omega,b1,rfl,rfl⟩
 by_cases k12:k=12
 ·subst k12;cases qd;all_goals
   simp only [go_sem,seval,hqd];repeat' ((with_reducible first|refine wr ?_|refine A2 ?_ ?_|fail)<;>try simp only [go_sem,seval,hqd,hw1])
   refine AC.call (Q1 L hL w hw [109,111,100,101] (by decide) 3 (by decide) (by decide) j hj _ _ t A0 (by omega)) ?_;rintro v' H' c3 ⟨r1,j1,g1,l1,b1,rfl,rfl⟩ hc3;rw [A1];obtain ⟨x1,e1,m1,a1⟩:=D9 [101,110,100,32] r1 (by (try simp)<;>omega);try simp only [A0B,A0F] at m1
   obtain ⟨x2,e2,m2,a2⟩:=D9 x1 [59] (by (try simp)<;>omega);try simp only [A0B,A0F] at m2
   simp only [go_sem,seval,a1,a2,hw1];repeat' ((with_reducible first|refine wr ?_|refine A2 ?_ ?_|fail)<;>try simp only [go_sem,seval,a1,a2,hw1])
   exact ⟨_,_,GL.refl _ _,x2,j1,by rw [e2,e1];exact .one (q:=([101,110,100,32],[109,111,100,101],3)) (by simp [C0r]) g1,by omega,b1,rfl,rfl⟩
 by_cases k13:k=13
 ·subst k13;cases qd;all_goals
   simp only [go_sem,seval,hqd];repeat' ((with_reducible first|refine wr ?_|refine A2 ?_ ?_|fail)<;>try simp only [go_sem,seval,hqd,hw1])
   refine AC.call (Q1 L hL w hw [101,118] (by decide) 2 (by decide) (by decide) j hj _ _ t A0 (by omega)) ?_;rintro v' H' c3 ⟨r1,j1,g1,l1,b1,rfl,rfl⟩ hc3;rw [A1];obtain ⟨x1,e1,m1,a1⟩:=D9 [112,111,115,116,32] r1 (by (try simp)<;>omega);try simp only [A0B,A0F] at m1
   obtain ⟨x2,e2,m2,a2⟩:=D9 x1 [59] (by (try simp)<;>omega);try simp only [A0B,A0F] at m2
   simp only [go_sem,seval,a1,a2,hw1];repeat' ((with_reducible first|refine wr ?_|refine A2 ?_ ?_|fail)<;>try simp only [go_sem,seval,a1,a2,hw1])
   exact ⟨_,_,GL.refl _ _,x2,j1,by rw [e2,e1];exact .one (q:=([112,111,115,116,32],[101,118],2)) (by simp [C0r]) g1,by omega,b1,rfl,rfl⟩
 by_cases k14:k=14
 ·subst k14;cases qd;all_goals
   simp only [go_sem,seval,hqd];repeat' ((with_reducible first|refine wr ?_|refine A2 ?_ ?_|fail)<;>try simp only [go_sem,seval,hqd,hw1])
   refine AC.call (Q1 L hL w hw [115,110,100] (by decide) 2 (by decide) (by decide) j hj _ _ t A0 (by omega)) ?_;rintro v' H' c3 ⟨r1,j1,g1,l1,b1,rfl,rfl⟩ hc3;rw [A1];obtain ⟨x1,e1,m1,a1⟩:=D9 [112,108,97,121,32] r1 (by (try simp)<;>omega);try simp only [A0B,A0F] at m1
   obtain ⟨x2,e2,m2,a2⟩:=D9 x1 [59] (by (try simp)<;>omega);try simp only [A0B,A0F] at m2
   simp only [go_sem,seval,a1,a2,hw1];repeat' ((with_reducible first|refine wr ?_|refine A2 ?_ ?_|fail)<;>try simp only [go_sem,seval,a1,a2,hw1])
   exact ⟨_,_,GL.refl _ _,x2,j1,by rw [e2,e1];exact .one (q:=([112,108,97,121,32],[115,110,100],2)) (by simp [C0r]) g1,by omega,b1,rfl,rfl⟩
 by_cases k17:k=17
 ·subst k17;cases qd;all_goals
   simp only [go_sem,seval,hqd];repeat' ((with_reducible first|refine wr ?_|refine A2 ?_ ?_|fail)<;>try simp only [go_sem,seval,hqd,hw1])
   exact ⟨_,_,GL.refl _ _,_,j,.con,by first|(simp;done)|(simp;omega),hj,rfl,rfl⟩
 by_cases k6:k=6
 ·subst k6;cases qd;all_goals
   simp only [go_sem,seval,hqd];repeat' ((with_reducible first|refine wr ?_|refine A2 ?_ ?_|fail)<;>try simp only [go_sem,seval,hqd,hw1])
   refine AC.call (Y4 L hL w 3 (by decide) (by decide) j hj _ _ t (by rw [C3s (by omega)];exact A0) (by omega)) ?_;rintro v' H' c3 ⟨k3,j1,hlt3,b1,p1,rfl,rfl⟩ hc3;have hmg:∀ (X:Hp) (B:Blk),G6 [c2] X ((L8 X [c2]).upd t B)=X.upd t B:=fun X B=>A9o (by omega);have hia:P5 1 (.slc c2 0 3) (I64 (k3:Int))=some (.ptr c2 k3):=by simp [P5];omega
   have hld:([.str [102,105,114,101,32],.str [104,111,108,100,32],.str [114,101,108,101,97,115,101,32]]:List DV)[k3]? = some (.str (D0o.getD k3 [])):=by
    match k3,hlt3 with
    | 0,_=>rfl
    | 1,_=>rfl
    | 2,_=>rfl
   have hg:=R8 (l:=D0o) (n:=10) (by decide) k3;generalize hog:D0o.getD k3 []=og at hg hld;generalize hWL:([.str [102,105,114,101,32],.str [104,111,108,100,32],.str [114,101,108,101,97,115,101,32]]:List DV)=WL at hld ⊢;have ne0:=X3 t c2 (by omega);simp only [go_sem,seval,hmg,A0,A1,ne0,hia,hld,hw1];refine ⟨by and_intros<;>first|rfl|(rw [<- hWL];done)|((repeat rw [A3 (by omega)]);exact hfr _ (by omega)),?_⟩;refine AC.call (Q1 L hL w hw [99,111,105,108] (by decide) 3 (by decide) (by decide) j1 b1 _ _ t (by simp only [L8];rw [if_neg (by simp;omega)];exact A0) (by omega)) ?_;rintro v' H' c4 ⟨r1,j2,g1,l1,b2,rfl,rfl⟩ hc4;obtain ⟨x1,e1,m1,a1⟩:=D9 og r1 (by (try simp)<;>omega);try simp only [A0B,A0F] at m1
   obtain ⟨x2,e2,m2,a2⟩:=D9 x1 [59] (by (try simp)<;>omega);try simp only [A0B,A0F] at m2
   simp only [go_sem,seval,hmg,A0,A1,ne0,hia,hld,hw1,a1,a2];refine ⟨by and_intros<;>first|rfl|(rw [<- hWL];done)|((repeat rw [A3 (by omega)]);exact hfr _ (by omega)),?_⟩;repeat' ((with_reducible first|refine wr ?_|refine A2 ?_ ?_|fail)<;>try simp only [go_sem,seval])
   exact ⟨_,_,A4s hfr htc (by omega),x2,j2,by rw [e2,e1, <- hog];exact .fir hlt3 g1,by omega,b2,rfl,rfl⟩
 by_cases k15:k=15
 ·subst k15;cases qd;all_goals
   simp only [go_sem,seval,hqd];repeat' ((with_reducible first|refine wr ?_|refine A2 ?_ ?_|fail)<;>try simp only [go_sem,seval,hqd,hw1])
   refine AC.call (Y4 L hL w 2 (by decide) (by decide) j hj _ _ t (by rw [C3s (by omega)];exact A0) (by omega)) ?_;rintro v' H' c3 ⟨k3,j1,hlt3,b1,p1,rfl,rfl⟩ hc3;have hmg:∀ (X:Hp) (B:Blk),G6 [c2] X ((L8 X [c2]).upd t B)=X.upd t B:=fun X B=>A9o (by omega);have hia:P5 1 (.slc c2 0 2) (I64 (k3:Int))=some (.ptr c2 k3):=by simp [P5];omega
   have hld:([.str [114,117,110,32],.str [104,97,108,116,32]]:List DV)[k3]? = some (.str (C7w.getD k3 [])):=by
    match k3,hlt3 with
    | 0,_=>rfl
    | 1,_=>rfl
   have hg:=R8 (l:=C7w) (n:=10) (by decide) k3;generalize hog:C7w.getD k3 []=og at hg hld;generalize hWL:([.str [114,117,110,32],.str [104,97,108,116,32]]:List DV)=WL at hld ⊢;have ne0:=X3 t c2 (by omega);simp only [go_sem,seval,hmg,A0,A1,ne0,hia,hld,hw1];refine ⟨by and_intros<;>first|rfl|(rw [<- hWL];done)|((repeat rw [A3 (by omega)]);exact hfr _ (by omega)),?_⟩;refine AC.call (Q1 L hL w hw [115,104,111,119] (by decide) 2 (by decide) (by decide) j1 b1 _ _ t (by simp only [L8];rw [if_neg (by simp;omega)];exact A0) (by omega)) ?_;rintro v' H' c4 ⟨r1,j2,g1,l1,b2,rfl,rfl⟩ hc4;obtain ⟨x1,e1,m1,a1⟩:=D9 og r1 (by (try simp)<;>omega);try simp only [A0B,A0F] at m1
   obtain ⟨x2,e2,m2,a2⟩:=D9 x1 [59] (by (try simp)<;>omega);try simp only [A0B,A0F] at m2
   simp only [go_sem,seval,hmg,A0,A1,ne0,hia,hld,hw1,a1,a2];refine ⟨by and_intros<;>first|rfl|(rw [<- hWL];done)|((repeat rw [A3 (by omega)]);exact hfr _ (by omega)),?_⟩;repeat' ((with_reducible first|refine wr ?_|refine A2 ?_ ?_|fail)<;>try simp only [go_sem,seval])
   exact ⟨_,_,A4s hfr htc (by omega),x2,j2,by rw [e2,e1, <- hog];exact .run hlt3 g1,by omega,b2,rfl,rfl⟩
 by_cases k16:k=16
 ·subst k16;cases qd;all_goals
   simp only [go_sem,seval,hqd];repeat' ((with_reducible first|refine wr ?_|refine A2 ?_ ?_|fail)<;>try simp only [go_sem,seval,hqd,hw1])
   refine AC.call (Y4 L hL w 4 (by decide) (by decide) j hj _ _ t (by rw [C3s (by omega)];exact A0) (by omega)) ?_;rintro v' H' c3 ⟨k3,j1,hlt3,b1,p1,rfl,rfl⟩ hc3;have hmg:∀ (X:Hp) (B:Blk),G6 [c2] X ((L8 X [c2]).upd t B)=X.upd t B:=fun X B=>A9o (by omega);have hia:P5 1 (.slc c2 0 4) (I64 (k3:Int))=some (.ptr c2 k3):=by simp [P5];omega
   have hld:([.str [103,111],.str [106,97,99,107,112,111,116],.str [97,92,34,98],.str []]:List DV)[k3]? = some (.str (C6p.getD k3 [])):=by
    match k3,hlt3 with
    | 0,_=>rfl
    | 1,_=>rfl
    | 2,_=>rfl
    | 3,_=>rfl
   have hg:=R8 (l:=C6p) (n:=10) (by decide) k3;generalize hog:C6p.getD k3 []=og at hg hld;generalize hWL:([.str [103,111],.str [106,97,99,107,112,111,116],.str [97,92,34,98],.str []]:List DV)=WL at hld ⊢;have ne0:=X3 t c2 (by omega);obtain ⟨x1,e1,m1,a1⟩:=D9 [116,101,120,116,32,34] og (by (try simp)<;>omega);try simp only [A0B,A0F] at m1
   obtain ⟨x2,e2,m2,a2⟩:=D9 x1 [34,44,32] (by (try simp)<;>omega);try simp only [A0B,A0F] at m2
   simp only [go_sem,seval,hmg,A0,A1,ne0,hia,hld,hw1,a1,a2];refine ⟨by and_intros<;>first|rfl|(rw [<- hWL];done)|((repeat rw [A3 (by omega)]);exact hfr _ (by omega)),?_⟩;refine AC.call (A1j L hL w hw 0 (by decide) j1 b1 _ _ t (by simp only [L8];rw [if_neg (by simp;omega)];exact A0) (by omega)) ?_;rintro v' H' c4 ⟨r1,j2,g1,l1,b2,rfl,rfl⟩ hc4;obtain ⟨x3,e3,m3,a3⟩:=D9 x2 r1 (by (try simp)<;>omega);try simp only [A0B,A0F] at m3
   obtain ⟨x4,e4,m4,a4⟩:=D9 x3 [59] (by (try simp)<;>omega);try simp only [A0B,A0F] at m4
   simp only [go_sem,seval,hmg,A0,A1,ne0,hia,hld,hw1,a1,a2,a3,a4];refine ⟨by and_intros<;>first|rfl|(rw [<- hWL];done)|((repeat rw [A3 (by omega)]);exact hfr _ (by omega)),?_⟩;repeat' ((with_reducible first|refine wr ?_|refine A2 ?_ ?_|fail)<;>try simp only [go_sem,seval])
   exact ⟨_,_,A4s hfr htc (by omega),x4,j2,by rw [e4,e3,e2,e1, <- hog];exact .txt hlt3 g1,by omega,b2,rfl,rfl⟩
 by_cases k18:k=18
 ·subst k18;cases qd;all_goals
   simp only [go_sem,seval,hqd];repeat' ((with_reducible first|refine wr ?_|refine A2 ?_ ?_|fail)<;>try simp only [go_sem,seval,hqd,hw1])
   refine AC.call (Q1 L hL w hw [118] (by decide) 3 (by decide) (by decide) j hj _ _ t A0 (by omega)) ?_;rintro v' H' c3 ⟨r1,j1,g1,l1,b1,rfl,rfl⟩ hc3;rw [A1];obtain ⟨x1,e1,m1,a1⟩:=D9 r1 [32,61,32] (by (try simp)<;>omega);try simp only [A0B,A0F] at m1
   simp only [go_sem,seval,a1,hw1];repeat' ((with_reducible first|refine wr ?_|refine A2 ?_ ?_|fail)<;>try simp only [go_sem,seval,a1,hw1])
   refine AC.call (A1j L hL w hw 2 (by decide) j1 b1 _ _ t A0 (by omega)) ?_;rintro v' H' c4 ⟨r2,j2,g2,l2,b2,rfl,rfl⟩ hc4;rw [A1];obtain ⟨x2,e2,m2,a2⟩:=D9 x1 r2 (by (try simp)<;>omega);try simp only [A0B,A0F] at m2
   obtain ⟨x3,e3,m3,a3⟩:=D9 x2 [59] (by (try simp)<;>omega);try simp only [A0B,A0F] at m3
   simp only [go_sem,seval,a2,a3,hw1];repeat' ((with_reducible first|refine wr ?_|refine A2 ?_ ?_|fail)<;>try simp only [go_sem,seval,a2,a3,hw1])
   exact ⟨_,_,GL.refl _ _,x3,j2,by rw [e3,e2,e1];exact .asg g1 g2,by omega,b2,rfl,rfl⟩
 by_cases k19:k=19
 ·subst k19;cases qd;all_goals
   simp only [go_sem,seval,hqd];repeat' ((with_reducible first|refine wr ?_|refine A2 ?_ ?_|fail)<;>try simp only [go_sem,seval,hqd,hw1])
   refine AC.call (Q1 L hL w hw [118] (by decide) 3 (by decide) (by decide) j hj _ _ t A0 (by omega)) ?_;rintro v' H' c3 ⟨r1,j1,g1,l1,b1,rfl,rfl⟩ hc3;rw [A1];obtain ⟨x1,e1,m1,a1⟩:=D9 r1 [32,61,32] (by (try simp)<;>omega);try simp only [A0B,A0F] at m1
   simp only [go_sem,seval,a1,hw1];repeat' ((with_reducible first|refine wr ?_|refine A2 ?_ ?_|fail)<;>try simp only [go_sem,seval,a1,hw1])
   refine AC.call (A1j L hL w hw 2 (by decide) j1 b1 _ _ t A0 (by omega)) ?_;rintro v' H' c4 ⟨r2,j2,g2,l2,b2,rfl,rfl⟩ hc4;rw [A1];obtain ⟨x2,e2,m2,a2⟩:=D9 x1 r2 (by (try simp)<;>omega);try simp only [A0B,A0F] at m2
   obtain ⟨x3,e3,m3,a3⟩:=D9 x2 [59] (by (try simp)<;>omega);try simp only [A0B,A0F] at m3
   simp only [go_sem,seval,a2,a3,hw1];repeat' ((with_reducible first|refine wr ?_|refine A2 ?_ ?_|fail)<;>try simp only [go_sem,seval,a2,a3,hw1])
   exact ⟨_,_,GL.refl _ _,x3,j2,by rw [e3,e2,e1];exact .asg g1 g2,by omega,b2,rfl,rfl⟩
 by_cases k0:k=0
 ·subst k0;cases qd;all_goals
   simp only [go_sem,seval,hqd];repeat' ((with_reducible first|refine wr ?_|refine A2 ?_ ?_|fail)<;>try simp only [go_sem,seval,hqd,hw1])
   refine AC.call (Q1 L hL w hw [118] (by decide) 3 (by decide) (by decide) j hj _ _ t A0 (by omega)) ?_;rintro v' H' c3 ⟨r1,j1,g1,l1,b1,rfl,rfl⟩ hc3;rw [A1];obtain ⟨x1,e1,m1,a1⟩:=D9 r1 [32,61,32] (by (try simp)<;>omega);try simp only [A0B,A0F] at m1
   simp only [go_sem,seval,a1,hw1];repeat' ((with_reducible first|refine wr ?_|refine A2 ?_ ?_|fail)<;>try simp only [go_sem,seval,a1,hw1])
   refine AC.call (A1j L hL w hw 2 (by decide) j1 b1 _ _ t A0 (by omega)) ?_;rintro v' H' c4 ⟨r2,j2,g2,l2,b2,rfl,rfl⟩ hc4;rw [A1];obtain ⟨x2,e2,m2,a2⟩:=D9 x1 r2 (by (try simp)<;>omega);try simp only [A0B,A0F] at m2
   obtain ⟨x3,e3,m3,a3⟩:=D9 x2 [59] (by (try simp)<;>omega);try simp only [A0B,A0F] at m3
   simp only [go_sem,seval,a2,a3,hw1];repeat' ((with_reducible first|refine wr ?_|refine A2 ?_ ?_|fail)<;>try simp only [go_sem,seval,a2,a3,hw1])
   exact ⟨_,_,GL.refl _ _,x3,j2,by rw [e3,e2,e1];exact .asg g1 g2,by omega,b2,rfl,rfl⟩
 by_cases k3:k=3
 ·subst k3;cases qd
  rotate_left
  ·simp only [go_sem,seval,hqd];repeat' ((with_reducible first|refine wr ?_|refine A2 ?_ ?_|fail)<;>try simp only [go_sem,seval,hqd,hw1])
   refine AC.call (Q1 L hL w hw [118] (by decide) 3 (by decide) (by decide) j hj _ _ t A0 (by omega)) ?_;rintro v' H' c3 ⟨r1,j1,g1,l1,b1,rfl,rfl⟩ hc3;rw [A1];obtain ⟨x1,e1,m1,a1⟩:=D9 r1 [32,61,32] (by (try simp)<;>omega);try simp only [A0B,A0F] at m1
   simp only [go_sem,seval,a1,hw1];repeat' ((with_reducible first|refine wr ?_|refine A2 ?_ ?_|fail)<;>try simp only [go_sem,seval,a1,hw1])
   refine AC.call (A1j L hL w hw 2 (by decide) j1 b1 _ _ t A0 (by omega)) ?_;rintro v' H' c4 ⟨r2,j2,g2,l2,b2,rfl,rfl⟩ hc4;rw [A1];obtain ⟨x2,e2,m2,a2⟩:=D9 x1 r2 (by (try simp)<;>omega);try simp only [A0B,A0F] at m2
   obtain ⟨x3,e3,m3,a3⟩:=D9 x2 [59] (by (try simp)<;>omega);try simp only [A0B,A0F] at m3
   simp only [go_sem,seval,a2,a3,hw1];repeat' ((with_reducible first|refine wr ?_|refine A2 ?_ ?_|fail)<;>try simp only [go_sem,seval,a2,a3,hw1])
   exact ⟨_,_,GL.refl _ _,x3,j2,by rw [e3,e2,e1];exact .asg g1 g2,by omega,b2,rfl,rfl⟩
  have hK':=hK.resolve_left (hqf rfl);simp only [go_sem,seval,hqd];repeat' ((with_reducible first|refine wr ?_|refine A2 ?_ ?_|fail)<;>try simp only [go_sem,seval,hqd,hw1])
  refine AC.call (A1j L hL w hw 0 (by decide) j hj _ _ t A0 (by omega)) ?_;rintro v' H' c3 ⟨r1,j1,g1,l1,b1,rfl,rfl⟩ hc3;rw [A1];obtain ⟨x1,e1,m1,a1⟩:=D9 [114,101,112,101,97,116,32] r1 (by (try simp)<;>omega);try simp only [A0B,A0F] at m1
  obtain ⟨x2,e2,m2,a2⟩:=D9 x1 [32] (by (try simp)<;>omega);try simp only [A0B,A0F] at m2
  simp only [go_sem,seval,a1,a2,hw1];repeat' ((with_reducible first|refine wr ?_|refine A2 ?_ ?_|fail)<;>try simp only [go_sem,seval,a1,a2,hw1])
  refine AC.call (hK' j1 b1 _ _ t A0 (by omega)) ?_;rintro v' H' c4 ⟨r2,j2,g2,l2,b2,rfl,rfl⟩ hc4;rw [A1];obtain ⟨x3,e3,m3,a3⟩:=D9 x2 r2 (by (try simp)<;>omega);try simp only [A0B,A0F] at m3
  simp only [go_sem,seval,a3,hw1];repeat' ((with_reducible first|refine wr ?_|refine A2 ?_ ?_|fail)<;>try simp only [go_sem,seval,a3,hw1])
  exact ⟨_,_,GL.refl _ _,x3,j2,by rw [e3,e2,e1];exact .rep g1 g2,by omega,b2,rfl,rfl⟩
 by_cases k1:k=1
 ·subst k1;cases qd
  rotate_left
  ·simp only [go_sem,seval,hqd];repeat' ((with_reducible first|refine wr ?_|refine A2 ?_ ?_|fail)<;>try simp only [go_sem,seval,hqd,hw1])
   refine AC.call (Q1 L hL w hw [118] (by decide) 3 (by decide) (by decide) j hj _ _ t A0 (by omega)) ?_;rintro v' H' c3 ⟨r1,j1,g1,l1,b1,rfl,rfl⟩ hc3;rw [A1];obtain ⟨x1,e1,m1,a1⟩:=D9 r1 [32,61,32] (by (try simp)<;>omega);try simp only [A0B,A0F] at m1
   simp only [go_sem,seval,a1,hw1];repeat' ((with_reducible first|refine wr ?_|refine A2 ?_ ?_|fail)<;>try simp only [go_sem,seval,a1,hw1])
   refine AC.call (A1j L hL w hw 2 (by decide) j1 b1 _ _ t A0 (by omega)) ?_;rintro v' H' c4 ⟨r2,j2,g2,l2,b2,rfl,rfl⟩ hc4;rw [A1];obtain ⟨x2,e2,m2,a2⟩:=D9 x1 r2 (by (try simp)<;>omega);try simp only [A0B,A0F] at m2
   obtain ⟨x3,e3,m3,a3⟩:=D9 x2 [59] (by (try simp)<;>omega);try simp only [A0B,A0F] at m3
   simp only [go_sem,seval,a2,a3,hw1];repeat' ((with_reducible first|refine wr ?_|refine A2 ?_ ?_|fail)<;>try simp only [go_sem,seval,a2,a3,hw1])
   exact ⟨_,_,GL.refl _ _,x3,j2,by rw [e3,e2,e1];exact .asg g1 g2,by omega,b2,rfl,rfl⟩
  have hK':=hK.resolve_left (hqf rfl);simp only [go_sem,seval,hqd];repeat' ((with_reducible first|refine wr ?_|refine A2 ?_ ?_|fail)<;>try simp only [go_sem,seval,hqd,hw1])
  refine AC.call (B6b L hL w hw 1 (by decide) j hj _ _ t A0 (by omega)) ?_;rintro v' H' c3 ⟨r1,j1,g1,l1,b1,rfl,rfl⟩ hc3;rw [A1];obtain ⟨x1,e1,m1,a1⟩:=D9 [105,102,32] r1 (by (try simp)<;>omega);try simp only [A0B,A0F] at m1
  obtain ⟨x2,e2,m2,a2⟩:=D9 x1 [32] (by (try simp)<;>omega);try simp only [A0B,A0F] at m2
  simp only [go_sem,seval,a1,a2,hw1];repeat' ((with_reducible first|refine wr ?_|refine A2 ?_ ?_|fail)<;>try simp only [go_sem,seval,a1,a2,hw1])
  refine AC.call (hK' j1 b1 _ _ t A0 (by omega)) ?_;rintro v' H' c4 ⟨r2,j2,g2,l2,b2,rfl,rfl⟩ hc4;rw [A1];obtain ⟨x3,e3,m3,a3⟩:=D9 x2 r2 (by (try simp)<;>omega);try simp only [A0B,A0F] at m3
  simp only [go_sem,seval,a3,hw1];repeat' ((with_reducible first|refine wr ?_|refine A2 ?_ ?_|fail)<;>try simp only [go_sem,seval,a3,hw1])
  refine AC.call (Y4 L hL w 3 (by decide) (by decide) j2 b2 _ _ t A0 (by omega)) ?_;rintro v' H' c5 ⟨q,j3,hq,b3,p3,rfl,rfl⟩ hc5;rw [A1];by_cases q1:q=1
  ·subst q1;obtain ⟨x4,e4,m4,a4⟩:=D9 x3 [32,101,108,115,101,32] (by (try simp)<;>omega);try simp only [A0B,A0F] at m4
   simp only [go_sem,seval,a4,hw1];repeat' ((with_reducible first|refine wr ?_|refine A2 ?_ ?_|fail)<;>try simp only [go_sem,seval,a4,hw1])
   refine AC.call (hK' j3 b3 _ _ t A0 (by omega)) ?_;rintro v' H' c6 ⟨r4,j4,g4,l4,b4,rfl,rfl⟩ hc6;rw [A1];obtain ⟨x5,e5,m5,a5⟩:=D9 x4 r4 (by (try simp)<;>omega);try simp only [A0B,A0F] at m5
   simp only [go_sem,seval,a5,hw1];repeat' ((with_reducible first|refine wr ?_|refine A2 ?_ ?_|fail)<;>try simp only [go_sem,seval,a5,hw1])
   exact ⟨_,_,GL.refl _ _,x5,j4,by rw [e5,e4,e3,e2,e1];exact .ifB g1 g2 g4,by omega,b4,rfl,rfl⟩
  by_cases q2:q=2
  ·subst q2;obtain ⟨x4,e4,m4,a4⟩:=D9 x3 [32,101,108,115,101,32,105,102,32] (by (try simp)<;>omega);try simp only [A0B,A0F] at m4
   simp only [go_sem,seval,a4,hw1];repeat' ((with_reducible first|refine wr ?_|refine A2 ?_ ?_|fail)<;>try simp only [go_sem,seval,a4,hw1])
   refine AC.call (B6b L hL w hw 0 (by decide) j3 b3 _ _ t A0 (by omega)) ?_;rintro v' H' c6 ⟨r4,j4,g4,l4,b4,rfl,rfl⟩ hc6;rw [A1];obtain ⟨x5,e5,m5,a5⟩:=D9 x4 r4 (by (try simp)<;>omega);try simp only [A0B,A0F] at m5
   obtain ⟨x6,e6,m6,a6⟩:=D9 x5 [32] (by (try simp)<;>omega);try simp only [A0B,A0F] at m6
   simp only [go_sem,seval,a5,a6,hw1];repeat' ((with_reducible first|refine wr ?_|refine A2 ?_ ?_|fail)<;>try simp only [go_sem,seval,a5,a6,hw1])
   refine AC.call (hK' j4 b4 _ _ t A0 (by omega)) ?_;rintro v' H' c7 ⟨r5,j5,g5,l5,b5,rfl,rfl⟩ hc7;rw [A1];obtain ⟨x7,e7,m7,a7⟩:=D9 x6 r5 (by (try simp)<;>omega);try simp only [A0B,A0F] at m7
   simp only [go_sem,seval,a7,hw1];repeat' ((with_reducible first|refine wr ?_|refine A2 ?_ ?_|fail)<;>try simp only [go_sem,seval,a7,hw1])
   exact ⟨_,_,GL.refl _ _,x7,j5,by rw [e7,e6,e5,e4,e3,e2,e1];exact .ifC g1 g2 g4 g5,by omega,b5,rfl,rfl⟩
  obtain rfl:q=0:=by omega
  simp only [go_sem,seval];repeat' ((with_reducible first|refine wr ?_|refine A2 ?_ ?_|fail)<;>try simp only [go_sem,seval])
  exact ⟨_,_,GL.refl _ _,x3,j3,by rw [e3,e2,e1];exact .ifA g1 g2,by omega,b3,rfl,rfl⟩
 by_cases k2:k=2
 ·subst k2;cases qd
  rotate_left
  ·simp only [go_sem,seval,hqd];repeat' ((with_reducible first|refine wr ?_|refine A2 ?_ ?_|fail)<;>try simp only [go_sem,seval,hqd,hw1])
   refine AC.call (Q1 L hL w hw [118] (by decide) 3 (by decide) (by decide) j hj _ _ t A0 (by omega)) ?_;rintro v' H' c3 ⟨r1,j1,g1,l1,b1,rfl,rfl⟩ hc3;rw [A1];obtain ⟨x1,e1,m1,a1⟩:=D9 r1 [32,61,32] (by (try simp)<;>omega);try simp only [A0B,A0F] at m1
   simp only [go_sem,seval,a1,hw1];repeat' ((with_reducible first|refine wr ?_|refine A2 ?_ ?_|fail)<;>try simp only [go_sem,seval,a1,hw1])
   refine AC.call (A1j L hL w hw 2 (by decide) j1 b1 _ _ t A0 (by omega)) ?_;rintro v' H' c4 ⟨r2,j2,g2,l2,b2,rfl,rfl⟩ hc4;rw [A1];obtain ⟨x2,e2,m2,a2⟩:=D9 x1 r2 (by (try simp)<;>omega);try simp only [A0B,A0F] at m2
   obtain ⟨x3,e3,m3,a3⟩:=D9 x2 [59] (by (try simp)<;>omega);try simp only [A0B,A0F] at m3
   simp only [go_sem,seval,a2,a3,hw1];repeat' ((with_reducible first|refine wr ?_|refine A2 ?_ ?_|fail)<;>try simp only [go_sem,seval,a2,a3,hw1])
   exact ⟨_,_,GL.refl _ _,x3,j2,by rw [e3,e2,e1];exact .asg g1 g2,by omega,b2,rfl,rfl⟩
  have hK':=hK.resolve_left (hqf rfl);simp only [go_sem,seval,hqd];repeat' ((with_reducible first|refine wr ?_|refine A2 ?_ ?_|fail)<;>try simp only [go_sem,seval,hqd,hw1])
  refine AC.call (B6b L hL w hw 1 (by decide) j hj _ _ t A0 (by omega)) ?_;rintro v' H' c3 ⟨r1,j1,g1,l1,b1,rfl,rfl⟩ hc3;rw [A1];obtain ⟨x1,e1,m1,a1⟩:=D9 [105,102,32] r1 (by (try simp)<;>omega);try simp only [A0B,A0F] at m1
  obtain ⟨x2,e2,m2,a2⟩:=D9 x1 [32] (by (try simp)<;>omega);try simp only [A0B,A0F] at m2
  simp only [go_sem,seval,a1,a2,hw1];repeat' ((with_reducible first|refine wr ?_|refine A2 ?_ ?_|fail)<;>try simp only [go_sem,seval,a1,a2,hw1])
  refine AC.call (hK' j1 b1 _ _ t A0 (by omega)) ?_;rintro v' H' c4 ⟨r2,j2,g2,l2,b2,rfl,rfl⟩ hc4;rw [A1];obtain ⟨x3,e3,m3,a3⟩:=D9 x2 r2 (by (try simp)<;>omega);try simp only [A0B,A0F] at m3
  simp only [go_sem,seval,a3,hw1];repeat' ((with_reducible first|refine wr ?_|refine A2 ?_ ?_|fail)<;>try simp only [go_sem,seval,a3,hw1])
  refine AC.call (Y4 L hL w 3 (by decide) (by decide) j2 b2 _ _ t A0 (by omega)) ?_;rintro v' H' c5 ⟨q,j3,hq,b3,p3,rfl,rfl⟩ hc5;rw [A1];by_cases q1:q=1
  ·subst q1;obtain ⟨x4,e4,m4,a4⟩:=D9 x3 [32,101,108,115,101,32] (by (try simp)<;>omega);try simp only [A0B,A0F] at m4
   simp only [go_sem,seval,a4,hw1];repeat' ((with_reducible first|refine wr ?_|refine A2 ?_ ?_|fail)<;>try simp only [go_sem,seval,a4,hw1])
   refine AC.call (hK' j3 b3 _ _ t A0 (by omega)) ?_;rintro v' H' c6 ⟨r4,j4,g4,l4,b4,rfl,rfl⟩ hc6;rw [A1];obtain ⟨x5,e5,m5,a5⟩:=D9 x4 r4 (by (try simp)<;>omega);try simp only [A0B,A0F] at m5
   simp only [go_sem,seval,a5,hw1];repeat' ((with_reducible first|refine wr ?_|refine A2 ?_ ?_|fail)<;>try simp only [go_sem,seval,a5,hw1])
   exact ⟨_,_,GL.refl _ _,x5,j4,by rw [e5,e4,e3,e2,e1];exact .ifB g1 g2 g4,by omega,b4,rfl,rfl⟩
  by_cases q2:q=2
  ·subst q2;obtain ⟨x4,e4,m4,a4⟩:=D9 x3 [32,101,108,115,101,32,105,102,32] (by (try simp)<;>omega);try simp only [A0B,A0F] at m4
   simp only [go_sem,seval,a4,hw1];repeat' ((with_reducible first|refine wr ?_|refine A2 ?_ ?_|fail)<;>try simp only [go_sem,seval,a4,hw1])
   refine AC.call (B6b L hL w hw 0 (by decide) j3 b3 _ _ t A0 (by omega)) ?_;rintro v' H' c6 ⟨r4,j4,g4,l4,b4,rfl,rfl⟩ hc6;rw [A1];obtain ⟨x5,e5,m5,a5⟩:=D9 x4 r4 (by (try simp)<;>omega);try simp only [A0B,A0F] at m5
   obtain ⟨x6,e6,m6,a6⟩:=D9 x5 [32] (by (try simp)<;>omega);try simp only [A0B,A0F] at m6
   simp only [go_sem,seval,a5,a6,hw1];repeat' ((with_reducible first|refine wr ?_|refine A2 ?_ ?_|fail)<;>try simp only [go_sem,seval,a5,a6,hw1])
   refine AC.call (hK' j4 b4 _ _ t A0 (by omega)) ?_;rintro v' H' c7 ⟨r5,j5,g5,l5,b5,rfl,rfl⟩ hc7;rw [A1];obtain ⟨x7,e7,m7,a7⟩:=D9 x6 r5 (by (try simp)<;>omega);try simp only [A0B,A0F] at m7
   simp only [go_sem,seval,a7,hw1];repeat' ((with_reducible first|refine wr ?_|refine A2 ?_ ?_|fail)<;>try simp only [go_sem,seval,a7,hw1])
   exact ⟨_,_,GL.refl _ _,x7,j5,by rw [e7,e6,e5,e4,e3,e2,e1];exact .ifC g1 g2 g4 g5,by omega,b5,rfl,rfl⟩
  obtain rfl:q=0:=by omega
  simp only [go_sem,seval];repeat' ((with_reducible first|refine wr ?_|refine A2 ?_ ?_|fail)<;>try simp only [go_sem,seval])
  exact ⟨_,_,GL.refl _ _,x3,j3,by rw [e3,e2,e1];exact .ifA g1 g2,by omega,b3,rfl,rfl⟩
 omega
theorem C3z (L:List UInt8) (hL:L.length<=300) (w:Nat) (D:Int) (P:List UInt8->Prop) (hS:MX 131 [I64 D] L w 14 P) :
  MX 81 [I64 D] L w 3 (BkG P):=by
 intro i hi H cc t ht htc;refine AC.bodyT B2 rfl (A0A rfl) fun hfr=>?_;repeat' ((with_reducible first|refine wr ?_|refine A2 ?_ ?_|fail)<;>try simp only [go_sem,seval])
 refine AC.call (Y4 L hL w 4 (by decide) (by decide) i hi _ _ t ht (by omega)) ?_;rintro v' H' c2 ⟨k,j,hlt,hj,hjp,rfl,rfl⟩ hc2;simp only [go_sem,seval];repeat' ((with_reducible first|refine wr ?_|refine A2 ?_ ?_|fail)<;>try simp only [go_sem,seval])
 refine D2 (fun q:Nat × Nat × List (List UInt8)=>[(0,.ptr t 0),(1,I64 D),(5,.str (A3x q.2.2)),(6,I64 q.1)]) (fun q=>H.upd t (mkB L w q.2.1))
  (fun q c=>cc<=c/\q.1+q.2.2.length<=3/\q.2.1<=300/\(∀ x∈q.2.2,P x)/\(A3x q.2.2).length+15 * q.1+50 * i<=1+50 * q.2.1) (fun q=>q.1) (k,j,[])
  (by simp [C6,tm,Tm.upd,A3x]) (Sub.refl _) ⟨hc2,(by show k+0<=3;omega),hj,(fun x hx=>absurd hx (A2I)),(by show 1+15 * k+50 * i<=1+50 * j;omega)⟩ ?_
 rintro ⟨n,i2,ss⟩ c ⟨hc,hn,hi2,hP,hl⟩;dsimp only at hc hn hi2 hP hl ⊢;by_cases h0:0<n
 ·have qn:decide ((n:Int)>0)=true:=by simpa using h0
  obtain ⟨n,rfl⟩:∃ m,n=m+1:=⟨n-1,by omega⟩;have hw1:IntKind.i64.wrap (((n+1:Nat):Int)-1)=(n:Int):=by rw [w6z (by omega)];omega
  generalize hn1:((n+1:Nat):Int)=N1 at qn hw1 ⊢;obtain ⟨x1,e1,m1,a1⟩:=D9 (A3x ss) [32] (by (try simp)<;>omega);try simp only [A0B,A0F] at m1
  repeat' ((with_reducible first|refine wr ?_|refine A2 ?_ ?_|fail)<;>try simp only [go_sem,seval,qn,a1])
  refine AC.call (hS i2 hi2 _ _ t A0 (by omega)) ?_;rintro v' H' c3 ⟨r,i3,g,l,hi3,rfl,rfl⟩ hc3;obtain ⟨x2,e2,m2,a2⟩:=D9 x1 r (by omega);rw [A1];simp only [go_sem,seval,a1,a2,hw1];repeat' ((with_reducible first|refine wr ?_|refine A2 ?_ ?_|fail)<;>try simp only [go_sem,seval,a1,a2,hw1])
  refine ⟨(n,i3,ss++[r]),?_,Sub.refl _,inv ⟨by omega,by simp;omega,hi3,?_,?_⟩,by simp only;omega⟩
  ·rw [e1] at e2;simp [C6,tm,Tm.upd,B1g,e2]
  ·intro x hx;rcases A1A.1 hx with hx|hx
   ·exact hP x hx
   ·rw [A0R.1 hx];exact g
  ·show (A3x (ss++[r])).length+15 * n+50 * i<=1+50 * i3;rw [B1g, <- e1, <- e2];omega
 ·obtain rfl:n=0:=by omega
  obtain ⟨x1,e1,m1,a1⟩:=D9 (A3x ss) [32,125] (by (try simp)<;>omega);try simp only [A0B,A0F] at m1
  repeat' ((with_reducible first|refine wr ?_|refine A2 ?_ ?_|fail)<;>try simp only [go_sem,seval,a1])
  exact ⟨_,_,GL.refl _ _,x1,i2,⟨ss,by omega,hP,e1⟩,by omega,hi2,rfl,rfl⟩
theorem D1e (L:List UInt8) (hL:L.length<=300) (w:Nat) (hw:w<=100):∀ d:Nat,d<=2->MX 131 [I64 d] L w 14 (StD L w d)
 | 0,_=>D1f L hL w hw 0 (by omega) (by omega) _ (.inl (by omega))
 | d+1,h=>by
  have h1:=D1e L hL w hw d (by omega);have h2:=C3z L hL w (d:Int) _ h1;exact D1f L hL w hw ((d+1:Nat):Int) (by omega) (by omega) _ (.inr (by rw [show ((d+1:Nat):Int)-1=(d:Int) by omega];exact h2))
theorem E1s (L:List UInt8) (hL:L.length<=300) (w:Nat) (hw:w<=100):MX 81 [I64 2] L w 3 (BkG (StD L w 2)) :=
 C3z L hL w ((2:Nat):Int) _ (D1e L hL w hw 2 (by omega))
theorem C5q (L:List UInt8) (hL:L.length<=300) (w:Nat) (hw:w<=100) (k:Nat) (hk:k<=1000):MX 43 [I64 k] L w 20 (HdG L w k):=by
 intro i hi H cc t ht htc;refine AC.bodyT B2 rfl (A0A rfl) fun hfr=>?_;have hrm:binR .rem (I64 (k:Int)) (.int .i64 11)=some (I64 ((k % 11:Nat):Int)):=by rw [B2z (by decide)];rfl
 repeat' ((with_reducible first|refine wr ?_|refine A2 ?_ ?_|fail)<;>try simp only [go_sem,seval,hrm])
 have hm11:=Nat.mod_lt k (show 0<11 by decide);have hld:=C6s hm11;have hg:=R8 (l:=C4l) (n:=10) (by decide) (k % 11);have hcon:∀ x,BkG (StD L w 2) x->HdG L w k ((([111,110,32]++C4l.getD (k % 11) [])++[32])++x):=fun x hx=>.std hx;generalize k % 11=m at hm11 hld hg hcon ⊢;generalize C4l.getD m []=tr at hld hg hcon ⊢;have hia:P5 1 (.slc cc 0 11) (I64 (m:Int))=some (.ptr cc m):=by simp [P5];omega
 rw [show ([.str [115,116,97,114,116],.str [115,116,111,112],.str [99,108,111,115,101,32,115,119,48],.str [111,112,101,110,32,115,119,48],.str [99,108,111,115,101,32,115,119,49],.str [99,108,111,115,101,32,115,119,50],.str [116,105,109,101,114,32,116,109,48],.str [116,105,109,101,114,32,116,109,49],.str [101,118,101,110,116,32,101,118,48],.str [101,118,101,110,116,32,101,118,49],.str [111,112,101,110,32,115,119,51]]:List DV)=D7y from rfl];generalize D7y=WL at hld ⊢;have ne0:=X3 t cc (by omega);have kB:∀ (i2 c0:Nat) (tx:List UInt8),i2<=300->cc+1<=c0->tx.length+50 * i<=11+50 * i2->(∀ x,BkG (StD L w 2) x->HdG L w k ((([111,110,32]++tx)++[32])++x)) ->
   IW Tryz.prog 34 (pz Tryz.prog 43 (.i (.i (.o .h)))) ⟨tm [(0,.ptr t 0),(5,.str tx)],(H.upd cc ⟨1,true,WL⟩).upd t (mkB L w i2),c0⟩ (rt [.tmp 4] fun v H' c' => ∃ v2 H2,GL H' [v] H2 [v2]/\∃ s j,HdG L w k s/\s.length+50 * i<=20+50 * j/\j<=300/\v2=.str s/\H2=H.upd t (mkB L w j)):=by
  intro i2 c0 tx hi2 hc0 htx hx;obtain ⟨x1,e1,m1,a1⟩:=D9 [111,110,32] tx (by (try simp)<;>omega);try simp only [A0B,A0F] at m1
  obtain ⟨x2,e2,m2,a2⟩:=D9 x1 [32] (by (try simp)<;>omega);try simp only [A0B,A0F] at m2
  repeat' ((with_reducible first|refine wr ?_|refine A2 ?_ ?_|fail)<;>try simp only [go_sem,seval,a1,a2])
  refine AC.call (E1s L hL w hw i2 hi2 _ _ t A0 (by omega)) ?_;rintro v' H' c3 ⟨r,j,g,l,b,rfl,rfl⟩ hc3;obtain ⟨x3,e3,m3,a3⟩:=D9 x2 r (by omega);rw [A1];simp only [go_sem,seval,a3];repeat' ((with_reducible first|refine wr ?_|refine A2 ?_ ?_|fail)<;>try simp only [go_sem,seval,a3])
  refine ⟨_,_,GL.less' (fun j2 q hj=>?_),x3,j,by rw [e3,e2,e1];exact hx r g,by omega,b,rfl,rfl⟩;by_cases e:j2=t
  ·subst e;rw [A0] at hj ⊢;exact hj
  ·rw [A3 e] at hj ⊢;have:j2≠cc:=by rintro rfl;rw [hfr _ (by omega)] at hj;cases hj
   rw [A3 this];exact hj
 simp only [go_sem,seval,ne0,hia,hld,A0,ht];by_cases h0:0<w
 ·have q0:decide ((w:Int)>0)=true:=by simpa using h0
  repeat' ((with_reducible first|refine wr ?_|refine A2 ?_ ?_|fail)<;>try simp only [go_sem,seval,ne0,hia,hld,A0,ht,q0])
  refine AC.call (Y4 L hL w w h0 (by omega) i hi _ _ t (by rw [A3 (by omega)];exact ht) (by omega)) ?_;rintro v' H' c2 ⟨q,j,hq,hj,hjp,rfl,rfl⟩ hc2;by_cases q1:q=1
  ·subst q1;simp only [go_sem,seval];repeat' ((with_reducible first|refine wr ?_|refine A2 ?_ ?_|fail)<;>try simp only [go_sem,seval])
   refine AC.call (Q1 L hL w hw [115,119] (by decide) 4 (by decide) (by decide) j hj _ _ t A0 (by omega)) ?_;rintro v' H' c3 ⟨r,j2,g,l,b,rfl,rfl⟩ hc3;obtain ⟨x1,e1,m1,a1⟩:=D9 [99,108,111,115,101,32] r (by (try simp)<;>omega);try simp only [A0B,A0F] at m1
   rw [A1];simp only [go_sem,seval,a1];repeat' ((with_reducible first|refine E3 (p:=IW _ _ (pz Tryz.prog 43 (.i (.i (.o .h)))) _ _) ?_|refine wr ?_|refine A2 ?_ ?_|fail)<;>try simp only [go_sem,seval,a1])
   exact IW.stage (by simp [C6,tm,Tm.upd]) (kB j2 _ x1 b (by omega) (by omega) (fun x hx=>by rw [e1];exact .wild h0 g hx))
  ·have qq:((q:Int) == 1)=false:=by simp;omega
   simp only [go_sem,seval,qq];repeat' ((with_reducible first|refine E3 (p:=IW _ _ (pz Tryz.prog 43 (.i (.i (.o .h)))) _ _) ?_|refine wr ?_|refine A2 ?_ ?_|fail)<;>try simp only [go_sem,seval,qq])
   exact IW.stage (by simp [C6,tm,Tm.upd]) (kB j _ tr hj (by omega) (by omega) hcon)
 ·have q0:decide ((w:Int)>0)=false:=by simpa using h0
  repeat' ((with_reducible first|refine E3 (p:=IW _ _ (pz Tryz.prog 43 (.i (.i (.o .h)))) _ _) ?_|refine wr ?_|refine A2 ?_ ?_|fail)<;>try simp only [go_sem,seval,ne0,hia,hld,A0,ht,q0])
  have:=kB i (cc+1) tr hi (A0H _) (by omega) hcon;rw [upd_same (by rw [A3 (by omega)];exact ht)] at this;exact IW.stage (by simp [C6,tm,Tm.upd]) this
theorem C3y (L:List UInt8) (hL:L.length<=300) (w:Nat) (hw:w<=100):MX 16 [] L w 950 (RuP L w 3):=by
 intro i0 hi H cc t ht htc;refine AC.bodyT B2 rfl (A0A rfl) fun hfr=>?_;obtain ⟨x1,e1,m1,a1⟩:=D9 ruA ruB (by decide);have l1:x1.length<=300:=by rw [m1];decide
 replace a1:binR .add (.str [115,119,105,116,99,104,32,115,119,48,32,51,59,32,115,119,105,116,99,104,32,115,119,49,32,57,59,32,115,119,105,116,99,104,32,115,119,50,32,52,48,59,32,115,119,105,116,99,104,32,115,119,51,32,54,51,59,10,99,111,105,108,32,99,111,105,108,48,32,48,59,32,99,111,105,108,32,99,111,105,108,49,32,55,59,32,99,111,105,108,32,99,111,105,108,50,32,51,49,59,10,108,97,109,112,32,108,97,109,112,48,32,48,59,32,108,97,109,112,32,108,97,109,112,49,32,57,59,32,108,97,109,112,32,108,97,109,112,50,32,51,51,59,32,108,97,109,112,32,108,97,109,112,51,32,54,51,59,10,115,111,117,110,100,32,115,110,100,48,32,48,59,32,115,111,117,110,100,32,115,110,100,49,32,53,59,32,115,104,111,119,32,115,104,111,119,48,32,48,59,32,115,104,111,119,32,115,104,111,119,49,32,49,59,10]) (.str [118,97,114,32,118,48,32])=some (.str x1):=a1;dsimp only at a1;repeat' ((with_reducible first|refine wr ?_|refine A2 ?_ ?_|fail)<;>try simp only [go_sem,seval,a1])
 refine AC.call (Y4 L hL w 4 (by decide) (by decide) i0 hi _ _ t (by rw [A3 (by omega)];exact ht) (by omega)) ?_;rintro v' H' c3 ⟨k3,j1,hlt3,b1,p1,rfl,rfl⟩ hc3;have hia:P5 1 (.slc (cc) 0 4) (I64 (k3:Int))=some (.ptr (cc) k3):=by simp [P5];omega
 have hld:=D2g hlt3;have hg:=R8 (l:=v0L) (n:=10) (by decide) k3;have hcon:RuP L w 0 (((ruA++ruB)++v0L.getD k3 [])++ruC):=.head hlt3;generalize hog:v0L.getD k3 []=og at hg hld hcon;generalize hWL:v0V=WL at hld;have hWL2:[.str [48],.str [53],.str [45,55],.str [50,49,52,55,52,56,51,54,52,55]]=WL:=hWL;have ne0:=X3 t cc (by omega);obtain ⟨x2,e2,m2,a2⟩:=D9 x1 og (by omega);have l2:ruC.length<=100:=by decide
 obtain ⟨x3,e3,m3,a3⟩:=D9 x2 ruC (by omega);replace a3:binR .add (.str x2) (.str [59,32,118,97,114,32,118,49,32,49,59,32,118,97,114,32,118,50,32,48,59,32,116,105,109,101,114,32,116,109,48,59,32,116,105,109,101,114,32,116,109,49,59,32,101,118,101,110,116,32,101,118,48,59,32,101,118,101,110,116,32,101,118,49,59,10])=some (.str x3):=a3;dsimp only at a3;simp only [go_sem,seval,A0,A1,ne0,hia,hWL2,hld,a1,a2,a3];have hfin:∀ (B:Blk) ds,GL ((H.upd cc ⟨1,true,WL⟩).upd t B) ds (H.upd t B) ds:=fun B ds=>GL.less' (fun j2 q hj=>by
  by_cases e:j2=t
  ·subst e;rw [A0] at hj ⊢;exact hj
  ·rw [A3 e] at hj ⊢;have:j2≠cc:=by rintro rfl;rw [hfr _ (by omega)] at hj;cases hj
   rw [A3 this];exact hj)
 generalize H.upd cc ⟨1,true,WL⟩=G at hfin ⊢;have hx3:RuP L w 0 x3:=by rw [e3,e2,e1];exact hcon
 have l3:x3.length<=500:=by omega
 clear hcon e1 e2 e3 a1 a2 a3 hld hWL hWL2 hia;repeat' ((with_reducible first|refine wr ?_|refine A2 ?_ ?_|fail)<;>try simp only [go_sem,seval])
 refine D2 (fun q:Nat × Nat × List UInt8=>[(0,.ptr t 0),(3,.str q.2.2),(4,I64 q.1)]) (fun q=>G.upd t (mkB L w q.2.1))
  (fun q c=>cc<=c/\q.1<=3/\q.2.1<=300/\RuP L w q.1 q.2.2/\q.2.2.length+50 * i0<=500+150 * q.1+50 * q.2.1) (fun q=>3-q.1) (0,j1,x3)
  (by simp [C6,tm,Tm.upd]) (Sub.refl _) ⟨(by omega),(by omega),b1,hx3,(by show x3.length+50 * i0<=500+150 * 0+50 * j1;omega)⟩ ?_
 rintro ⟨i,j,s⟩ c ⟨hc,hi3,hj,hR,hl⟩;dsimp only at hc hi3 hj hR hl ⊢;have hl3:s.length<=25000000:=by omega
 by_cases h3:i<3
 ·have qi:decide ((i:Int)<3)=true:=by simp;omega
  have hdi:=c_Dec' (i:Int) (by omega) (by omega);have hdil:=N8 (n:=(i:Int)) (by omega) (by omega);obtain ⟨y1,f1,n1,c1⟩:=D9 s [109,111,100,101,32,109,111,100,101] (by (try simp)<;>omega);try simp only [A0B,A0F] at n1
  obtain ⟨y2,f2,n2,c2⟩:=D9 y1 (G8 (i:Int)) (by omega);obtain ⟨y3,f3,n3,c3⟩:=D9 y2 [32] (by (try simp)<;>omega);try simp only [A0B,A0F] at n3
  repeat' ((with_reducible first|refine wr ?_|refine cpc hdi ?_|refine A2 ?_ ?_|fail)<;>try simp only [go_sem,seval,qi,c1,c2,c3])
  refine AC.call (Y4 L hL w 4 (by decide) (by decide) j hj _ _ t A0 (by omega)) ?_;rintro v' H' c4 ⟨p,j2,hp,b2,p2,rfl,rfl⟩ hc4;rw [A1];have hdp:=c_Dec' (p:Int) (by omega) (by omega);have hdpl:=N8 (n:=(p:Int)) (by omega) (by omega);obtain ⟨y4,f4,n4,c5⟩:=D9 y3 (G8 (p:Int)) (by omega);obtain ⟨y5,f5,n5,c6⟩:=D9 y4 [32,123,10] (by (try simp)<;>omega);try simp only [A0B,A0F] at n5
  simp only [go_sem,seval,c5,c6];repeat' ((with_reducible first|refine wr ?_|refine cpc hdp ?_|refine A2 ?_ ?_|fail)<;>try simp only [go_sem,seval,c5,c6])
  refine AC.call (Y4 L hL w 11 (by decide) (by decide) j2 b2 _ _ t A0 (by omega)) ?_;rintro v' H' c7 ⟨k,j3,hk,b3,p3,rfl,rfl⟩ hc7;rw [A1];simp only [go_sem,seval];repeat' ((with_reducible first|refine wr ?_|refine A2 ?_ ?_|fail)<;>try simp only [go_sem,seval])
  refine AC.call (Y4 L hL w 5 (by decide) (by decide) j3 b3 _ _ t A0 (by omega)) ?_;rintro v' H' c8 ⟨n,j4,hn,b4,p4,rfl,rfl⟩ hc8;rw [A1];simp only [go_sem,seval];repeat' ((with_reducible first|refine wr ?_|refine A2 ?_ ?_|fail)<;>try simp only [go_sem,seval])
  have hy:y5=B5o s i p:=by rw [f5,f4,f3,f2,f1];rfl
  have ly:y5.length<=s.length+60:=by omega
  refine D2 (fun q:Nat × Nat × List (List UInt8)=>[(0,.ptr t 0),(3,.str (A1i y5 q.2.2)),(4,I64 i),(5,I64 (k+q.2.2.length:Nat)),(6,I64 q.1)]) (fun q=>G.upd t (mkB L w q.2.1))
   (fun q n=>cc<=n/\q.1+q.2.2.length<=4/\q.2.1<=300/\(∀ j x,q.2.2[j]? = some x->HdG L w (k+j) x)/\(A1i y5 q.2.2).length+50 * j<=y5.length+21 * q.2.2.length+50 * q.2.1) (fun q=>q.1) (n,j4,[])
   (by simp [C6,tm,Tm.upd,A1i]) (Sub.refl _) ⟨(by omega),(by show n+0<=4;omega),b4,(fun j x h=>by cases h),(by show y5.length+50 * j<=y5.length+21 * 0+50 * j4;omega)⟩ ?_
  clear hc8 b4 hn p4 n j4 c8;rintro ⟨n,j5,hs⟩ c8 ⟨hc8,hn,b5,hH,lh⟩;dsimp only at hc8 hn b5 hH lh ⊢;by_cases h0:0<n
  ·have qn:decide ((n:Int)>0)=true:=by simpa using h0
   obtain ⟨n,rfl⟩:∃ m,n=m+1:=⟨n-1,by omega⟩;have hw1:IntKind.i64.wrap (((n+1:Nat):Int)-1)=(n:Int):=by rw [w6z (by omega)];omega
   have hw2:IntKind.i64.wrap (((k+hs.length:Nat):Int)+1)=((k+hs.length+1:Nat):Int):=by rw [w6z (by omega)];omega
   generalize hn1:((n+1:Nat):Int)=N1 at qn hw1 ⊢;generalize hk1:k+hs.length=K1 at hw2 ⊢;repeat' ((with_reducible first|refine wr ?_|refine A2 ?_ ?_|fail)<;>try simp only [go_sem,seval,qn])
   refine AC.call (C5q L hL w hw K1 (by omega) j5 b5 _ _ t A0 (by omega)) ?_;rintro v' H' c9 ⟨r,j6,g,l,b6,rfl,rfl⟩ hc9;obtain ⟨z1,g1,o1,d1⟩:=D9 (A1i y5 hs) r (by omega);obtain ⟨z2,g2,o2,d2⟩:=D9 z1 [10] (by (try simp)<;>omega);try simp only [A0B,A0F] at o2
   rw [A1];simp only [go_sem,seval,d1,d2,hw1,hw2];repeat' ((with_reducible first|refine wr ?_|refine A2 ?_ ?_|fail)<;>try simp only [go_sem,seval,d1,d2,hw1,hw2])
   have e1:A1i y5 (hs++[r])=z2:=by rw [C1m,g2,g1]
   have e2:(hs++[r]).length=hs.length+1:=by simp
   refine ⟨(n,j6,hs++[r]),?_,Sub.refl _,inv ⟨(by omega),(by show n+(hs++[r]).length<=4;omega),b6,(fun j x hx=>?_),(by show (A1i y5 (hs++[r])).length+50 * j<=y5.length+21 * (hs++[r]).length+50 * j6;rw [e1,e2];omega)⟩,(by simp only;omega)⟩
   ·simp only [e1,e2];simp [C6,tm,Tm.upd];omega
   ·by_cases hj2:j<hs.length
    ·rw [A2P hj2] at hx;exact hH j x hx
    ·rw [A2A (by omega)] at hx;have hj3:j-hs.length=0:=by
      have:=(A0V.1 hx).1;simp at this;omega
     rw [hj3] at hx;cases hx;obtain rfl:j=hs.length:=by omega
     rw [hk1];exact g
  ·obtain rfl:n=0:=by omega
   obtain ⟨z1,g1,o1,d1⟩:=D9 (A1i y5 hs) [125,10] (by (try simp)<;>omega);try simp only [A0B,A0F] at o1
   have hw2:IntKind.i64.wrap ((i:Int)+1)=((i+1:Nat):Int):=by rw [w6z (by omega)];omega
   repeat' ((with_reducible first|refine wr ?_|refine A2 ?_ ?_|fail)<;>try simp only [go_sem,seval,d1,hw2])
   refine ⟨(i+1,j5,z1),(by simp [C6,tm,Tm.upd]),Sub.refl _,inv ⟨(by omega),(by omega),b5,(by show RuP L w (i+1) z1;rw [g1,hy];exact .mode hR hp hk (by omega) hH),(by show z1.length+50 * i0<=500+150 * (i+1)+50 * j5;omega)⟩,(by simp only;omega)⟩
 ·obtain rfl:i=3:=by omega
  repeat' ((with_reducible first|refine wr ?_|refine A2 ?_ ?_|fail)<;>try simp only [go_sem,seval])
  exact ⟨_,_,hfin _ _,s,j,hR,by omega,hj,rfl,rfl⟩
theorem c_New (l:List UInt8) (hl:l.length<=9223372036854775807) (H:Hp) (cc:Nat) :
  AC Tryz.prog 13 [.lst (bytesC l)] H cc (fun v H' c' => ∃ t,cc<=t/\t<c'/\v=.ptr t 0/\H'=H.upd t (mkB (l.take 300) 0 0)):=by
 refine AC.bodyT B2 rfl (A0A rfl) fun hfr=>?_;have hlen:(bytesC l).length=l.length:=by simp [bytesC]
 have hmin:(if (300:Int)<((l.length:Nat):Int) then (300:Int) else ((l.length:Nat):Int))=((min l.length 300:Nat):Int):=by split<;>omega
 have hsl:A5n H 1 (.lst (bytesC l)) none (some (I64 ((min l.length 300:Nat):Int)))=some (.lst (bytesC (l.take 300))):=by
  have hb:boundOf (bytesC l).length (some (I64 ((min l.length 300:Nat):Int)))=some (min l.length 300):=by simp [boundOf]
  have hu:Sym.unit 1 (bytesC l)=true:=by simp only [Sym.unit,bytesC,List.all_map];exact A0Q.2 fun x _=>rfl
  simp only [A5n,hb];have h0:boundOf 0 none=some 0:=rfl;rw [h0];dsimp only;rw [if_pos ⟨by rw [hlen];omega,A1H _,hu⟩];rw [A3I,Nat.sub_zero];unfold bytesC;rw [<- List.map_take];have e:l.take (min l.length 300)=l.take 300:=by
   rcases Nat.le_total l.length 300 with h|h
   ·rw [Nat.min_eq_left h,A0O (A0H _),A0O h]
   ·rw [Nat.min_eq_right h]
  rw [e]
 repeat' ((with_reducible first|refine wr ?_|refine A2 ?_ ?_|fail)<;>try simp only [go_sem,seval,hlen,hmin,hsl])
 exact ⟨_,_,GL.refl _ _,cc,A0H _,A2H _,rfl,rfl⟩
theorem D1o (l:List UInt8):DV.nlL (bytesC l)=true:=Q5 (fun _=>rfl) l
end Go.Proofs.YthlpinppaclofaaGreatDoor
namespace Go.Pb
variable [Go.Sym.Tab]
open Go.Sym
def A3f (n:Nat) (l:List Tok):Prop:=(∀ t∈l,Fit t)/\l.length<=n/\A3p l<=n
theorem A2a (a b:List Tok):A3p (a++b)=A3p a+A3p b:=by simp [A3p]
theorem A3f.mono {n m:Nat} {l:List Tok} (h:A3f n l) (hm:n<=m):A3f m l:=⟨h.1,A1U h.2.1 hm,A1U h.2.2 hm⟩
def wd0 (l x:List Tok) (k:Nat):List Tok:=l.take k++x++l.drop (k+1)
def wd1 (l:List Tok) (k:Nat):List Tok:=l.take k++l.drop (k+1)
def wd2 (l x:List Tok) (k:Nat):List Tok:=l.take k++x++l.drop k
theorem B2o (l:List Tok) (k:Nat):A3p (l.drop k)+A3p (l.take k)=A3p l:=by
 have e:=A2a (l.take k) (l.drop k);rw [A2Y] at e;omega
theorem B9v (l:List Tok) (k:Nat):A3p (l.drop (k+1))<=A3p (l.drop k):=by
 have:=B2o (l.drop k) 1;rw [A3J] at this;omega
theorem A3f.drop1 {n m:Nat} {l x:List Tok} (h:A3f n l) (hx:A3f m x) (k:Nat):A3f (n+m) (wd2 l x k)/\A3f (n+m) (wd0 l x k)/\A3f (n+m) (wd1 l k):=by
 obtain ⟨h1,h2,h3⟩:=h;obtain ⟨g1,g2,g3⟩:=hx;have e1:=B2o l k;have e2:=B9v l k;have t1:∀ t∈l.take k,Fit t:=fun t ht=>h1 t (A2S ht);have t2:∀ j, ∀ t∈l.drop j,Fit t:=fun j t ht=>h1 t (A2T ht);unfold wd0 wd1 wd2;refine ⟨⟨?_,?_,?_⟩,⟨?_,?_,?_⟩,⟨?_,?_,?_⟩⟩
 ·intro t ht;rcases A1A.1 ht with ht|ht
  ·exact (A1A.1 ht).elim (t1 t) (g1 t)
  ·exact t2 _ t ht
 ·simp only [A0C,A0T,A1E];omega
 ·rw [A2a,A2a];omega
 ·intro t ht;rcases A1A.1 ht with ht|ht
  ·exact (A1A.1 ht).elim (t1 t) (g1 t)
  ·exact t2 _ t ht
 ·simp only [A0C,A0T,A1E];omega
 ·rw [A2a,A2a];omega
 ·intro t ht;rcases A1A.1 ht with ht|ht
  ·exact t1 t ht
  ·exact t2 _ t ht
 ·simp only [A0C,A0T,A1E];omega
 ·rw [A2a];omega
theorem A4k:∀ (f:Nat) (s:List UInt8) (k:Nat) (acc:List Tok),(H4 f s k acc).2.2≠0->(H4 f s k acc).1=[]
 | 0,s,k,acc,h=>absurd rfl h
 | f+1,s,k,acc,h=>by
  unfold H4 at h ⊢;split at h
  ·exact absurd rfl h
  ·rename_i h1;rw [if_neg h1];split at h
   ·rename_i h2;rw [if_pos h2]
   ·rename_i h2;rw [if_neg h2];exact A4k f _ _ _ h
theorem D2x (s:List UInt8):A3f 20000 (C0 s).1:=by
 by_cases h:(C0 s).2.2=0
 ·obtain ⟨h1,h2⟩:=S5 h;have h3:=h2.len (T7 false s);exact ⟨fun t ht=>(A4j h t ht).fit,by omega,by omega⟩
 ·have e:(C0 s).1=[]:=by
   unfold C0 at h ⊢;split at h
   ·rename_i h1;rw [if_pos h1]
   ·rename_i h1;rw [if_neg h1];exact A4k _ _ _ _ h
  rw [e];exact ⟨fun t ht=>(by cases ht),A1H _,A1H _⟩
theorem A3f.text {n:Nat} {l:List Tok} (h:A3f n l):(T4 l).length<=2 * n:=by
 have h1:=B1e C2m l 0;obtain ⟨_,h2,h3⟩:=h;unfold T4;omega
end Go.Pb
namespace Go.Pb
variable [Go.Sym.Tab]
open Go.Sym
theorem W9 {α : Type} {F : α -> DV} {u:Nat} (h:∀ a,(F a).cells.length=u) (l:List α):unit u (l.map F)=true:=by
 unfold unit;rw [A0Q];intro x hx;obtain ⟨a, -,rfl⟩:=A1I.1 hx;simp [h a]
end Go.Pb
namespace Go.Proofs.YthlpinppaclofaaGreatDoor
open Go.Eng (IC IOper DReg IFn J0)
open Go.Sym Go.Pb
def C6j:List (List UInt8):=[[123],[125],[40],[41],[59],[44],[61],[43],[45],[42],[33],[60],[61,61],[38,38],[105,102],[101,108,115,101],[114,101,112,101,97,116],[111,110],[109,111,100,101],[120],[55],[34,115,34],[99,108,111,115,101,100],[108,101,102,116],[116,114,117,101],[115,116,97,114,116],[116,105,109,101,114],[118,97,114],[115,99,111,114,101],[99,111,110,115,117,109,101]]
theorem C7m {H:Hp} (t:List Tok) {k:Nat} (h:k<=t.length):A5n H 4 (S2 t) none (some (I64 k))=some (S2 (t.take k)):=by
 have hb:boundOf (t.map Tok.v).length (some (I64 k))=some k:=by simp [boundOf]
 have h0:boundOf 0 none=some 0:=rfl;simp only [A5n,hb,h0];rw [if_pos ⟨by simpa using h,A1H _,W9 (F:=Tok.v) (u:=4) (fun _=>rfl) t⟩,A3I,Nat.sub_zero, <- List.map_take]
theorem B7e {H:Hp} (t:List Tok) {k:Nat} (h:k<=t.length):A5n H 4 (S2 t) (some (I64 k)) none=some (S2 (t.drop k)):=by
 have hb:boundOf (t.map Tok.v).length none=some (t.map Tok.v).length:=rfl;have h0:boundOf 0 (some (I64 k))=some k:=by simp [boundOf]
 simp only [A5n,hb,h0];rw [if_pos ⟨A0H _,by simpa using h,W9 (F:=Tok.v) (u:=4) (fun _=>rfl) t⟩, <- List.map_drop,A0O (by simp)]
theorem A4c {H M:Hp} {o:Option Nat} {A:List Tok} (B:List Tok) {c:Nat} (hA:o=none->A=[]) (hi:∀ i,o=some i->H i=none/\i<c) (hl:(A++B).length<=1000000) :
  ∃ o' c',apX (D4 H o ⟨4,true,A8 (A.map Tok.v)⟩) c 4 40 (C4 o A.length) (A0c M 4 (S2 B))=some (C4 o' (A++B).length,D4 H o' ⟨4,true,A8 ((A++B).map Tok.v)⟩,c')/\c<=c'/\(o'=none->A++B=[])/\(∀ i,o'=some i->i=c/\c'=c+1):=by
 have hs:A0c M 4 (S2 B)=some (B.length,A8 (B.map Tok.v)):=by
  rw [C8f (W9 (F:=Tok.v) (u:=4) (fun _=>rfl) B),A0I]
 have hlen:=hl;rw [A0C] at hlen;rw [hs,D6k];cases o with
 | none =>
  obtain rfl:=hA rfl;cases B with
  | nil=>exact ⟨none,c,rfl,A0H _,fun _=>rfl,fun i h=>by cases h⟩
  | cons b B =>
   refine ⟨some c,c+1,?_,A3F _,(fun h=>by cases h),fun i h=>by cases h;exact ⟨rfl,rfl⟩⟩;simp only [C4,D4,A1K,A0F];exact A6l (by simp) (by simp only [A0B] at hlen ⊢;omega) (by simp only [A0B] at hlen ⊢;omega)
 | some i =>
  obtain ⟨h1,h2⟩:=hi i rfl;refine ⟨some c,c+1,?_,A3F _,(fun h=>by cases h),fun i h=>by cases h;exact ⟨rfl,rfl⟩⟩;simp only [C4,D4];rw [A3r,A0,E0 (by rw [B8 (u:=4) (T1 _),A0I]) (by omega) (by omega),A0C,A0Z,H6]
  congr 3
  funext j
  by_cases e:j=c
  ·subst e;rw [A0,A0]
  ·rw [A3 e,A3 e];by_cases e2:j=i
   ·subst e2;rw [A1h,h1]
   ·rw [F0 e2,A3 e2]
theorem C1l {H:Hp} {o:Option Nat} {n:Nat} {xs ds es:List DV} (hn:o=none->xs=[]) (hs:∀ i,o=some i->H i=none) (hl:xs.length=n) (hu:∀ x∈xs,x.cells.length=4) :
  GL (D4 H o ⟨4,true,A8 xs⟩) (ds++[C4 o n]++es) H (ds++[.lst xs]++es):=by
 cases o with
 | none =>
  obtain rfl:=hn rfl;refine GL.view fun ρ vs hA=>?_;refine ⟨by have:=hA.1;simpa using this,fun i x y hx hy=>?_⟩;rcases D4f (x:=DV.snil) hx with h|⟨rfl,h⟩
  ·exact hA.2 i x y h hy
  ·exact (hA.2 i _ y h hy).snil_lst
 | some i =>
  have h1:=hs i rfl;exact GL.frzS (id:=i) A0 rfl (fun j=>by
   by_cases e:j=i
   ·subst e;exact .inl h1
   ·exact .inr ⟨e,(A3 e).symm⟩) (FzL.app (FzL.app (FzL.refl _) (.cons _ _ _ _ (M9 (blk:=⟨4,true,A8 xs⟩) hl hu ⟨[],by simp⟩) .nil)) (FzL.refl _))
end Go.Proofs.YthlpinppaclofaaGreatDoor
namespace Go.Pb
variable [Go.Sym.Tab]
open Go.Sym
def B4b (t:T3):Nat->List (List UInt8)->Int
 | _,[] => -1
 | k,x :: l=>if ((t.1 == 5 || t.1 == 2) && t.2.1 == x)=true then (k:Int) else B4b t (k+1) l
def Q2 (t:T3) (l:List (List UInt8)):Int:=B4b t 0 l
section
variable {L:List Tok} {E:Int}
def Tk (L:List Tok) (s:Rd):List T3:=(L.drop s.i).map st3
theorem A2p {s:Rd} {t:T3} {q:List T3} (h:Tk L s=t :: q):st3 (A4 L E s)=t/\(L.drop (s.i+1)).map st3=q/\s.i<L.length:=by
 have hl:s.i<L.length:=by
  have:=congrArg List.length h;simp [Tk] at this;omega
 have e:L.drop s.i=L[s.i] :: L.drop (s.i+1):=A1V hl;unfold Tk at h;rw [e,A0N] at h;injection h with h1 h2
 refine ⟨?_,h2,hl⟩;unfold A4;rw [A0S,A0E hl];exact h1
theorem C6z {s:Rd} (h:Tk L s=[]):A4 L E s=⟨0,[],0,E⟩:=by
 have hl:L.length<=s.i:=by
  have:=congrArg List.length h;simp [Tk] at this;omega
 unfold A4;rw [A0S,A1Q hl];rfl
theorem Y6 {s:Rd} {t:T3} {q:List T3} {x:List UInt8} (h:Tk L s=t :: q) (ho:okR s=true):isR L E s x=((t.1 == 5 || t.1 == 2) && t.2.1 == x):=by
 obtain ⟨h1, -, -⟩:=A2p (E:=E) h;unfold isR;rw [ho,A1J, <- h1];rfl
theorem B1a {s:Rd} {t:T3} {q:List T3} {k:Int} (h:Tk L s=t :: q) (ho:okR s=true):F9 L E s k=(t.1 == k):=by
 obtain ⟨h1, -, -⟩:=A2p (E:=E) h;unfold F9;rw [ho,A1J, <- h1];rfl
theorem C4f {s:Rd} {t:T3} {q:List T3} (h:Tk L s=t :: q) (ho:okR s=true):∀ (l:List (List UInt8)) (k:Nat),U9 L E s k l=B4b t k l
 | [],k=>rfl
 | x :: l,k=>by
  rw [U9,B4b,Y6 h ho,C4f h ho l (k+1)]
theorem R0 {s:Rd} {t:T3} {q:List T3} {l:List (List UInt8)} (h:Tk L s=t :: q) (ho:okR s=true):B6 L E s l=Q2 t l:=C4f h ho l 0
theorem B6k {s:Rd} (h:∀ x,isR L E s x=false):∀ (l:List (List UInt8)) (k:Nat),U9 L E s k l = -1
 | [],k=>rfl
 | x :: l,k=>by rw [U9,if_neg (by rw [h x];simp)];exact B6k h l (k+1)
theorem B9d {s:Rd} {l:List (List UInt8)} (h:okR s=false):B6 L E s l = -1:=B6k (fun x=>by unfold isR;rw [h];rfl) l 0
theorem C4e {s:Rd} {l:List (List UInt8)} (h:Tk L s=[]):B6 L E s l = -1:=B6k (fun x=>by unfold isR;rw [C6z (E:=E) h];simp) l 0
theorem A0a {t:T3} (h5:t.1≠5) (h2:t.1≠2):∀ (l:List (List UInt8)) (k:Nat),B4b t k l = -1
 | [],k=>rfl
 | x :: l,k=>by
  rw [B4b,if_neg (by simp [h5,h2])];exact A0a h5 h2 l (k+1)
def A8x (n:Int) (rest:List T3):Prop:=∀ t q,rest=t :: q->Q2 t B7<0\/B4 (12+Q2 t B7)<n
theorem A8x.up {n m:Int} {rest:List T3} (h:A8x n rest) (hm:n<=m):A8x m rest:=fun t q e=>(h t q e).imp id fun h=>by omega
theorem C3m {n:Int} {e:Ex} {s:Rd} {rest:List T3} (h:okR s=true->Tk L s=rest) (hn:A8x n rest):Lop L E n e s (e,s):=by
 apply Lop.stop;cases ho:okR s with
 | false=>left;rw [B9d ho];decide
 | true =>
  have ht:=h ho;cases rest with
  | nil=>left;rw [C4e ht];decide
  | cons t q =>
   rw [R0 ht ho];exact (hn t q rfl).imp id fun h=>by omega
inductive TyE (Nm:Int->List UInt8->Prop):Bool->Ex->Prop where
 | num {v p:Int}:TyE Nm true (.mk 1 v [] [] p)
 | var {n:List UInt8} {p:Int}:Nm 6 n->TyE Nm true (.mk 2 0 n [] p)
 | word0 {k:Nat} {ty:Bool} {p:Int}:(k,ty)∈[(0,false),(1,false),(2,true),(3,true)]->TyE Nm ty (.mk (F8.getD k 0) 0 [] [] p)
 | word1 {k:Nat} {nk:Int} {ty:Bool} {n:List UInt8} {p:Int}:(k,ty,nk)∈[(4,false,(1:Int)),(5,false,9),(6,true,7)]->Nm nk n->TyE Nm ty (.mk (F8.getD k 0) 0 n [] p)
 | neg {a:Ex} {p:Int}:TyE Nm true a->TyE Nm true (.mk 10 0 [] [a] p)
 | not {a:Ex} {p:Int}:TyE Nm false a->TyE Nm false (.mk 11 0 [] [a] p)
 | bin {k:Nat} {ta ty:Bool} {a b:Ex} {p:Int}:k<13->(ta=decide (k<11))->(ty=decide (k<5))->TyE Nm ta a->TyE Nm ta b->TyE Nm ty (.mk (12+(k:Int)) 0 [] [a,b] p)
inductive GX (Nm:Int->List UInt8->Prop):Int->Bool->Nat->Nat->List T3->Prop where
 | num {v:Int}:GX Nm 6 true 0 1 [(3,[],v)]
 | var {n:List UInt8}:Nm 6 n->GX Nm 6 true 0 1 [(1,n,0)]
 | word0 {k:Nat} {ty:Bool}:(k,ty)∈[(0,false),(1,false),(2,true),(3,true)]->GX Nm 6 ty 0 1 [(2,C9.getD k [],0)]
 | word1 {k:Nat} {nk:Int} {ty:Bool} {n:List UInt8}:(k,ty,nk)∈[(4,false,(1:Int)),(5,false,9),(6,true,7)]->Nm nk n->GX Nm 6 ty 0 1 [(2,C9.getD k [],0),(1,n,0)]
 | neg {d c:Nat} {a:List T3}:GX Nm 6 true d c a->GX Nm 6 true (d+1) c ((5,[45],0) :: a)
 | not {d c:Nat} {a:List T3}:GX Nm 6 false d c a->GX Nm 6 false (d+1) c ((5,[33],0) :: a)
 | par {m:Int} {ty:Bool} {d c:Nat} {a:List T3}:GX Nm m ty d c a->GX Nm 6 ty (d+1) c ((5,[40],0) :: (a++[(5,[41],0)]))
 | bin {k:Nat} {m1 m2:Int} {ta ty:Bool} {d1 d2 c1 c2:Nat} {a b:List T3}:k<13->(ta=decide (k<11))->(ty=decide (k<5))->B4 (12+(k:Int))<m1->B4 (12+(k:Int))<m2 ->
   GX Nm m1 ta d1 c1 a->GX Nm m2 ta d2 c2 b->GX Nm (B4 (12+(k:Int))) ty (max d1 d2) (c1+c2) (a++(5,B7.getD k [],0) :: b)
def Res (L:List Tok) (Nm:Int->List UInt8->Prop) (s:Rd) (r:Ex × Rd) (rest:List T3) (d c:Nat) (ty:Bool):Prop :=
 (s.par+d<=16->s.ops+c<=32->okR r.2=true)/\(okR r.2=true->Tk L r.2=rest/\TyE Nm ty r.1/\r.2.par=s.par/\r.2.ops=s.ops+c)
def PzU (L:List Tok) (E:Int) (Nm:Int->List UInt8->Prop) (ts:List T3) (d c:Nat) (ty:Bool):Prop:=∀ s rest,okR s=true->Tk L s=ts++rest->∃ r,Un L E s r/\Res L Nm s r rest d c ty
def Pz (L:List Tok) (E:Int) (Nm:Int->List UInt8->Prop) (m:Int) (ts:List T3) (d c:Nat) (ty:Bool):Prop:=∀ n,1<=n->n<=m->∀ s rest,okR s=true->Tk L s=ts++rest->A8x n rest->∃ r,Bin L E n s r/\Res L Nm s r rest d c ty
variable {Nm:Int->List UInt8->Prop}
theorem E2b {n:Int} {s:Rd} {r:Ex × Rd} {rest:List T3} {d c:Nat} {ty:Bool} (hn:n<=5) (h:Bin L E (n+1) s r) (hr:Res L Nm s r rest d c ty) (ho:A8x n rest):Bin L E n s r :=
 Bin.go hn h (C3m (fun h=>(hr.2 h).1) ho)
theorem Pz.of {m:Int} {ts:List T3} {d c:Nat} {ty:Bool} (hm:m<=6) (h:∀ s rest,okR s=true->Tk L s=ts++rest->A8x m rest->∃ r,Bin L E m s r/\Res L Nm s r rest d c ty):Pz L E Nm m ts d c ty:=by
 intro n hn1 hnm s rest ho ht hno;obtain ⟨k,hk⟩:∃ k:Nat,n=m-k:=⟨(m-n).toNat,by omega⟩
 induction k generalizing n with
 | zero =>
  obtain rfl:n=m:=by omega
  exact h s rest ho ht hno
 | succ k ih =>
  obtain ⟨r,h1,h2⟩:=ih (n+1) (by omega) (by omega) (hno.up (by omega)) (by omega);exact ⟨r,E2b (by omega) h1 h2 hno,h2⟩
theorem PzU.pz {ts:List T3} {d c:Nat} {ty:Bool} (h:PzU L E Nm ts d c ty):Pz L E Nm 6 ts d c ty :=
 Pz.of (by omega) fun s rest ho ht _=>by
  obtain ⟨r,h1,h2⟩:=h s rest ho ht;exact ⟨r,Bin.un (by omega) h1,h2⟩
theorem A5u {s:Rd} {n m e:Int} (h:n<=m):B9 L E s n m e=s:=by unfold B9;rw [if_neg (by omega)]
theorem C9w {s:Rd} {n m e:Int} (he:e≠0) (h:m<n):okR (B9 L E s n m e)=false:=by unfold B9;rw [if_pos h];exact O7 he
theorem B0e {s s':Rd} (h:s'.i=s.i+1) {t:T3} {q:List T3} (ht:Tk L s=t :: q):Tk L s'=q:=by
 unfold Tk;rw [h];exact (A2p (E:=0) ht).2.1
theorem A6n {s:Rd} {t:T3} {q:List T3} (ho:okR s=true) (ht:Tk L s=t :: q) (hp:Q2 t K0<0) (hk:0<=Q2 t C9\/t.1=3\/t.1=1) :
  ∃ r,Un L E s r/\(s.ops+1<=32->Q2 t C9<4->okR r.2=true)/\(s.ops+1<=32->4<=Q2 t C9->∀ n q',q=(1,n,0) :: q'->okR r.2=true/\Tk L r.2=q'/\r.1=.mk (F8.getD (Q2 t C9).toNat 0) 0 n [] (A4 L E s).pos) /\
   (okR r.2=true->r.2.par=s.par/\r.2.ops=s.ops+1/\s.ops+1<=32 /\
    (Q2 t C9<4->Tk L r.2=q/\r.1=(if 0<=Q2 t C9 then .mk (F8.getD (Q2 t C9).toNat 0) 0 [] [] (A4 L E s).pos else if t.1=3 then .mk 1 t.2.2 [] [] (A4 L E s).pos else .mk 2 0 t.2.1 [] (A4 L E s).pos))):=by
 refine ⟨G0 L E s,Un.prim (by rw [R0 ht ho];exact hp),?_⟩;obtain ⟨h1,h2,h3⟩:=A2p (E:=E) ht;have hg:¬ (B6 L E s C9<0/\F9 L E s 3=false/\F9 L E s 1=false):=by
  rw [R0 ht ho,B1a ht ho,B1a ht ho];rintro ⟨a,b,c⟩;rcases hk with hk|hk|hk
  ·omega
  ·rw [hk] at b;cases b
  ·rw [hk] at c;cases c
 unfold G0;dsimp only;rw [if_neg hg,R0 ht ho];by_cases hop:s.ops+1<=32
 ·rw [A5u hop];have ho1:okR ({ s with ops:=s.ops+1 }:Rd)=true:=ho;rw [if_neg (by rw [ho1];simp)];have htn:Tk L (A6 { s with ops:=s.ops+1 })=q:=B0e (s:=s) rfl ht;have hon:okR (A6 { s with ops:=s.ops+1 })=true:=ho;by_cases h0:0<=Q2 t C9
  ·rw [if_pos h0];by_cases h4:4<=Q2 t C9
   ·rw [if_pos h4];refine ⟨fun _ h=>by omega,fun _ _ n q' hq=>?_,fun hok=>⟨?_,?_,hop,fun h=>by omega⟩⟩
    ·rw [hq] at htn;have e:B1 L E (A6 { s with ops:=s.ops+1 }) 1=(A4 L E (A6 { s with ops:=s.ops+1 }),A6 (A6 { s with ops:=s.ops+1 })):=by
      unfold B1;rw [if_neg (by rw [B1a htn hon];simp)]
     rw [e];refine ⟨ho,B0e (s:=A6 { s with ops:=s.ops+1 }) rfl htn,?_⟩;have:=(A2p (E:=E) htn).1;have e2:(A4 L E (A6 { s with ops:=s.ops+1 })).text=n:=congrArg (fun x=>x.2.1) this;rw [e2]
    ·rw [(A2q hok).2];rfl
    ·rw [(A2q hok).2];rfl
   ·rw [if_neg h4];refine ⟨fun _ _=>hon,fun _ h=>absurd h h4,fun hok=>⟨rfl,rfl,hop,fun _=>⟨htn,?_⟩⟩⟩;rw [if_pos h0]
  ·rw [if_neg h0];have e1:(A4 L E s).kind=t.1:=congrArg (fun x=>x.1) h1;have e2:(A4 L E s).value=t.2.2:=congrArg (fun x=>x.2.2) h1;have e3:(A4 L E s).text=t.2.1:=congrArg (fun x=>x.2.1) h1;rw [e1,e2,e3];refine ⟨fun _ _=>?_,fun _ h=>by omega,fun hok=>⟨?_,?_,hop,fun _=>⟨?_,?_⟩⟩⟩
   ·split<;>exact hon
   ·split<;>rfl
   ·split<;>rfl
   ·split<;>exact htn
   ·rw [if_neg h0];split<;>rfl
 ·have hl:=C9w (L:=L) (E:=E) (s:={ s with ops:=s.ops+1 }) (e:=9) (m:=32) (n:=s.ops+1) (by decide) (by omega);rw [if_pos hl];refine ⟨fun h=>absurd h hop,fun h=>absurd h hop,fun hok=>?_⟩;dsimp only at hok;rw [hl] at hok;cases hok
theorem B4a (k:Nat) (hk:k<7):Q2 (2,C9.getD k [],0) C9=k/\Q2 (2,C9.getD k [],0) K0<0:=by
 have:∀ k,k<7->Q2 (2,C9.getD k [],0) C9=k/\Q2 (2,C9.getD k [],0) K0<0:=by decide
 exact this k hk
theorem C6c (k:Nat) (hk:k<13):Q2 (5,B7.getD k [],0) B7=k:=by
 have:∀ k,k<13->Q2 (5,B7.getD k [],0) B7=k:=by decide
 exact this k hk
theorem C9b {k:Nat} (hk:k<13):1<=B4 (12+(k:Int))/\B4 (12+(k:Int))<=5:=by
 have:∀ k:Nat,k<13->1<=B4 (12+(k:Int))/\B4 (12+(k:Int))<=5:=by decide
 exact this k hk
theorem C6m {s:Rd} (h:s.par+1<=16) (ho:okR s=true):okR (B9 L E s (s.par+1) 16 50)=true:=by rw [A5u h];exact ho
theorem C6n {s:Rd} {rest:List T3} {d c:Nat} {ty:Bool} (h:16<s.par+1) (ha:0<=B6 L E s K0):∃ r,Un L E s r/\Res L Nm s r rest (d+1) c ty:=by
 have hl:=C9w (L:=L) (E:=E) (s:=s) (n:=s.par+1) (m:=16) (e:=50) (by decide) h;refine ⟨_,Un.bad ha hl,fun h1 _=>?_,fun h1=>?_⟩
 ·have:((d+1:Nat):Int)=d+1:=by omega
  omega
 ·rw [hl] at h1;cases h1
theorem C3c {s:Rd} {k:Int} {x:List UInt8} {a rest:List T3} {d c:Nat} {ty:Bool} (hx:Q2 (5,x,0) K0=k) (h0:0<=k) (h2:k≠2) (h:PzU L E Nm a d c ty)
  (hq:∀ e p,TyE Nm ty e->TyE Nm ty (.mk (10+k) 0 [] [e] p)) (ho:okR s=true) (ht:Tk L s=(5,x,0) :: (a++rest)):∃ r,Un L E s r/\Res L Nm s r rest (d+1) c ty:=by
 have ha:B6 L E s K0=k:=by rw [R0 ht ho];exact hx
 by_cases h16:s.par+1<=16
 ·have hl:=C6m (L:=L) (E:=E) h16 ho;have htn:Tk L { s with i:=s.i+1,par:=s.par+1 }=a++rest:=B0e (s:=s) rfl ht;obtain ⟨r,h1,h3,h4⟩:=h { s with i:=s.i+1,par:=s.par+1 } rest ho htn;obtain ⟨e,s3⟩:=r;refine ⟨_,Un.pre (by rw [ha];exact h0) (by rw [ha];exact h2) hl h1,fun p1 p2=>?_,fun hok=>?_⟩
  ·have:((d+1:Nat):Int)=d+1:=by omega
   exact h3 (by dsimp only;omega) p2
  ·obtain ⟨q1,q2,q3,q4⟩:=h4 hok;rw [ha];exact ⟨q1,hq _ _ q2,by dsimp only at q3 ⊢;omega,q4⟩
 ·exact C6n (by omega) (by rw [ha];exact h0)
theorem D0h {m:Int} {ty:Bool} {d c:Nat} {ts:List T3} (h:GX Nm m ty d c ts):1<=m/\m<=6/\Pz L E Nm m ts d c ty/\(m=6->PzU L E Nm ts d c ty):=by
 have key:∀ {ts:List T3} {d c:Nat} {ty:Bool},PzU L E Nm ts d c ty->1<=(6:Int)/\(6:Int)<=6/\Pz L E Nm 6 ts d c ty/\((6:Int)=6->PzU L E Nm ts d c ty):=fun h=>⟨by omega,by omega,h.pz,fun _=>h⟩
 induction h with
 | @num v =>
  refine key fun s rest ho ht=>?_;have a1:Q2 (3,[],v) K0 = -1:=A0a (by simp) (by simp) _ _;have a2:Q2 (3,[],v) C9 = -1:=A0a (by simp) (by simp) _ _;obtain ⟨r,h1,h2, -,h3⟩:=A6n (E:=E) ho ht (by rw [a1];decide) (.inr (.inl rfl));rw [a2] at h2 h3;refine ⟨r,h1,fun _ p2=>h2 (by simpa using p2) (by decide),fun hok=>?_⟩;obtain ⟨q1,q2, -,q3⟩:=h3 hok;obtain ⟨q4,q5⟩:=q3 (by decide);rw [if_neg (by decide),if_pos rfl] at q5;exact ⟨q4,by rw [q5];exact .num,q1,by rw [q2];rfl⟩
 | @var n hn =>
  refine key fun s rest ho ht=>?_;have a1:Q2 (1,n,0) K0 = -1:=A0a (by simp) (by simp) _ _;have a2:Q2 (1,n,0) C9 = -1:=A0a (by simp) (by simp) _ _;obtain ⟨r,h1,h2, -,h3⟩:=A6n (E:=E) ho ht (by rw [a1];decide) (.inr (.inr rfl));rw [a2] at h2 h3;refine ⟨r,h1,fun _ p2=>h2 (by simpa using p2) (by decide),fun hok=>?_⟩;obtain ⟨q1,q2, -,q3⟩:=h3 hok;obtain ⟨q4,q5⟩:=q3 (by decide);rw [if_neg (by decide),if_neg (by simp)] at q5;exact ⟨q4,by rw [q5];exact .var hn,q1,by rw [q2];rfl⟩
 | @word0 k ty hk =>
  refine key fun s rest ho ht=>?_;have hk4:k<4:=by
   simp only [A1D,Prod.mk.injEq,A2I,or_false] at hk;omega
  obtain ⟨a2,a1⟩:=B4a k (by omega);obtain ⟨r,h1,h2, -,h3⟩:=A6n (E:=E) ho ht a1 (.inl (by rw [a2];omega));rw [a2] at h2 h3;refine ⟨r,h1,fun _ p2=>h2 (by simpa using p2) (by omega),fun hok=>?_⟩;obtain ⟨q1,q2, -,q3⟩:=h3 hok;obtain ⟨q4,q5⟩:=q3 (by omega);rw [if_pos (by omega),A2X] at q5;exact ⟨q4,by rw [q5];exact .word0 hk,q1,by rw [q2];rfl⟩
 | @word1 k nk ty n hk hn =>
  refine key fun s rest ho ht=>?_;have hk4:4<=k/\k<7:=by
   simp only [A1D,Prod.mk.injEq,A2I,or_false] at hk;omega
  obtain ⟨a2,a1⟩:=B4a k (by omega);obtain ⟨r,h1, -,h2,h3⟩:=A6n (E:=E) ho ht a1 (.inl (by rw [a2];omega));rw [a2,A2X] at h2;by_cases hop:s.ops+1<=32
  ·obtain ⟨q1,q2,q3⟩:=h2 hop (by omega) n rest rfl;obtain ⟨q4,q5, -, -⟩:=h3 q1;exact ⟨r,h1,fun _ _=>q1,fun _=>⟨q2,by rw [q3];exact .word1 hk hn,q4,by rw [q5];rfl⟩⟩
  ·exact ⟨r,h1,fun _ p2=>absurd (by simpa using p2) hop,fun hok=>absurd (h3 hok).2.2.1 hop⟩
 | @neg d c a _ ih=>exact key fun s rest ho ht=>C3c (k:=0) rfl (by decide) (by decide) (ih.2.2.2 rfl) (fun e p h=>.neg h) ho ht
 | @not d c a _ ih=>exact key fun s rest ho ht=>C3c (k:=1) rfl (by decide) (by decide) (ih.2.2.2 rfl) (fun e p h=>.not h) ho ht
 | @par m ty d c a _ ih =>
  refine key fun s rest ho ht=>?_;obtain ⟨hm1,hm6,hz, -⟩:=ih;have ha:B6 L E s K0=2:=by rw [R0 ht ho];rfl
  by_cases h16:s.par+1<=16
  ·have hl:=C6m (L:=L) (E:=E) h16 ho;have htn:Tk L { s with i:=s.i+1,par:=s.par+1 }=a++(5,[41],0) :: rest:=by
    have:=B0e (L:=L) (s':={ s with i:=s.i+1,par:=s.par+1 }) (s:=s) rfl ht;simpa using this
   obtain ⟨r,h1,h3,h4⟩:=hz 1 (by decide) hm1 { s with i:=s.i+1,par:=s.par+1 } _ ho htn (fun t q e=>by
    injection e with e1 e2;subst e1;exact .inl (by decide))
   obtain ⟨e,s3⟩:=r;refine ⟨_,Un.par ha hl h1,fun p1 p2=>?_,fun hok=>?_⟩
   ·have:((d+1:Nat):Int)=d+1:=by omega
    have k1:=h3 (by dsimp only;omega) p2;obtain ⟨q1, -, -, -⟩:=h4 k1;show okR (C5 L E s3 [41])=true;unfold C5;rw [if_neg (by rw [Y6 q1 k1];decide)];exact k1
   ·have k0:okR (C5 L E s3 [41])=true:=hok;obtain ⟨k1,k2⟩:=A5z k0;have k3:okR s3=true:=(A1g k1).1;obtain ⟨q1,q2,q3,q4⟩:=h4 k3;refine ⟨?_,q2,?_,?_⟩
    ·have:Tk L (C5 L E s3 [41])=rest:=by rw [k2];exact B0e (s:=s3) rfl q1
     exact this
    ·show (C5 L E s3 [41]).par-1=s.par;rw [k2];show s3.par-1=s.par;dsimp only at q3;omega
    ·show (C5 L E s3 [41]).ops=s.ops+c;rw [k2];exact q4
  ·exact C6n (by omega) (by rw [ha];decide)
 | @bin k m1 m2 ta ty d1 d2 c1 c2 a b hk hta hty hm1 hm2 _ _ iha ihb =>
  obtain ⟨hl1,hl5⟩:=C9b hk;obtain ⟨-, -,hza, -⟩:=iha;obtain ⟨-, -,hzb, -⟩:=ihb;refine ⟨hl1,by omega,?_,fun h=>by omega⟩;refine Pz.of (by omega) fun s rest ho ht hno=>?_;generalize hlv:B4 (12+(k:Int))=lv at *;have hsg:=C6c k hk;have ht':Tk L s=a++(5,B7.getD k [],0) :: (b++rest):=by rw [ht];simp
  obtain ⟨⟨e,s1⟩,h1,h2,h3⟩:=hza (lv+1) (by omega) (by omega) s _ ho ht' (fun t q e=>by
   injection e with e1 e2;subst e1;right;rw [hsg,hlv];omega)
  cases ho1:okR s1 with
  | false =>
   refine ⟨(e,s1),Bin.go (by omega) h1 (Lop.stop (.inl (by rw [B9d ho1];decide))),fun p1 p2=>?_,fun hok=>?_⟩
   ·have:=h2 (by omega) (by omega);exact absurd this (by rw [ho1];simp)
   ·rw [ho1] at hok;cases hok
  | true =>
   obtain ⟨q1,q2,q3,q4⟩:=h3 ho1;have ham:B6 L E s1 B7=k:=by rw [R0 q1 ho1];exact hsg
   have htn:Tk L (A6 s1)=b++rest:=B0e (s:=s1) rfl q1;obtain ⟨⟨x,s2⟩,g1,g2,g3⟩:=hzb (lv+1) (by omega) (by omega) (A6 s1) rest ho1 htn (hno.up (by omega));have hres:∀ p,Res L Nm s (.mk (12+(k:Int)) 0 [] [e,x] p,s2) rest (max d1 d2) (c1+c2) ty:=by
    intro p;refine ⟨fun p1 p2=>?_,fun hok=>?_⟩
    ·exact g2 (by show s1.par+d2<=16;dsimp only at q3;omega) (by show s1.ops+c2<=32;dsimp only at q4;omega)
    ·obtain ⟨w1,w2,w3,w4⟩:=g3 hok;refine ⟨w1,.bin hk hta hty q2 w2,?_,?_⟩
     ·have:(A6 s1).par=s1.par:=rfl;dsimp only at q3 w3 ⊢;omega
     ·have:(A6 s1).ops=s1.ops:=rfl;dsimp only at q4 w4 ⊢;omega
   by_cases h33:lv=3
   ·refine ⟨_,Bin.go (by omega) h1 (Lop.three (by rw [ham];omega) (by rw [ham];exact hlv) h33 g1),?_⟩;rw [ham];exact hres _
   ·refine ⟨_,Bin.go (by omega) h1 (Lop.more (by rw [ham];omega) (by rw [ham];exact hlv) h33 g1 (C3m (rest:=rest) (fun h=>(g3 h).1) hno)),?_⟩;rw [ham];exact hres _
end
end Go.Pb
namespace Go.Pb
variable [Go.Sym.Tab]
open Go.Sym
def B1w (Nm:Int->List UInt8->Prop) (R:Ru):Prop:=∀ k n,Nm k n->(A6x R n).1=k
theorem A7g {R:Ru} {n:List UInt8} {k p:Int} (h:k=0\/(A6x R n).1=k):dnE R n k p=none:=by
 unfold dnE dnM;rw [if_pos h,if_pos rfl]
theorem C6o {Nm:Int->List UInt8->Prop} {R:Ru} (hR:B1w Nm R) {ty:Bool} {e:Ex} (h:TyE Nm ty e):erE R e=none/\B6q e.kind=(if ty=true then 1 else 2):=by
 induction h with
 | num=>exact ⟨by simp [erE,A8d,A7g (show kdE 1=0\/_ from .inl rfl)],rfl⟩
 | var hn=>exact ⟨by simp [erE,A8d,A7g (.inr (hR _ _ hn)),show kdE 2=6 from rfl],rfl⟩
 | @word0 k ty p hk =>
  simp only [A1D,Prod.mk.injEq,A2I,or_false] at hk;rcases hk with ⟨rfl,rfl⟩|⟨rfl,rfl⟩|⟨rfl,rfl⟩|⟨rfl,rfl⟩
  all_goals exact ⟨by rw [erE,A8d,A7g (.inl (by decide))];rfl,rfl⟩
 | @word1 k nk ty n p hk hn =>
  have hl:=hR _ _ hn;simp only [A1D,Prod.mk.injEq,A2I,or_false] at hk;rcases hk with ⟨rfl,rfl,rfl⟩|⟨rfl,rfl,rfl⟩|⟨rfl,rfl,rfl⟩
  all_goals exact ⟨by rw [erE,A8d,A7g (.inr (by rw [hl];rfl))];rfl,rfl⟩
 | neg _ ih =>
  refine ⟨?_,rfl⟩;rw [erE,A8d,A8d,ih.1,A7g (.inl (by decide))];simp [ih.2,B1z]
 | not _ ih =>
  refine ⟨?_,rfl⟩;rw [erE,A8d,A8d,ih.1,A7g (.inl (by decide))];simp [ih.2,B1z]
 | @bin k ta ty a b p hk hta hty _ _ iha ihb =>
  have e1:∀ k:Nat,k<13->kdE (12+(k:Int))=0/\B6q (12+(k:Int))=(if decide (k<5)=true then 1 else 2)/\(k<11->k≠9->k≠10->∀ x,B1z (12+(k:Int)) x=1)/\((k=9\/k=10)->∀ x y,B1z (12+(k:Int)) (x :: y)=B6q x.kind)/\(11<=k->∀ x,B1z (12+(k:Int)) x=2):=by
   intro k hk;refine ⟨?_,?_,fun h1 h2 h3 x=>?_,fun h x y=>?_,fun h x=>?_⟩
   ·unfold kdE;rw [if_neg (by omega),if_neg (by omega),if_neg (by omega),if_neg (by omega)]
   ·have:∀ k:Nat,k<13->B6q (12+(k:Int))=(if decide (k<5)=true then 1 else 2):=by decide
    exact this k hk
   ·unfold B1z;rw [if_neg (by omega),if_neg (by omega)]
   ·unfold B1z;rw [if_neg (by omega),if_pos (by omega)]
   ·unfold B1z;rw [if_pos (by omega)]
  obtain ⟨g1,g2,g3,g4,g5⟩:=e1 k hk;refine ⟨?_,by rw [show (Ex.mk (12+(k:Int)) 0 [] [a,b] p).kind=12+(k:Int) from rfl,g2,hty]⟩;rw [erE,A8d,A8d,A8d,iha.1,ihb.1,A7g (.inl g1)];have hall:([a,b].all fun x=>B6q x.kind == B1z (12+(k:Int)) [a,b])=true:=by
   simp only [A2N,List.all_nil,A1T,iha.2,ihb.2];by_cases h1:11<=k
   ·rw [g5 h1,hta,show decide (k<11)=false by simp;omega];rfl
   ·by_cases h2:k=9\/k=10
    ·rw [g4 h2,iha.2];simp
    ·rw [g3 (by omega) (by omega) (by omega),hta,show decide (k<11)=true by simp;omega];rfl
  rw [hall];rfl
theorem B8t {Nm:Int->List UInt8->Prop} {R:Ru} (hR:B1w Nm R) {ty b:Bool} {e:Ex} (h:TyE Nm ty e) (hb:b = !ty):erA R b [e]=none:=by
 obtain ⟨h1,h2⟩:=C6o hR h;rw [erA,erA,h1,h2,hb];cases ty<;>rfl
theorem E9a {Nm:Int->List UInt8->Prop} {R:Ru} (hR:B1w Nm R) {e x:Ex} (h:TyE Nm true e) (h':TyE Nm true x):erA R false [e,x]=none:=by
 obtain ⟨h1,h2⟩:=C6o hR h;obtain ⟨h3,h4⟩:=C6o hR h';rw [erA,erA,erA,h1,h2,h3,h4];rfl
theorem C3w (R:Ru):∀ (a b:List St),erB R (a++b)=(erB R a).or (erB R b)
 | [],b=>by rw [A1K,erB];cases erB R b<;>rfl
 | x :: a,b=>by rw [A1N,erB,erB,C3w R a b];cases erS R x<;>cases erB R a<;>rfl
theorem A0o {R:Ru} {k p:Int} {n t:List UInt8} {a:List Ex} {x y:List St} (h1:kdS k=0\/(A6x R n).1=kdS k) (h2:erA R (k == 2) a=none) (h3:erB R x=none) (h4:erB R y=none):erS R (.mk k n t a x y p)=none:=by
 rw [erS,A7g h1,h2,h3,h4];rfl
section
variable {L:List Tok} {E:Int}
structure At (L:List Tok) (s:Rd) (q:List T3):Prop where
 ok:okR s=true
 tk:Tk L s=q
theorem At.nxt {s:Rd} {t:T3} {q:List T3} (h:At L s (t :: q)):At L (A6 s) q:=⟨h.ok,B0e (s:=s) rfl h.tk⟩
theorem At.take {s:Rd} {k v:Int} {n:List UInt8} {q:List T3} (h:At L s ((k,n,v) :: q)):B1 L E s k=(A4 L E s,A6 s)/\(A4 L E s).text=n/\(A4 L E s).value=v:=by
 have h1:=(A2p (E:=E) h.tk).1;refine ⟨?_,congrArg (fun x=>x.2.1) h1,congrArg (fun x=>x.2.2) h1⟩;unfold B1;rw [if_neg (by rw [B1a h.tk h.ok];simp)]
theorem At.exp {s:Rd} {c v:Int} {x:List UInt8} {q:List T3} (h:At L s ((c,x,v) :: q)) (hc:c=5\/c=2):C5 L E s x=A6 s:=by
 unfold C5;rw [if_neg (by rw [Y6 h.tk h.ok];rcases hc with rfl|rfl<;>simp)]
variable {Nm:Int->List UInt8->Prop}
theorem At.xpn {m:Int} {ty:Bool} {d c:Nat} {a rest:List T3} {s:Rd} (hx:GX Nm m ty d c a) (hd:d<=16) (hc:c<=32) (h:At L s (a++rest)) (hno:A8x 1 rest):∃ e s1,Xpn L E s (e,s1)/\At L s1 rest/\TyE Nm ty e:=by
 obtain ⟨h1,h2,hz, -⟩:=D0h (L:=L) (E:=E) hx;obtain ⟨⟨e,s1⟩,g1,g2,g3⟩:=hz 1 (by decide) h1 { s with ops:=0,par:=0 } rest h.ok h.tk hno;have k:=g2 (by show (0:Int)+d<=16;omega) (by show (0:Int)+c<=32;omega);obtain ⟨k1,k2, -, -⟩:=g3 k;exact ⟨e,s1,g1,⟨k,k1⟩,k2⟩
theorem A2d {x:List UInt8} {q:List T3} {n:Int} (h:Q2 (5,x,0) B7 = -1):A8x n ((5,x,0) :: q):=fun t q' e=>by
 injection e with e1 e2;subst e1;exact .inl (by rw [h];decide)
def SX (Nm:Int->List UInt8->Prop) (ty:Bool) (a:List T3):Prop:=∃ m d c,d<=16/\c<=32/\GX Nm m ty d c a
theorem At.sx {ty:Bool} {a rest:List T3} {s:Rd} (hx:SX Nm ty a) (h:At L s (a++rest)) (hno:A8x 1 rest):∃ e s1,Xpn L E s (e,s1)/\At L s1 rest/\TyE Nm ty e:=by
 obtain ⟨m,d,c,hd,hc,hg⟩:=hx;exact h.xpn hg hd hc hno
abbrev wdT (j:Nat):T3:=(2,B3.getD j [],0)
abbrev sgT (x:List UInt8):T3:=(5,x,0)
def B3f:List (Nat × Int):=[(3,2),(4,2),(5,2),(9,7),(10,9),(11,9),(12,8),(13,4),(14,5),(15,5)]
inductive GS (Nm:Int->List UInt8->Prop) (B:List T3->Prop):List T3->Prop where
 | set {n:List UInt8} {a:List T3}:Nm 6 n->SX Nm true a->GS Nm B ((1,n,0) :: sgT [61] :: (a++[sgT [59]]))
 | name {j:Nat} {k:Int} {n:List UInt8}:(j,k)∈B3f->Nm k n->GS Nm B [wdT j,(1,n,0),sgT [59]]
 | score {a:List T3}:SX Nm true a->GS Nm B (wdT 2 :: (a++[sgT [59]]))
 | arg {j:Nat} {k:Int} {n:List UInt8} {a:List T3}:(j,k)∈[(6,(3:Int)),(8,7)]->Nm k n->SX Nm true a->GS Nm B (wdT j :: (1,n,0) :: (a++[sgT [59]]))
 | blink {n:List UInt8} {a b:List T3}:Nm 3 n->SX Nm true a->SX Nm true b->GS Nm B (wdT 7 :: (1,n,0) :: (a++sgT [44] :: (b++[sgT [59]])))
 | text {x:List UInt8} {a:List T3}:SX Nm true a->GS Nm B (wdT 16 :: (4,x,0) :: sgT [44] :: (a++[sgT [59]]))
 | consume:GS Nm B [wdT 17,sgT [59]]
 | rep {a b:List T3}:SX Nm true a->B b->GS Nm B (wdT 1 :: (a++b))
 | ifs {a b:List T3}:SX Nm false a->B b->GS Nm B (wdT 0 :: (a++b))
 | ife {a b c:List T3}:SX Nm false a->B b->B c->GS Nm B (wdT 0 :: (a++(b++(2,[101,108,115,101],0) :: c)))
 | ifi {a b a2 c:List T3}:SX Nm false a->B b->SX Nm false a2->B c->GS Nm B (wdT 0 :: (a++(b++(2,[101,108,115,101],0) :: wdT 0 :: (a2++c))))
def GB (S:List T3->Prop) (ts:List T3):Prop:=∃ ls:List (List T3),ls.length<=64/\(∀ x∈ls,S x)/\ts=sgT [123] :: (ls.flatten++[sgT [125]])
def B6l (rest:List T3):Prop:=∀ t q,rest=t :: q->((t.1 == 5 || t.1 == 2) && t.2.1 == [101,108,115,101])=false
def D6c (L:List Tok) (E:Int) (Nm:Int->List UInt8->Prop) (b:Int) (ts:List T3):Prop:=∀ (d:Int) s rest,d+b<=8->At L s (ts++rest)->B6l rest ->
 ∃ x s1,O2 L E d s (x,s1)/\At L s1 rest/\∀ R,B1w Nm R->erS R x=none
def D2b (L:List Tok) (E:Int) (Nm:Int->List UInt8->Prop) (b:Int) (ts:List T3):Prop:=∀ (d:Int) s rest,d+b<=8->At L s (ts++rest) ->
 ∃ x s1,A7m L E d s (x,s1)/\At L s1 rest/\∀ R,B1w Nm R->erB R x=none
theorem B4g {j:Nat} (h:j<18):Q2 (wdT j) B3=j:=by
 have:∀ j,j<18->Q2 (wdT j) B3=j:=by decide
 exact this j h
theorem B5q {s:Rd} {d:Int} (h:d<=8):B9 L E s d 8 50=s:=A5u h
theorem A4h {s:Rd} {d:Int} {j:Nat} {q:List T3} {r:St × Rd} (hd:d<=8) (hj:2<=j) (hj2:j<18) (h:At L s (wdT j :: q)) (he:Evt (fun f=>G9 L E f (2+(j:Int)) (A4 L E s).pos (A6 s)) r):O2 L E d s r:=by
 have ha:B6 L E s B3=j:=by rw [R0 h.tk h.ok];exact B4g hj2
 refine O2.tail (by rw [B5q hd];exact h.ok) (by rw [ha];omega) ?_;rw [ha];exact he
theorem D3q {s:Rd} {rest:List T3} (h:At L s rest) (hne:B6l rest):isR L E s [101,108,115,101]=false:=by
 cases rest with
 | nil=>unfold isR;rw [C6z (E:=E) h.tk];simp
 | cons t q=>rw [Y6 h.tk h.ok];exact hne t q rfl
theorem C1w {b:Int} {j:Nat} {a c rest:List T3} {d:Int} {s:Rd} (hj:j=0\/j=1) (hd:d<=8) (hdb:d+1+b<=8) (ha:SX Nm (decide (j=1)) a) (hc:D2b L E Nm b c) (hch:∃ q,c=sgT [123] :: q)
  (hs:At L s (wdT j :: (a++(c++rest)))) (hne:B6l rest):∃ x s1,O2 L E d s (x,s1)/\At L s1 rest/\∀ R,B1w Nm R->erS R x=none:=by
 have hl:okR (B9 L E s d 8 50)=true:=by rw [B5q hd];exact hs.ok
 have ham:B6 L E s B3=j:=by rw [R0 hs.tk hs.ok];exact B4g (by omega)
 obtain ⟨q,rfl⟩:=hch;obtain ⟨e,s1,x1,x2,x3⟩:=hs.nxt.sx (E:=E) ha (A2d (by decide));obtain ⟨t,s2,y1,y2,y3⟩:=hc (d+1) s1 rest hdb x2;refine ⟨_,s2,O2.blk hl (by omega) x1 y1 (fun h=>?_),y2,fun R hR=>?_⟩
 ·rw [D3q y2 hne] at h;cases h.2
 ·rw [ham];rcases hj with rfl|rfl
  ·exact A0o (.inl (by decide)) (B8t hR x3 rfl) (y3 R hR) rfl
  ·exact A0o (.inl (by decide)) (B8t hR x3 rfl) (y3 R hR) rfl
theorem D6z {B:List T3->Prop} {b:Int} (hb : -2<=b) (hb2:∀ ts,B ts->0<=b) (hB:∀ ts,B ts->D2b L E Nm b ts) (hBh:∀ ts,B ts->∃ q,ts=sgT [123] :: q) {ts:List T3} (h:GS Nm B ts):D6c L E Nm (b+2) ts:=by
 intro d s rest hd hs hne;have hd8:d<=8:=by omega
 have hl:okR (B9 L E s d 8 50)=true:=by rw [B5q hd8];exact hs.ok
 have n59:∀ q,A8x 1 (sgT [59] :: q):=fun q=>A2d (by decide);have n44:∀ q,A8x 1 (sgT [44] :: q):=fun q=>A2d (by decide);cases h with
 | @set n a hn ha =>
  have hs:At L s ((1,n,0) :: sgT [61] :: (a++sgT [59] :: rest)):=by simpa using hs
  obtain ⟨t1,t2, -⟩:=hs.take (E:=E);have h2:=hs.nxt.nxt;have e1:C5 L E (B1 L E s 1).2 [61]=A6 (A6 s):=by rw [t1];exact hs.nxt.exp (.inl rfl)
  obtain ⟨e,s1,x1,x2,x3⟩:=h2.sx (E:=E) ha (n59 _);have hk:B6 L E s B3<0:=by rw [R0 hs.tk hs.ok,show Q2 (1,n,0) B3 = -1 from A0a (by simp) (by simp) _ _];decide
  refine ⟨_,_,O2.set hl hk (by rw [e1];exact x1),?_,fun R hR=>?_⟩
  ·rw [x2.exp (.inl rfl)];exact x2.nxt
  ·rw [t1];refine A0o (.inr ?_) (B8t hR x3 rfl) rfl rfl;rw [t2];exact hR 6 n hn
 | @name j k n hj hn =>
  have hs:At L s (wdT j :: (1,n,0) :: sgT [59] :: rest):=by simpa using hs
  have hjj:3<=j/\j<=15/\j≠6/\j≠7/\j≠8/\kdS (2+(j:Int))=k/\(2+(j:Int) == 2)=false:=by
   simp only [B3f,A1D,Prod.mk.injEq,A2I,or_false] at hj;rcases hj with ⟨rfl,rfl⟩|⟨rfl,rfl⟩|⟨rfl,rfl⟩|⟨rfl,rfl⟩|⟨rfl,rfl⟩|⟨rfl,rfl⟩|⟨rfl,rfl⟩|⟨rfl,rfl⟩|⟨rfl,rfl⟩|⟨rfl,rfl⟩<;>decide
  obtain ⟨j1,j2,j3,j4,j5,j6,j7⟩:=hjj;obtain ⟨t1,t2, -⟩:=hs.nxt.take (E:=E);have x2:=hs.nxt.nxt;refine ⟨_,_,A4h (r:=(.mk (2+(j:Int)) n [] [] [] [] (A4 L E s).pos,A6 (A6 (A6 s)))) hd8 (by omega) (by omega) hs (Evt.one fun f=>?_),x2.nxt,fun R hR=>?_⟩
  ·unfold G9;rw [if_neg (by omega),if_neg (by omega),if_neg (by omega),t1];dsimp only;rw [if_neg (by omega),t2,x2.exp (.inl rfl)]
  ·exact A0o (.inr (by rw [j6];exact hR _ _ hn)) rfl rfl rfl
 | @score a ha =>
  have hs:At L s (wdT 2 :: (a++sgT [59] :: rest)):=by simpa using hs
  obtain ⟨e,s1,x1,x2,x3⟩:=hs.nxt.sx (E:=E) ha (n59 _);refine ⟨_,_,A4h (r:=(.mk 4 [] [] [e] [] [] (A4 L E s).pos,A6 s1)) hd8 (by omega) (by omega) hs (x1.map fun f h=>?_),x2.nxt,fun R hR=>?_⟩
  ·unfold G9;rw [if_pos (by decide),h];dsimp only;rw [x2.exp (.inl rfl)];rfl
  ·exact A0o (.inl (by decide)) (B8t hR x3 rfl) rfl rfl
 | @arg j k n a hj hn ha =>
  have hs:At L s (wdT j :: (1,n,0) :: (a++sgT [59] :: rest)):=by simpa using hs
  have hjj:(j=6\/j=8)/\kdS (2+(j:Int))=k/\(2+(j:Int) == 2)=false:=by
   simp only [A1D,Prod.mk.injEq,A2I,or_false] at hj;rcases hj with ⟨rfl,rfl⟩|⟨rfl,rfl⟩<;>decide
  obtain ⟨j1,j6,j7⟩:=hjj;obtain ⟨t1,t2, -⟩:=hs.nxt.take (E:=E);obtain ⟨e,s1,x1,x2,x3⟩:=hs.nxt.nxt.sx (E:=E) ha (n59 _);refine ⟨_,_,A4h (r:=(.mk (2+(j:Int)) n [] [e] [] [] (A4 L E s).pos,A6 s1)) hd8 (by omega) (by omega) hs (x1.map fun f h=>?_),x2.nxt,fun R hR=>?_⟩
  ·unfold G9;rw [if_neg (by omega),if_neg (by omega),if_neg (by omega),t1];dsimp only;rw [if_pos (by omega),h];dsimp only;rw [if_neg (by omega),t2,x2.exp (.inl rfl)]
  ·exact A0o (.inr (by rw [j6];exact hR _ _ hn)) (B8t hR x3 (by rw [j7];rfl)) rfl rfl
 | @blink n a a2 hn ha ha2 =>
  have hs:At L s (wdT 7 :: (1,n,0) :: (a++sgT [44] :: (a2++sgT [59] :: rest))):=by simpa using hs
  obtain ⟨t1,t2, -⟩:=hs.nxt.take (E:=E);obtain ⟨e,s1,x1,x2,x3⟩:=hs.nxt.nxt.sx (E:=E) ha (n44 _);obtain ⟨e2,s2,y1,y2,y3⟩:=x2.nxt.sx (E:=E) ha2 (n59 _);refine ⟨_,_,A4h (r:=(.mk 9 n [] [e,e2] [] [] (A4 L E s).pos,A6 s2)) hd8 (by omega) (by omega) hs (x1.map2 y1 fun f h h2=>?_),y2.nxt,fun R hR=>?_⟩
  ·unfold G9;rw [if_neg (by decide),if_neg (by decide),if_neg (by decide),t1];dsimp only;rw [if_pos (by decide),h];dsimp only;rw [if_pos (by decide),x2.exp (.inl rfl),h2];dsimp only;rw [t2,y2.exp (.inl rfl)];rfl
  ·exact A0o (.inr (hR 3 n hn)) (E9a hR x3 y3) rfl rfl
 | @text x a ha =>
  have hs:At L s (wdT 16 :: (4,x,0) :: sgT [44] :: (a++sgT [59] :: rest)):=by simpa using hs
  obtain ⟨t1,t2, -⟩:=hs.nxt.take (E:=E);have h3:=hs.nxt.nxt;obtain ⟨e,s1,x1,x2,x3⟩:=h3.nxt.sx (E:=E) ha (n59 _);refine ⟨_,_,A4h (r:=(.mk 18 [] x [e] [] [] (A4 L E s).pos,A6 s1)) hd8 (by omega) (by omega) hs (x1.map fun f h=>?_),x2.nxt,fun R hR=>?_⟩
  ·unfold G9;rw [if_neg (by decide),if_pos (by decide),t1];dsimp only;rw [h3.exp (.inl rfl),h];dsimp only;rw [t2,x2.exp (.inl rfl)];rfl
  ·exact A0o (.inl (by decide)) (B8t hR x3 rfl) rfl rfl
 | consume =>
  have hs:At L s (wdT 17 :: sgT [59] :: rest):=by simpa using hs
  refine ⟨_,_,A4h (r:=(.mk 19 [] [] [] [] [] (A4 L E s).pos,A6 (A6 s))) hd8 (by omega) (by omega) hs (Evt.one fun f=>?_),hs.nxt.nxt,fun R hR=>?_⟩
  ·unfold G9;rw [if_neg (by decide),if_neg (by decide),if_pos (by decide),hs.nxt.exp (.inl rfl)];rfl
  ·exact A0o (.inl (by decide)) rfl rfl rfl
 | @rep a c ha hc=>exact C1w (.inr rfl) hd8 (by omega) ha (hB c hc) (hBh c hc) (by simpa using hs) hne
 | @ifs a c ha hc=>exact C1w (.inl rfl) hd8 (by omega) ha (hB c hc) (hBh c hc) (by simpa using hs) hne
 | @ife a c c2 ha hc hc2 =>
  have hs:At L s (wdT 0 :: (a++(c++(2,[101,108,115,101],0) :: (c2++rest)))):=by simpa using hs
  have ham:B6 L E s B3=0:=by rw [R0 hs.tk hs.ok];exact B4g (j:=0) (by decide)
  have hcb:=hB c hc;have hcb2:=hB c2 hc2;obtain ⟨q,rfl⟩:=hBh c hc;obtain ⟨q2,rfl⟩:=hBh c2 hc2;obtain ⟨e,s1,x1,x2,x3⟩:=hs.nxt.sx (E:=E) ha (A2d (by decide));obtain ⟨t,s2,y1,y2,y3⟩:=hcb (d+1) s1 _ (by omega) x2;have he:isR L E s2 [101,108,115,101]=true:=by rw [Y6 y2.tk y2.ok];rfl
  have hi:isR L E (A6 s2) [105,102]=false:=by rw [Y6 y2.nxt.tk y2.nxt.ok];rfl
  obtain ⟨o,s3,z1,z2,z3⟩:=hcb2 (d+1) (A6 s2) rest (by omega) y2.nxt;exact ⟨_,s3,O2.els hl ham x1 y1 he (A7k.blk hi z1),z2,fun R hR=>A0o (.inl (by decide)) (B8t hR x3 rfl) (y3 R hR) (z3 R hR)⟩
 | @ifi a c a2 c2 ha hc ha2 hc2 =>
  have hb3:=hb2 c hc;have hs:At L s (wdT 0 :: (a++(c++(2,[101,108,115,101],0) :: wdT 0 :: (a2++(c2++rest))))):=by simpa using hs
  have ham:B6 L E s B3=0:=by rw [R0 hs.tk hs.ok];exact B4g (j:=0) (by decide)
  have hcb:=hB c hc;obtain ⟨q,rfl⟩:=hBh c hc;obtain ⟨e,s1,x1,x2,x3⟩:=hs.nxt.sx (E:=E) ha (A2d (by decide));obtain ⟨t,s2,y1,y2,y3⟩:=hcb (d+1) s1 _ (by omega) x2;have he:isR L E s2 [101,108,115,101]=true:=by rw [Y6 y2.tk y2.ok];rfl
  have hi:isR L E (A6 s2) [105,102]=true:=by rw [Y6 y2.nxt.tk y2.nxt.ok];rfl
  obtain ⟨x,s3,z1,z2,z3⟩:=C1w (E:=E) (j:=0) (d:=d+1) (.inl rfl) (by omega) (by omega) ha2 (hB c2 hc2) (hBh c2 hc2) y2.nxt hne;exact ⟨_,s3,O2.els hl ham x1 y1 he (A7k.iff hi z1),z2,fun R hR=>A0o (.inl (by decide)) (B8t hR x3 rfl) (y3 R hR) (by rw [erB,z3 R hR,erB];rfl)⟩
theorem C3v {B:List T3->Prop} {ts:List T3} (h:GS Nm B ts):∃ t q,ts=t :: q/\(0<=Q2 t B3\/t.1=1)/\((t.1 == 5 || t.1 == 2) && t.2.1 == [125])=false/\((t.1 == 5 || t.1 == 2) && t.2.1 == [101,108,115,101])=false:=by
 have hw:∀ j,j<18->(0<=Q2 (wdT j) B3\/(wdT j).1=1)/\(((wdT j).1 == 5 || (wdT j).1 == 2) && (wdT j).2.1 == [125])=false/\(((wdT j).1 == 5 || (wdT j).1 == 2) && (wdT j).2.1 == [101,108,115,101])=false:=by decide
 cases h with
 | set=>exact ⟨_,_,rfl,.inr rfl,rfl,rfl⟩
 | @name j k n hj _ =>
  have hjj:j<18:=by
   simp only [B3f,A1D,Prod.mk.injEq,A2I,or_false] at hj;omega
  exact ⟨_,_,rfl,hw j hjj⟩
 | score=>exact ⟨_,_,rfl,hw 2 (by decide)⟩
 | @arg j k n a hj _ _ =>
  have hjj:j<18:=by
   simp only [A1D,Prod.mk.injEq,A2I,or_false] at hj;omega
  exact ⟨_,_,rfl,hw j hjj⟩
 | blink=>exact ⟨_,_,rfl,hw 7 (by decide)⟩
 | text=>exact ⟨_,_,rfl,hw 16 (by decide)⟩
 | consume=>exact ⟨_,_,rfl,hw 17 (by decide)⟩
 | rep=>exact ⟨_,_,rfl,hw 1 (by decide)⟩
 | ifs=>exact ⟨_,_,rfl,hw 0 (by decide)⟩
 | ife=>exact ⟨_,_,rfl,hw 0 (by decide)⟩
 | ifi=>exact ⟨_,_,rfl,hw 0 (by decide)⟩
theorem D1s {B:List T3->Prop} {b:Int} (hS:∀ ts,GS Nm B ts->D6c L E Nm b ts) {d:Int} (hd:d+b<=8) (rest:List T3):∀ (ls:List (List T3)) (acc:List St) (s:Rd),acc.length+ls.length<=64->(∀ x∈ls,GS Nm B x) ->
  At L s (ls.flatten++sgT [125] :: rest)->∃ x s1,Z6 L E d acc s (x,s1)/\At L s1 rest/\∀ R,B1w Nm R->erB R acc=none->erB R x=none
 | [],acc,s,hl,hx,hs=>by
  have hs:At L s (sgT [125] :: rest):=hs;have hi:isR L E s [125]=true:=by rw [Y6 hs.tk hs.ok];rfl
  refine ⟨acc,A6 s,?_,hs.nxt,fun R _ h=>h⟩;have:=Z6.stop (L:=L) (E:=E) (d:=d) (l:=acc) (s:=s) (by rw [hi];simp);rw [hs.exp (.inl rfl)] at this;exact this
 | y :: ls,acc,s,hl,hx,hs=>by
  have hy:=hx y A0L;obtain ⟨t,q,e,h1,h2,h3⟩:=C3v hy;have hs:At L s (y++(ls.flatten++sgT [125] :: rest)):=by simpa using hs
  have hs0:At L s (t :: (q++(ls.flatten++sgT [125] :: rest))):=by rw [e] at hs;exact hs
  have hi:isR L E s [125]=false:=by rw [Y6 hs0.tk hs0.ok];exact h2
  have hg:¬ (B6 L E s B3<0/\F9 L E s 1=false):=by
   rw [R0 hs0.tk hs0.ok,B1a hs0.tk hs0.ok];rintro ⟨a1,a2⟩;rcases h1 with h1|h1
   ·omega
   ·rw [h1] at a2;cases a2
  have hlm:B9 L E s ((acc.length:Int)+1) 64 9=s:=A5u (by simp only [A0B] at hl;omega);have hne:B6l (ls.flatten++sgT [125] :: rest):=by
   intro t' q' e';cases ls with
   | nil=>injection e' with e1 e2;subst e1;rfl
   | cons z ls =>
    obtain ⟨t2,q2,e2, -, -,h5⟩:=C3v (hx z (A0J _ A0L));rw [A2W,e2] at e';injection e' with e1 e3;subst e1;exact h5
  obtain ⟨x,s1,x1,x2,x3⟩:=hS y hy d s _ hd hs hne;obtain ⟨r,s2,y1,y2,y3⟩:=D1s hS hd rest ls (acc++[x]) s1 (by simp only [A0B,A0C,A0F] at hl ⊢;omega) (fun z hz=>hx z (A0J _ hz)) x2;refine ⟨r,s2,Z6.more ⟨hs.ok,hi⟩ hg (by rw [hlm];exact x1) y1,y2,fun R hR ha=>y3 R hR ?_⟩;rw [C3w,ha,erB,x3 R hR,erB];rfl
theorem D7f {B:List T3->Prop} {b:Int} (hS:∀ ts,GS Nm B ts->D6c L E Nm b ts) {ts:List T3} (h:GB (GS Nm B) ts):D2b L E Nm b ts:=by
 obtain ⟨ls,hl,hx,rfl⟩:=h;intro d s rest hd hs;have hs:At L s (sgT [123] :: (ls.flatten++sgT [125] :: rest)):=by simpa using hs
 obtain ⟨x,s1,x1,x2,x3⟩:=D1s hS hd rest ls [] (A6 s) (by simpa using hl) hx hs.nxt;exact ⟨x,s1,A7m.mk (by rw [hs.exp (.inl rfl)];exact x1),x2,fun R hR=>x3 R hR rfl⟩
def GSd (Nm:Int->List UInt8->Prop):Nat->List T3->Prop
 | 0=>GS Nm fun _=>False
 | n+1=>GS Nm (GB (GSd Nm n))
theorem B8k (n:Nat):∃ B,GSd Nm n=GS Nm B:=by cases n<;>exact ⟨_,rfl⟩
theorem D0i:∀ (n:Nat) (ts:List T3),GSd Nm n ts->D6c L E Nm (2 * n) ts
 | 0,ts,h=>by
  have h0:GS Nm (fun _=>False) ts:=h;have:=D6z (L:=L) (E:=E) (b := -2) (A3G _) (fun _ h=>h.elim) (fun _ h=>h.elim) (fun _ h=>h.elim) h0;intro d s rest hd;exact this d s rest (by omega)
 | n+1,ts,h=>by
  have h1:GS Nm (GB (GSd Nm n)) ts:=h;have:=D6z (L:=L) (E:=E) (b:=2 * n) (by omega) (fun _ _=>by omega) (fun t ht=>by
   obtain ⟨B,e⟩:=B8k (Nm:=Nm) n;rw [e] at ht;exact D7f (fun q hq=>D0i n q (by rw [e];exact hq)) ht) (fun t ht=>by
   obtain ⟨ls, -, -,rfl⟩:=ht;exact ⟨_,rfl⟩) h1
  intro d s rest hd;exact this d s rest (by omega)
theorem E1f (n:Nat) {ts:List T3} (h:GB (GSd Nm n) ts):D2b L E Nm (2 * n) ts:=by
 obtain ⟨B,e⟩:=B8k (Nm:=Nm) n;rw [e] at h;exact D7f (fun q hq=>D0i n q (by rw [e];exact hq)) h
end
end Go.Pb
namespace Go.Pb
variable [Go.Sym.Tab]
open Go.Sym
theorem A9n {α : Type} [DecidableEq α] {l:List α} {x : α}:(l++[x]).Nodup↔l.Nodup/\x ∉ l:=by
 rw [A3X];constructor
 ·rintro ⟨h1, -,h2⟩;exact ⟨h1,fun hx=>h2 x hx x (A0R.2 rfl) rfl⟩
 ·rintro ⟨h1,h2⟩;exact ⟨h1,by simp,fun a ha b hb e=>by rw [A0R.1 hb] at e;exact h2 (e▸ha)⟩
theorem B9c {D:List Dc} {n:List UInt8}:D.any (fun d=>d.name == n)=false↔n ∉ D.map Dc.name:=by
 rw [A3Y];constructor
 ·intro h hm;obtain ⟨d,hd,rfl⟩:=A1I.1 hm;exact h d hd (by simp)
 ·intro h d hd he;exact h (A1I.2 ⟨d,hd,by simpa using he⟩)
theorem C6b {D:List Md} {n:List UInt8}:D.any (fun d=>d.name == n)=false↔n ∉ D.map Md.name:=by
 rw [A3Y];constructor
 ·intro h hm;obtain ⟨d,hd,rfl⟩:=A1I.1 hm;exact h d hd (by simp)
 ·intro h d hd he;exact h (A1I.2 ⟨d,hd,by simpa using he⟩)
theorem A8j.app {a b:List Dc}:A8j (a++b)↔A8j a/\A8j b :=
 ⟨fun h=>⟨fun d hd=>h d (A3A _ hd),fun d hd=>h d (A3M _ hd)⟩,fun h d hd=>(A1A.1 hd).elim (h.1 d) (h.2 d)⟩
theorem C3r {b:Prop} [Decidable b] {q:Int × Int}:((if b then some q else none):Er)=none↔¬b:=by
 split<;>simp [*]
theorem B8h {b:Prop} [Decidable b] {q:Int × Int}:((if b then none else some q):Er)=none↔b:=by
 split<;>simp [*]
theorem B8s:∀ (D pre:List Dc),A8j (pre++D)->(pre.map Dc.name).Nodup->(erD pre D=none↔(∀ d∈D,¬ d.value>D3y d.kind)/\((pre++D).map Dc.name).Nodup)
 | [],pre,hk,hn=>by rw [erD,A1M];exact ⟨fun _=>⟨fun d hd=>(by cases hd),hn⟩,fun _=>rfl⟩
 | d :: l,pre,hk,hn=>by
  have hk':A8j ((pre++[d])++l):=by rw [A0U];exact hk
  have hkp:A8j pre:=(A8j.app.1 hk).1;have hl:=C3n pre [] d.name hkp;rw [B9c] at hl;rw [erD,A3L,A3L,C3r,B8h,hl];have e:pre++d :: l=(pre++[d])++l:=by simp
  by_cases hm:d.name∈pre.map Dc.name
  ·constructor
   ·rintro ⟨⟨-,h, -⟩, -⟩;exact absurd hm h
   ·rintro ⟨-,h⟩;rw [e,A0Z,A0Z] at h;exact absurd hm (A9n.1 (A3X.1 h).1).2
  ·have hn':((pre++[d]).map Dc.name).Nodup:=by rw [A0Z];exact A9n.2 ⟨hn,hm⟩
   rw [B8s l (pre++[d]) hk' hn',e];constructor
   ·rintro ⟨⟨h1, -⟩,h2,h3⟩;exact ⟨fun x hx=>(A1D.1 hx).elim (fun h=>h▸h1) (h2 x),h3⟩
   ·rintro ⟨h1,h2⟩;exact ⟨⟨h1 d A0L,hm,by simp⟩,fun x hx=>h1 x (A0J _ hx),h2⟩
theorem B1l {D:List Dc} (hk:A8j D):∀ (M pre:List Md),(D.map Dc.name++pre.map Md.name).Nodup->(erP D pre M=none↔(∀ m∈M,¬ m.prio>99)/\(D.map Dc.name++(pre++M).map Md.name).Nodup)
 | [],pre,hn=>by rw [erP,A1M];exact ⟨fun _=>⟨fun d hd=>(by cases hd),hn⟩,fun _=>rfl⟩
 | m :: l,pre,hn=>by
  have hl:=C3n D pre m.name hk;rw [B9c,C6b] at hl;rw [erP,A3L,A3L,C3r,B8h,hl];have e:pre++m :: l=(pre++[m])++l:=by simp
  have e2:D.map Dc.name++(pre++[m]).map Md.name=(D.map Dc.name++pre.map Md.name)++[m.name]:=by simp
  by_cases hm:m.name∈D.map Dc.name++pre.map Md.name
  ·constructor
   ·rintro ⟨⟨-,h1,h2⟩, -⟩;exact absurd hm (by rw [A1A];exact fun h=>h.elim h1 h2)
   ·rintro ⟨-,h⟩;rw [e,A0Z, <- A0U,e2] at h;exact absurd hm (A9n.1 (A3X.1 h).1).2
  ·have hn':(D.map Dc.name++(pre++[m]).map Md.name).Nodup:=by rw [e2];exact A9n.2 ⟨hn,hm⟩
   rw [B1l hk l (pre++[m]) hn',e];rw [A1A,not_or] at hm;constructor
   ·rintro ⟨⟨h1, -⟩,h2,h3⟩;exact ⟨fun x hx=>(A1D.1 hx).elim (fun h=>h▸h1) (h2 x),h3⟩
   ·rintro ⟨h1,h2⟩;exact ⟨⟨h1 m A0L,hm⟩,fun x hx=>h1 x (A0J _ hx),h2⟩
def E1e (D:List Dc) (M:List Md):Prop:=(∀ d∈D,¬ d.value>D3y d.kind)/\(∀ m∈M,¬ m.prio>99)/\(D.map Dc.name++M.map Md.name).Nodup
theorem D0g {D:List Dc} {M:List Md} (hk:A8j D):D5e ⟨D,M⟩=none↔E1e D M:=by
 unfold D5e E1e;rw [A3L,B8s D [] hk List.nodup_nil];show (_/\(D.map Dc.name).Nodup)/\erP D [] M=none↔_;constructor
 ·rintro ⟨⟨h1,h2⟩,h3⟩;obtain ⟨h4,h5⟩:=(B1l hk M [] (by simpa using h2)).1 h3;exact ⟨h1,h4,h5⟩
 ·rintro ⟨h1,h4,h5⟩;have h2:(D.map Dc.name).Nodup:=(A3X.1 h5).1;exact ⟨⟨h1,h2⟩,(B1l hk M [] (by simpa using h2)).2 ⟨h4,h5⟩⟩
theorem B8e (n:List UInt8):∀ (D pre:List Dc),(lkD pre D n).map (·.1)=(D.find? fun d=>d.name == n).map Dc.kind
 | [],pre=>rfl
 | d :: l,pre=>by
  rw [lkD,List.find?_cons];by_cases h:d.name=n
  ·rw [if_pos h,h];simp
  ·have hb:(d.name == n)=false:=by simpa using h
   rw [if_neg h,B8e n l];simp only [hb]
theorem B8d (n:List UInt8):∀ (M:List Md) (i:Nat),(lkM i M n).map (·.1)=if M.any (fun m=>m.name == n)=true then some 9 else none
 | [],i=>rfl
 | m :: l,i=>by
  rw [lkM,List.any_cons];by_cases h:m.name=n
  ·rw [if_pos h,h];simp
  ·rw [if_neg h,B8d n l];simp [h]
theorem C9q (D:List Dc) (M:List Md) (n:List UInt8):(A6x ⟨D,M⟩ n).1=(((D.find? fun d=>d.name == n).map Dc.kind).or (if M.any (fun m=>m.name == n)=true then some 9 else none)).getD 0:=by
 rw [C9p, <- B8e n D [], <- B8d n M 0, <- Option.map_or];show (((lkD [] D n).or (lkM 0 M n)).getD (0,0)).1=_;cases (lkD [] D n).or (lkM 0 M n)<;>rfl
def SmK (r r':Ru):Prop:=∀ n,(A6x r n).1=(A6x r' n).1
section
variable {r r':Ru} (h:SmK r r')
include h
end
theorem B8r {r:Ru}:∀ {l:List Md},erM r l=none↔∀ m∈l,erH r [] m.hds=none
 | []=>by rw [erM];simp
 | x :: l=>by
  rw [erM,A3L,B8r];simp
section
variable {r r':Ru} (h:SmK r' r)
include h
end
end Go.Pb
namespace Go.Pb
variable [Go.Sym.Tab]
open Go.Sym
abbrev D3:=Nat × List UInt8 × Int
def st4 (d:Dc):Int × List UInt8 × Int:=(d.kind,d.name,d.value)
def B6d (d:D3):List T3:=if d.1<6 then (if d.2.2<0 then [(5,[45],0),(3,[], -d.2.2)] else [(3,[],d.2.2)]) else []
def dT (d:D3):List T3:=(2,C3.getD d.1 [],0) :: (1,d.2.1,0) :: (B6d d++[(5,[59],0)])
def dWf (d:D3):Prop:=d.1<8/\(d.1<5->0<=d.2.2)/\(6<=d.1->d.2.2=0)
section
variable {L:List Tok} {E:Int}
theorem E1v {d:D3} {rest:List T3} {s:Rd} (hw:dWf d) (h:At L s (dT d++rest)):∃ s1,Q7 L E (d.1:Int) s=(⟨1+(d.1:Int),d.2.1,d.2.2,(A4 L E s).pos⟩,s1)/\At L s1 rest:=by
 obtain ⟨k,n,v⟩:=d;obtain ⟨h1,h2,h3⟩:=hw;dsimp only at h1 h2 h3 ⊢;have h:At L s ((2,C3.getD k [],0) :: (1,n,0) :: (B6d (k,n,v)++(5,[59],0) :: rest)):=by simpa [dT] using h
 obtain ⟨t1,t2, -⟩:=h.nxt.take (E:=E);have g:=h.nxt.nxt;unfold Q7;dsimp only;rw [t1];dsimp only;rw [t2];by_cases h6:k<6
 ·rw [if_pos (by omega)];by_cases hv:v<0
  ·have g2:At L (A6 (A6 s)) ((5,[45],0) :: (3,[], -v) :: (5,[59],0) :: rest):=by
    have e:B6d (k,n,v)=[(5,[45],0),(3,[], -v)]:=by unfold B6d;rw [if_pos h6,if_pos hv]
    rw [e] at g;exact g
   have hk:k=5:=by
    by_cases h5:k<5
    ·have:=h2 h5;omega
    ·omega
   subst hk;have hm:(((5:Nat):Int)+1 == 6 && isR L E (A6 (A6 s)) [45])=true:=by rw [Y6 g2.tk g2.ok];rfl
   simp only [if_pos hm];obtain ⟨u1, -,u3⟩:=g2.nxt.take (E:=E);rw [u1];dsimp only;rw [u3,Int.neg_neg,g2.nxt.nxt.exp (.inl rfl)];exact ⟨_,rfl,g2.nxt.nxt.nxt⟩
  ·have g:At L (A6 (A6 s)) ((3,[],v) :: (5,[59],0) :: rest):=by
    have e:B6d (k,n,v)=[(3,[],v)]:=by unfold B6d;rw [if_pos h6,if_neg hv]
    rw [e] at g;exact g
   have hm:((k:Int)+1 == 6 && isR L E (A6 (A6 s)) [45])=false:=by rw [Y6 g.tk g.ok];simp
   have hm2:¬ ((k:Int)+1 == 6 && isR L E (A6 (A6 s)) [45])=true:=by rw [hm];decide
   simp only [if_neg hm2];obtain ⟨u1, -,u3⟩:=g.take (E:=E);rw [u1];dsimp only;rw [u3,g.nxt.exp (.inl rfl)];exact ⟨_,rfl,g.nxt.nxt⟩
 ·rw [if_neg (by omega)];have g:At L (A6 (A6 s)) ((5,[59],0) :: rest):=by
   have e:B6d (k,n,v)=[]:=by unfold B6d;rw [if_neg h6]
   rw [e] at g;exact g
  rw [g.exp (.inl rfl),h3 (by omega)];exact ⟨_,rfl,g.nxt⟩
theorem D5q {k:Nat} (h:k<8):Q2 (2,C3.getD k [],0) C3=k:=by
 have:∀ k,k<8->Q2 (2,C3.getD k [],0) C3=k:=by decide
 exact this k h
theorem C8e (rest:List T3) (hr:∀ t q,rest=t :: q->Q2 t C3 = -1):∀ (ds:List D3) (acc:List Dc) (s:Rd),acc.length+ds.length<=128->(∀ d∈ds,dWf d)->At L s ((ds.map dT).flatten++rest) ->
  ∃ l s1,Evt (fun f=>J9 L E f acc s) (acc++l,s1)/\At L s1 rest/\l.map st4=ds.map fun d=>(1+(d.1:Int),d.2.1,d.2.2)
 | [],acc,s,hl,hw,h=>by
  have h:At L s rest:=h;have ha:B6 L E s C3 = -1:=by
   cases rest with
   | nil=>exact C4e h.tk
   | cons t q=>rw [R0 h.tk h.ok];exact hr t q rfl
  refine ⟨[],s,Evt.one fun f=>?_,h,rfl⟩;rw [J9];dsimp only;rw [if_pos (by rw [ha];decide),A1M]
 | d :: ds,acc,s,hl,hw,h=>by
  have h:At L s (dT d++((ds.map dT).flatten++rest)):=by simpa using h
  have hd:=hw d A0L;have ha:B6 L E s C3=d.1:=by
   have h':At L s ((2,C3.getD d.1 [],0) :: (1,d.2.1,0) :: (B6d d++(5,[59],0) :: ((ds.map dT).flatten++rest))):=by simpa [dT] using h
   rw [R0 h'.tk h'.ok];exact D5q hd.1
  obtain ⟨s1,e1,h1⟩:=E1v (E:=E) hd h;obtain ⟨l,s2,g1,g2,g3⟩:=C8e rest hr ds (acc++[⟨1+(d.1:Int),d.2.1,d.2.2,(A4 L E s).pos⟩]) s1 (by simp only [A0B,A0C,A0F] at hl ⊢;omega) (fun x hx=>hw x (A0J _ hx)) h1;refine ⟨⟨1+(d.1:Int),d.2.1,d.2.2,(A4 L E s).pos⟩ :: l,s2,?_,g2,by rw [A0N,A0N,g3];rfl⟩;rw [show acc++⟨1+(d.1:Int),d.2.1,d.2.2,(A4 L E s).pos⟩ :: l=acc++[⟨1+(d.1:Int),d.2.1,d.2.2,(A4 L E s).pos⟩]++l by simp];refine g1.ext fun f hf=>?_;have hlm:B9 L E s ((acc.length:Int)+1) 128 9=s:=A5u (by simp only [A0B] at hl;omega);rw [J9];dsimp only;rw [ha,if_neg (by omega),hlm,if_pos h.ok,e1];exact hf
variable {Nm:Int->List UInt8->Prop}
abbrev H3:=Nat × List UInt8 × List T3
def hT (h:H3):List T3:=(2,[111,110],0) :: (2,C8.getD h.1 [],0) :: ((if 2<=h.1 then [(1,h.2.1,0)] else [])++h.2.2)
def hWf (L:List Tok) (E:Int) (Nm:Int->List UInt8->Prop) (h:H3):Prop:=h.1<6/\(h.1<2->h.2.1=[])/\D2b L E Nm 4 h.2.2
def st5 (h:Hd):Int × List UInt8:=(h.trig,h.name)
theorem C6r {k:Nat} (h:k<6):Q2 (2,C8.getD k [],0) C8=k:=by
 have:∀ k,k<6->Q2 (2,C8.getD k [],0) C8=k:=by decide
 exact this k h
theorem C9n (rest:List T3):∀ (hs:List H3) (acc:List Hd) (s:Rd),acc.length+hs.length<=32->(∀ h∈hs,hWf L E Nm h)->At L s ((hs.map hT).flatten++(5,[125],0) :: rest) ->
  ∃ l s1,Evt (fun f=>K5 L E f acc s) (acc++l,s1)/\At L s1 rest/\l.map st5=hs.map (fun h=>(1+(h.1:Int),h.2.1))/\∀ R,B1w Nm R->∀ h∈l,erB R h.body=none
 | [],acc,s,hl,hw,h=>by
  have h:At L s ((5,[125],0) :: rest):=h;have hi:isR L E s [125]=true:=by rw [Y6 h.tk h.ok];rfl
  refine ⟨[],A6 s,Evt.one fun f=>?_,h.nxt,rfl,fun R _ x hx=>by cases hx⟩;rw [K5,if_neg (by rw [hi];simp),h.exp (.inl rfl),A1M]
 | (k,n,b) :: hs,acc,s,hl,hw,h=>by
  obtain ⟨hk,hn,hb⟩:=hw _ A0L;dsimp only at hk hn hb;have h:At L s ((2,[111,110],0) :: (2,C8.getD k [],0) :: ((if 2<=k then [(1,n,0)] else [])++(b++((hs.map hT).flatten++(5,[125],0) :: rest)))):=by simpa [hT] using h
  have hi:isR L E s [125]=false:=by rw [Y6 h.tk h.ok];rfl
  have hon:isR L E s [111,110]=true:=by rw [Y6 h.tk h.ok];rfl
  have hlm:B9 L E s ((acc.length:Int)+1) 32 9=s:=A5u (by simp only [A0B] at hl;omega);have he:C5 L E s [111,110]=A6 s:=h.exp (.inr rfl);have ha:B6 L E (A6 s) C8=k:=by rw [R0 h.nxt.tk h.nxt.ok];exact C6r hk
  have g:=h.nxt.nxt;obtain ⟨s4,hs4,g4⟩:∃ s4,((if 2<=(k:Int) then (B1 L E (A6 (A6 s)) 1).1.text else [])=n/\(if 2<=(k:Int) then (B1 L E (A6 (A6 s)) 1).2 else A6 (A6 s))=s4)/\At L s4 (b++((hs.map hT).flatten++(5,[125],0) :: rest)):=by
   by_cases h2:2<=k
   ·rw [if_pos h2] at g;obtain ⟨t1,t2, -⟩:=g.take (E:=E);rw [if_pos (by omega),if_pos (by omega),t1];exact ⟨_,⟨t2,rfl⟩,g.nxt⟩
   ·rw [if_neg h2] at g;rw [if_neg (by omega),if_neg (by omega)];exact ⟨_,⟨(hn (by omega)).symm,rfl⟩,g⟩
  obtain ⟨x,s5,x1,x2,x3⟩:=hb 1 s4 _ (by decide) g4;obtain ⟨l,s6,y1,y2,y3,y4⟩:=C9n rest hs (acc++[⟨1+(k:Int),n,x,(A4 L E s).pos⟩]) s5 (by simp only [A0B,A0C,A0F] at hl ⊢;omega) (fun z hz=>hw z (A0J _ hz)) x2;refine ⟨⟨1+(k:Int),n,x,(A4 L E s).pos⟩ :: l,s6,?_,y2,by rw [A0N,A0N,y3];rfl,fun R hR z hz=>?_⟩
  ·rw [show acc++⟨1+(k:Int),n,x,(A4 L E s).pos⟩ :: l=acc++[⟨1+(k:Int),n,x,(A4 L E s).pos⟩]++l by simp];refine x1.ext2 y1 fun f hx hy=>?_;rw [K5,if_pos ⟨h.ok,hi⟩,if_neg (by rw [hon];decide),hlm];dsimp only;rw [he,ha,if_neg (by omega),hs4.1,hs4.2,hx];exact hy
  ·rcases A1D.1 hz with rfl|hz
   ·exact x3 R hR
   ·exact y4 R hR z hz
abbrev M3:=List UInt8 × Int × List H3
def mT (m:M3):List T3:=(2,[109,111,100,101],0) :: (1,m.1,0) :: (3,[],m.2.1) :: (5,[123],0) :: ((m.2.2.map hT).flatten++[(5,[125],0)])
def E6x (Nm:Int->List UInt8->Prop) (m:M3) (x:Md):Prop:=x.name=m.1/\x.prio=m.2.1/\x.hds.map st5=m.2.2.map (fun h=>(1+(h.1:Int),h.2.1))/\∀ R,B1w Nm R->∀ h∈x.hds,erB R h.body=none
inductive MsOk (Nm:Int->List UInt8->Prop):List M3->List Md->Prop where
 | nil:MsOk Nm [] []
 | cons {m:M3} {x:Md} {ms:List M3} {l:List Md}:E6x Nm m x->MsOk Nm ms l->MsOk Nm (m :: ms) (x :: l)
def mWf (L:List Tok) (E:Int) (Nm:Int->List UInt8->Prop) (m:M3):Prop:=m.2.2.length<=32/\∀ h∈m.2.2,hWf L E Nm h
theorem E0g {m:M3} {rest:List T3} {s:Rd} (hw:mWf L E Nm m) (h:At L s (mT m++rest)):∃ x s1,Evt (fun f=>A0l L E f s) (x,s1)/\At L s1 rest/\E6x Nm m x:=by
 obtain ⟨n,p,hs⟩:=m;have h:At L s ((2,[109,111,100,101],0) :: (1,n,0) :: (3,[],p) :: (5,[123],0) :: ((hs.map hT).flatten++(5,[125],0) :: rest)):=by simpa [mT] using h
 have e1:C5 L E s [109,111,100,101]=A6 s:=h.exp (.inr rfl);obtain ⟨t1,t2, -⟩:=h.nxt.take (E:=E);obtain ⟨u1, -,u3⟩:=h.nxt.nxt.take (E:=E);have e2:=h.nxt.nxt.nxt.exp (E:=E) (.inl rfl);obtain ⟨l,s1,x1,x2,x3,x4⟩:=C9n (E:=E) rest hs [] _ (by simpa using hw.1) hw.2 h.nxt.nxt.nxt.nxt;refine ⟨⟨n,p,l,(A4 L E s).pos⟩,s1,x1.map fun f hf=>?_,x2,rfl,rfl,x3,x4⟩;unfold A0l;dsimp only;rw [e1,t1];dsimp only;rw [u1,t2];dsimp only;rw [u3,e2,hf];rfl
theorem C8c:∀ (ms:List M3) (acc:List Md) (s:Rd),acc.length+ms.length<=16->(∀ m∈ms,mWf L E Nm m)->At L s (ms.map mT).flatten ->
  ∃ l s1,Evt (fun f=>I9 L E f acc s) (acc++l,s1)/\okR s1=true/\MsOk Nm ms l
 | [],acc,s,hl,hw,h=>by
  have hi:¬ s.i<L.length:=by
   have:=congrArg List.length h.tk;simp [Tk] at this;omega
  refine ⟨[],s,Evt.one fun f=>?_,h.ok,.nil⟩;rw [I9,if_neg (fun h=>hi h.2),A1M]
 | m :: ms,acc,s,hl,hw,h=>by
  have h:At L s (mT m++(ms.map mT).flatten):=by simpa using h
  obtain ⟨x,s1,x1,x2,x3⟩:=E0g (E:=E) (hw m A0L) h;obtain ⟨l,s2,y1,y2,y3⟩:=C8c ms (acc++[x]) s1 (by simp only [A0B,A0C,A0F] at hl ⊢;omega) (fun z hz=>hw z (A0J _ hz)) x2;refine ⟨x :: l,s2,?_,y2,.cons x3 y3⟩;have hlm:B9 L E s ((acc.length:Int)+1) 16 9=s:=A5u (by simp only [A0B] at hl;omega);have h0:At L s ((2,[109,111,100,101],0) :: (1,m.1,0) :: (3,[],m.2.1) :: (5,[123],0) :: ((m.2.2.map hT).flatten++(5,[125],0) :: (ms.map mT).flatten)):=by simpa [mT] using h
  have hmd:isR L E s [109,111,100,101]=true:=by rw [Y6 h0.tk h0.ok];rfl
  rw [show acc++x :: l=acc++[x]++l by simp];refine x1.ext2 y1 fun f hx hy=>?_;rw [I9,if_pos ⟨h.ok,(A2p (E:=E) h0.tk).2.2⟩,if_neg (by rw [hmd];decide)];dsimp only;rw [hlm,if_pos h.ok,hx];exact hy
theorem D8l {ds:List D3} {ms:List M3} (hd:ds.length<=128) (hm:ms.length<=16) (hdw:∀ d∈ds,dWf d) (hmw:∀ m∈ms,mWf L E Nm m) (h:L.map st3=(ds.map dT).flatten++(ms.map mT).flatten) :
  ∃ D M s1,A0y L E=(⟨D,M⟩,s1)/\okR s1=true/\D.map st4=(ds.map fun d=>(1+(d.1:Int),d.2.1,d.2.2))/\MsOk Nm ms M:=by
 have h0:At L rd0 ((ds.map dT).flatten++(ms.map mT).flatten):=⟨rfl,by unfold Tk;exact h⟩;obtain ⟨D,s1,x1,x2,x3⟩:=C8e (E:=E) (ms.map mT).flatten (fun t q e=>by
  cases ms with
  | nil=>cases e
  | cons m ms =>
   have e':mT m++(ms.map mT).flatten=t :: q:=by simpa using e
   unfold mT at e';injection e' with e1 e2
   subst e1;decide) ds [] rd0 (by simpa using hd) hdw h0
 obtain ⟨M,s2,y1,y2,y3⟩:=C8c (E:=E) ms [] s1 (by simpa using hm) hmw x2;refine ⟨D,M,s2,(A2s L E).uniq (x1.map2 y1 fun f hx hy=>?_),y2,x3,y3⟩;unfold Y8;rw [hx];dsimp only;rw [A1K,hy];rfl
end
end Go.Pb
namespace Go.Pb
variable [Go.Sym.Tab]
open Go.Sym
def A2y (v:Int):List D3:=[(0,[115,119,48],3),(0,[115,119,49],9),(0,[115,119,50],40),(0,[115,119,51],63),(1,[99,111,105,108,48],0),(1,[99,111,105,108,49],7),(1,[99,111,105,108,50],31),
 (2,[108,97,109,112,48],0),(2,[108,97,109,112,49],9),(2,[108,97,109,112,50],33),(2,[108,97,109,112,51],63),(3,[115,110,100,48],0),(3,[115,110,100,49],5),(4,[115,104,111,119,48],0),(4,[115,104,111,119,49],1),
 (5,[118,48],v),(5,[118,49],1),(5,[118,50],0),(6,[116,109,48],0),(6,[116,109,49],0),(7,[101,118,48],0),(7,[101,118,49],0)]
def A8s:List Int:=[0,5, -7,2147483647]
def A2x:List (List UInt8):=[[109,111,100,101,48],[109,111,100,101,49],[109,111,100,101,50]]
def A8t (v:Int):List (Int × List UInt8 × Int):=(A2y v).map fun d=>(1+(d.1:Int),d.2.1,d.2.2)
def NmM (k:Int) (n:List UInt8):Prop:=(k,n)∈((A8t 0).map fun q=>(q.1,q.2.1))++A2x.map fun n=>(9,n)
theorem D0p (D:List Dc) (n:List UInt8):(D.find? fun d=>d.name == n).map Dc.kind=((D.map st4).find? fun q=>q.2.1 == n).map (·.1):=by
 induction D with
 | nil=>rfl
 | cons d D ih =>
  rw [A0N,List.find?_cons,List.find?_cons];show Option.map Dc.kind (match d.name == n with|true=>some d|false=>D.find? fun d=>d.name == n)=Option.map (·.1) (match d.name == n with|true=>some (st4 d)|false=>(D.map st4).find? fun q=>q.2.1 == n);cases d.name == n
  ·exact ih
  ·rfl
theorem C7g {v:Int} {D:List Dc} {M:List Md} (hD:D.map st4=A8t v) (hM:M.map Md.name=A2x):B1w NmM ⟨D,M⟩:=by
 intro k n hn;rw [C9q,D0p,hD];have hM2:M.any (fun m=>m.name == n)=A2x.any fun x=>x == n:=by rw [<- hM,List.any_map];rfl
 rw [hM2];unfold NmM at hn;have key:∀ q∈((A8t 0).map fun q=>(q.1,q.2.1))++A2x.map (fun n=>((9:Int),n)),((((A8t v).find? fun x=>x.2.1 == q.2).map (·.1)).or (if (A2x.any fun x=>x == q.2)=true then some 9 else none)).getD 0=q.1:=by
  intro q hq;simp only [A8t,A2y,A2x,A0N,A1Z,A1N,A1K,A1D,A2I,or_false] at hq;rcases hq with rfl|rfl|rfl|rfl|rfl|rfl|rfl|rfl|rfl|rfl|rfl|rfl|rfl|rfl|rfl|rfl|rfl|rfl|rfl|rfl|rfl|rfl|rfl|rfl|rfl<;>rfl
 exact key (k,n) hn
theorem D5f {v:Int} (hv:v∈A8s) {D:List Dc} {M:List Md} (hD:D.map st4=A8t v) (hM:M.map Md.name=A2x) (hp:∀ m∈M,m.prio<=99):A8j D/\E1e D M:=by
 have h1:∀ v∈A8s, ∀ q∈A8t v,(1<=q.1/\q.1<=8)/\¬ q.2.2>D3y q.1:=by decide
 have h2:∀ v∈A8s,((A8t v).map (·.2.1)++A2x).Nodup:=by decide
 have hq:∀ d∈D,st4 d∈A8t v:=fun d hd=>by rw [<- hD];exact A4L hd
 have hn:D.map Dc.name=(A8t v).map (·.2.1):=by rw [<- hD,A3Q];rfl
 refine ⟨?_,fun d hd=>(h1 v hv _ (hq d hd)).2,fun m hm h=>by have:=hp m hm;omega,?_⟩
 ·intro d hd;exact (h1 v hv _ (hq d hd)).1
 ·rw [hn,hM];exact h2 v hv
theorem D0x {R:Ru}:∀ (l pre:List Hd),((pre++l).map st5).Nodup->(∀ h∈l,(kdH h.trig=0\/(A6x R h.name).1=kdH h.trig)/\erB R h.body=none)->erH R pre l=none
 | [],pre,_,_=>rfl
 | h :: l,pre,hn,hl=>by
  obtain ⟨h1,h2⟩:=hl h A0L;have hn2:((pre++[h]++l).map st5).Nodup:=by simpa using hn
  have ih:=D0x l (pre++[h]) hn2 fun x hx=>hl x (A0J _ hx);have hp:(pre.any fun x=>x.trig == h.trig && x.name == h.name)=false:=by
   rw [A3Z];intro ha;obtain ⟨x,hx,he⟩:=List.any_eq_true.1 ha;simp only [A0D,A1G] at he;rw [A0Z,A3X] at hn;refine hn.2.2 (st5 x) (A4L hx) (st5 h) (by simp) ?_;unfold st5;rw [he.1,he.2]
  rw [erH,A7g h1,h2,if_neg (by rw [hp];decide),ih];rfl
def D6d (hs:List H3):Prop:=(hs.map fun h=>(1+(h.1:Int),h.2.1)).Nodup/\∀ h∈hs,kdH (1+(h.1:Int))=0\/NmM (kdH (1+(h.1:Int))) h.2.1
theorem C3j:∀ {ms:List M3} {M:List Md},MsOk NmM ms M->M.map Md.name=ms.map (·.1)/\M.length=ms.length/\((∀ m∈ms,m.2.1<=99)->∀ x∈M,x.prio<=99)
 | _,_,.nil=>⟨rfl,rfl,fun _ x h=>by cases h⟩
 | m :: ms,x :: l,.cons h t=>by
  obtain ⟨h1,h2,h3⟩:=C3j t;refine ⟨by rw [A0N,A0N,h1,h.1],by rw [A0B,A0B,h2],fun hp y hy=>?_⟩;rcases A1D.1 hy with rfl|hy
  ·rw [h.2.1];exact hp m A0L
  ·exact h3 (fun z hz=>hp z (A0J _ hz)) y hy
theorem C9h {R:Ru} (hR:B1w NmM R):∀ {ms:List M3} {M:List Md},MsOk NmM ms M->(∀ m∈ms,D6d m.2.2)->∀ x∈M,erH R [] x.hds=none
 | _,_,.nil,_=>fun x h=>by cases h
 | m :: ms,x :: l,.cons h t,hh=>by
  intro y hy;rcases A1D.1 hy with rfl|hy
  ·obtain ⟨-, -,h3,h4⟩:=h;obtain ⟨g1,g2⟩:=hh m A0L;refine D0x y.hds [] (by rw [A1K,h3];exact g1) fun z hz=>⟨?_,h4 R hR z hz⟩;have hm:st5 z∈m.2.2.map (fun h=>(1+(h.1:Int),h.2.1)):=by rw [<- h3];exact A4L hz
   obtain ⟨q,hq,e⟩:=A1I.1 hm;have e1:z.trig=1+(q.1:Int):=(congrArg (·.1) e).symm;have e2:z.name=q.2.1:=(congrArg (·.2) e).symm;rw [e1,e2];exact (g2 q hq).imp id fun h=>hR _ _ h
  ·exact C9h hR t (fun z hz=>hh z (A0J _ hz)) y hy
theorem D4e:∀ v∈A8s, ∀ d∈A2y v,dWf d:=by
 intro v hv d hd;have:∀ v∈A8s, ∀ d∈A2y v,d.1<8/\(d.1<5->0<=d.2.2)/\(6<=d.1->d.2.2=0):=by decide
 exact this v hv d hd
theorem D4h {s:List UInt8} {v:Int} {ms:List M3} (hv:v∈A8s) (hm:ms.map (·.1)=A2x) (hp:∀ m∈ms,m.2.1<=99) (hh:∀ m∈ms,D6d m.2.2) (hmw:∀ L E, ∀ m∈ms,mWf L E NmM m)
  (h:(C0 s).2.2=0->(C0 s).1.map st3=((A2y v).map dT).flatten++(ms.map mT).flatten) :
  E9n (P0 s).1=none/\((C0 s).2.2=0->(P0 s).2.2=0/\(P0 s).1.decls.map st4=A8t v/\(P0 s).1.modes.map Md.name=A2x):=by
 unfold P0;dsimp only;by_cases h0:(C0 s).2.2=0
 ·rw [if_neg (by simpa using h0)];have hl3:ms.length=3:=by have:=congrArg List.length hm;simpa [A2x] using this
  obtain ⟨D,M,s1,h1,h2,h3,h4⟩:=D8l (E:=s.length) (Nm:=NmM) (ds:=A2y v) (ms:=ms) (by show (22:Nat)<=128;decide) (by omega) (D4e v hv) (fun m hm=>hmw _ _ m hm) (h h0);obtain ⟨g1,g2,g3⟩:=C3j h4;rw [hm] at g1;have hs:=C7g (v:=v) (D:=D) (M:=M) h3 g1;obtain ⟨k1,k2⟩:=D5f hv (D:=D) (M:=M) h3 g1 (g3 hp);rw [h1];dsimp only;rw [if_neg (by rw [h2];decide)];refine ⟨?_,fun _=>⟨rfl,h3,g1⟩⟩;show (D5e ⟨D,M⟩).or (erM ⟨D,M⟩ M)=none;rw [(D0g k1).2 k2,B8r.2 (C9h hs h4 hh)];rfl
 ·rw [if_pos (by simpa using h0)];exact ⟨rfl,fun h=>absurd h h0⟩
end Go.Pb
namespace Go.Pb
variable [Go.Sym.Tab]
open Go.Sym
theorem Pc.up {p:List UInt8} {t:List T3} (h:Pc false p t) (b:Bool):Pc b p t:=fun r tr _ hr=>h r tr (fun e=>by cases e) hr
def dcS:Nat->List UInt8
 | 10=>[49,48]
 | 11=>[49,49]
 | n=>[W0 n]
theorem C4b {n:Nat} (h:n<12):G8 (n:Int)=dcS n:=by
 by_cases h10:n<10
 ·rw [A9u (by omega) (by omega)];have e:V2 (n:Int)=n:=by unfold V2;omega
  rw [e];unfold dcS;split<;>first|omega|rfl
 ·have:n=10\/n=11:=by omega
  rw [C4a (by omega),A9u (by unfold Z4;omega) (by unfold Z4;omega)];rcases this with rfl|rfl<;>rfl
def nmB (k:Int) (n:List UInt8):Bool:=(((A8t 0).map fun q=>(q.1,q.2.1))++A2x.map fun n=>((9:Int),n)).any fun (q:Int × List UInt8)=>q.1 == k && q.2 == n
theorem C9e {k:Int} {n:List UInt8} (h:nmB k n=true):NmM k n:=by
 obtain ⟨q,h1,h2⟩:=List.any_eq_true.1 h;simp only [A0D,A1G] at h2;unfold NmM;rw [<- h2.1, <- h2.2];exact h1
def B0w (b:Bool) (s:List UInt8) (ts:List T3):Bool:=A2z b 100 s == some ts
theorem B5r {b:Bool} {s:List UInt8} {ts:List T3} (h:B0w b s ts=true):A2z b 100 s=some ts:=by simpa [B0w] using h
theorem A6t {p:List UInt8} {n:Nat} {k:Int} (hn:n<=10) (h:∀ j,j<n->B0w true (p++dcS j) [(1,p++dcS j,0)]=true/\nmB k (p++dcS j)=true) (L:List UInt8) (i:Nat) (hn0:0<n) :
  Pc true (nmK L 0 p n i).1 [(1,(nmK L 0 p n i).1,0)]/\NmM k (nmK L 0 p n i).1:=by
 have e:(nmK L 0 p n i).1=p++dcS (nxK L n i).1:=by
  unfold nmK;dsimp only;rw [if_neg (by rintro ⟨h, -⟩;omega),if_neg (by omega)];have:=M8 L i hn0;rw [C4b (by omega)]
 obtain ⟨h1,h2⟩:=h _ (M8 L i hn0);rw [e];exact ⟨Y2 _ _ _ (B5r h1),C9e h2⟩
theorem E3x (L:List UInt8) (i:Nat):Pc true (nmK L 0 [118] 3 i).1 [(1,(nmK L 0 [118] 3 i).1,0)]/\NmM 6 (nmK L 0 [118] 3 i).1:=A6t (by decide) (by decide) L i (by decide)
theorem C9d (L:List UInt8) (i:Nat):Pc true (nmK L 0 [116,109] 2 i).1 [(1,(nmK L 0 [116,109] 2 i).1,0)]/\NmM 7 (nmK L 0 [116,109] 2 i).1:=A6t (by decide) (by decide) L i (by decide)
theorem B5k (L:List UInt8) (i:Nat):Pc true (nmK L 0 [109,111,100,101] 3 i).1 [(1,(nmK L 0 [109,111,100,101] 3 i).1,0)]/\NmM 9 (nmK L 0 [109,111,100,101] 3 i).1:=A6t (by decide) (by decide) L i (by decide)
theorem E3y (L:List UInt8) (i:Nat):Pc true (nmK L 0 [115,119] 4 i).1 [(1,(nmK L 0 [115,119] 4 i).1,0)]/\NmM 1 (nmK L 0 [115,119] 4 i).1:=A6t (by decide) (by decide) L i (by decide)
theorem D3s (L:List UInt8) (i:Nat):Pc true (nmK L 0 [99,111,105,108] 3 i).1 [(1,(nmK L 0 [99,111,105,108] 3 i).1,0)]/\NmM 2 (nmK L 0 [99,111,105,108] 3 i).1:=A6t (by decide) (by decide) L i (by decide)
theorem C3f (L:List UInt8) (i:Nat):Pc true (nmK L 0 [108,97,109,112] 4 i).1 [(1,(nmK L 0 [108,97,109,112] 4 i).1,0)]/\NmM 3 (nmK L 0 [108,97,109,112] 4 i).1:=A6t (by decide) (by decide) L i (by decide)
theorem E3z (L:List UInt8) (i:Nat):Pc true (nmK L 0 [101,118] 2 i).1 [(1,(nmK L 0 [101,118] 2 i).1,0)]/\NmM 8 (nmK L 0 [101,118] 2 i).1:=A6t (by decide) (by decide) L i (by decide)
theorem D9y (L:List UInt8) (i:Nat):Pc true (nmK L 0 [115,110,100] 2 i).1 [(1,(nmK L 0 [115,110,100] 2 i).1,0)]/\NmM 4 (nmK L 0 [115,110,100] 2 i).1:=A6t (by decide) (by decide) L i (by decide)
theorem D3r (L:List UInt8) (i:Nat):Pc true (nmK L 0 [115,104,111,119] 2 i).1 [(1,(nmK L 0 [115,104,111,119] 2 i).1,0)]/\NmM 5 (nmK L 0 [115,104,111,119] 2 i).1:=A6t (by decide) (by decide) L i (by decide)
def XT (m:Int) (ty:Bool) (d c:Nat) (s:List UInt8):Prop:=∃ ts m' d' c',m<=m'/\d'<=d/\c'<=c/\GX NmM m' ty d' c' ts/\Pc true s ts/\∃ x q,s=x :: q/\x.toNat≠61
theorem XT.mono {m m2:Int} {ty:Bool} {d d2 c c2:Nat} {s:List UInt8} (h:XT m ty d c s) (hm:m2<=m) (hd:d<=d2) (hc:c<=c2):XT m2 ty d2 c2 s:=by
 obtain ⟨ts,m',d',c',h1,h2,h3,h4,h5,h6⟩:=h;exact ⟨ts,m',d',c',by omega,by omega,by omega,h4,h5,h6⟩
theorem XT.six {ty:Bool} {d c:Nat} {s:List UInt8} (h:XT 6 ty d c s):∃ ts d' c',d'<=d/\c'<=c/\GX NmM 6 ty d' c' ts/\Pc true s ts/\∃ x q,s=x :: q/\x.toNat≠61:=by
 obtain ⟨ts,m',d',c',h1,h2,h3,h4,h5,h6⟩:=h;obtain ⟨-,h7, -, -⟩:=D0h (L:=[]) (E:=0) h4;obtain rfl:m'=6:=by omega
 exact ⟨ts,d',c',h2,h3,h4,h5,h6⟩
theorem B4e {w n:List UInt8} {k:Nat} {nk:Int} {ty:Bool} (hk:(k,ty,nk)∈[(4,false,(1:Int)),(5,false,9),(6,true,7)]) (hw:A2z false 100 w=some [(2,C9.getD k [],0)]) (hh:∃ x q,w=x :: q/\x.toNat≠61)
  (hn:Pc true n [(1,n,0)]/\NmM nk n):XT 6 ty 0 1 (w++n):=by
 obtain ⟨x,q,rfl,hx⟩:=hh;exact ⟨_,6,0,1,by omega,by omega,by omega,.word1 hk hn.2,(Y2 _ _ _ hw).pre hn.1,x,_,rfl,hx⟩
theorem B4f {w:List UInt8} {k:Nat} {ty:Bool} (hk:(k,ty)∈[(0,false),(1,false),(2,true),(3,true)]) (hw:A2z true 100 w=some [(2,C9.getD k [],0)]) (hh:∃ x q,w=x :: q/\x.toNat≠61):XT 6 ty 0 1 w :=
 ⟨_,6,0,1,by omega,by omega,by omega,.word0 hk,Y2 _ _ _ hw,hh⟩
theorem D1u (L:List UInt8) (i:Nat):XT 6 false 0 1 (bl0 L 0 i).1:=by
 unfold bl0;dsimp only;split
 ·try dsimp only
  exact B4f (k:=0) (by decide) (by decide) ⟨_,_,rfl,by decide⟩
 ·split
  ·try dsimp only
   exact B4f (k:=1) (by decide) (by decide) ⟨_,_,rfl,by decide⟩
  ·split
   ·try dsimp only
    exact B4e (k:=5) (nk:=9) (by decide) (by decide) ⟨_,_,rfl,by decide⟩ (B5k L _)
   ·try dsimp only
    exact B4e (k:=4) (nk:=1) (by decide) (by decide) ⟨_,_,rfl,by decide⟩ (E3y L _)
theorem A9v {w:List UInt8} {v:Int} (hw:A2z true 100 w=some [(3,[],v)]) (hh:∃ x q,w=x :: q/\x.toNat≠61):XT 6 true 0 1 w :=
 ⟨_,6,0,1,by omega,by omega,by omega,.num,Y2 _ _ _ hw,hh⟩
theorem E0z (L:List UInt8) (i:Nat):XT 6 true 0 1 (in1 L 0 i).1:=by
 unfold in1;dsimp only;split
 ·obtain ⟨h1,h2⟩:=E3x L (nxK L 7 i).2;refine ⟨_,6,0,1,by omega,by omega,by omega,.var h2,h1,?_⟩;unfold nmK;dsimp only;rw [if_neg (by rintro ⟨h, -⟩;omega)];exact ⟨_,_,rfl,by decide⟩
 ·split
  ·try dsimp only
   exact B4f (k:=2) (by decide) (by decide) ⟨_,_,rfl,by decide⟩
  ·split
   ·try dsimp only
    exact B4f (k:=3) (by decide) (by decide) ⟨_,_,rfl,by decide⟩
   ·split
    ·try dsimp only
     exact B4e (k:=6) (nk:=7) (by decide) (by decide) ⟨_,_,rfl,by decide⟩ (C9d L _)
    ·split
     ·have hlt:=M8 L (n:=4) (nxK L 7 i).2 (by decide);generalize (nxK L 4 (nxK L 7 i).2).1=j at hlt;have:j=0\/j=1\/j=2\/j=3:=by omega
      rcases this with rfl|rfl|rfl|rfl
      ·try dsimp only
       exact A9v (v:=2147483647) (by decide) ⟨_,_,rfl,by decide⟩
      ·try dsimp only
       exact A9v (v:=1000000) (by decide) ⟨_,_,rfl,by decide⟩
      ·try dsimp only
       exact A9v (v:=65536) (by decide) ⟨_,_,rfl,by decide⟩
      ·try dsimp only
       exact A9v (v:=100000) (by decide) ⟨_,_,rfl,by decide⟩
     ·have hlt:=M8 L (n:=12) (nxK L 7 i).2 (by decide);generalize (nxK L 12 (nxK L 7 i).2).1=j at hlt;rw [C4b hlt];have h1:∀ j,j<12->B0w true (dcS j) [(3,[],(j:Int))]=true/\(match dcS j with | []=>false|x :: _=>decide (x.toNat≠61))=true:=by decide
      obtain ⟨a,c⟩:=h1 j hlt;refine A9v (B5r a) ?_;cases hd:dcS j with
      | nil=>rw [hd] at c;cases c
      | cons x q=>rw [hd] at c;exact ⟨x,q,rfl,by simpa using c⟩
theorem E2l (L:List UInt8) (f g:Nat->Mk) (i:Nat):wlK L 0 f g i=g i:=by
 unfold wlK;dsimp only;rw [if_neg (by rintro ⟨h, -⟩;omega),if_neg (by omega)]
theorem C1h (L:List UInt8) (i:Nat):XT 6 true 0 1 (in0 L 0 i).1:=by unfold in0;rw [E2l];exact E0z L i
theorem D9r {a:List UInt8} {ts:List T3} (h:Pc true a ts):Pc false ([40]++a++[41]) ((5,[40],0) :: (ts++[(5,[41],0)])):=by
 have h1:Pc false [40] [(5,[40],0)]:=A5t (by decide) (by decide) (by decide);have h2:Pc false [41] [(5,[41],0)]:=A5t (by decide) (by decide) (by decide);have:=h1.pre (h.lit (c:=41) (q:=[]) h2 (by decide));simpa using this
theorem B9g {k:Nat} {ta ty:Bool} {d c:Nat} {a b o:List UInt8} (hk:k<13) (hta:ta=decide (k<11)) (hty:ty=decide (k<5)) (ha:XT (B4 (12+(k:Int))+1) ta d c a) (hb:XT (B4 (12+(k:Int))+1) ta d c b)
  (ho:A2z false 100 (32 :: o)=some [(5,B7.getD k [],0)]):XT (B4 (12+(k:Int))) ty d (2 * c) (a++(32 :: o)++b):=by
 obtain ⟨ts,m1,d1,c1,h1,h2,h3,h4,h5,x,q,rfl,hx⟩:=ha;obtain ⟨ts2,m2,d2,c2,g1,g2,g3,g4,g5, -⟩:=hb;refine ⟨_,_,_,_,A3G _,?_,?_,.bin hk hta hty (by omega) (by omega) h4 g4,?_,x,_,rfl,hx⟩
 ·omega
 ·omega
 ·have:=(h5.lit (Y2 _ _ _ ho) (by decide)).pre g5;simpa using this
theorem C6e {m:Int} {ty:Bool} {d c:Nat} {a:List UInt8} (h:XT m ty d c a):XT 6 ty (d+1) c ([40]++a++[41]):=by
 obtain ⟨ts,m1,d1,c1,h1,h2,h3,h4,h5, -⟩:=h;exact ⟨_,6,d1+1,c1,by omega,by omega,by omega,.par h4,(D9r h5).up true,40,_,rfl,by decide⟩
theorem C1j (L:List UInt8):∀ d,(∀ i,XT 6 true (d+1) (2 ^ d) (inK L 0 d i).1)/\(∀ i,XT 3 false (d+1) (2 ^ d) (blK L 0 d i).1)
 | 0=>⟨fun i=>by rw [inK];exact (C1h L i).mono (by omega) (by omega) (by omega),fun i=>by rw [blK];exact (D1u L i).mono (by omega) (by omega) (by omega)⟩
 | d+1=>by
  obtain ⟨h1,h2⟩:=C1j L d;have hp:1<=2 ^ d:=Nat.one_le_two_pow;have hp2:2 ^ (d+1)=2 * 2 ^ d:=by rw [Nat.pow_succ,Nat.mul_comm]
  refine ⟨fun i=>?_,fun i=>?_⟩
  ·rw [inK,E2l];dsimp only;split
   ·exact (C1h L _).mono (by omega) (by omega) (by omega)
   ·split
    ·obtain ⟨ts,d',c',g1,g2,g3,g4, -⟩:=(C1h L (nxK L 5 i).2).six;refine ⟨_,6,d'+1,c',by omega,by omega,by omega,.neg g3,?_,45,_,rfl,by decide⟩;have h3:Pc false [45] [(5,[45],0)]:=A5t (by decide) (by decide) (by decide);exact h3.pre g4
    ·have ha:=h1 (nxK L 5 i).2;have hb:=h1 (inK L 0 d (nxK L 5 i).2).2;have hlt:=M8 L (n:=5) (inK L 0 d (inK L 0 d (nxK L 5 i).2).2).2 (by decide);generalize (nxK L 5 (inK L 0 d (inK L 0 d (nxK L 5 i).2).2).2).1=o at hlt;have key:∀ k:Nat, ∀ op:List UInt8,k<5->A2z false 100 (32 :: (op++[32]))=some [(5,B7.getD k [],0)]->XT 6 true (d+1+1) (2 ^ (d+1)) (((((([40]++(inK L 0 d (nxK L 5 i).2).1)++[32])++op)++[32])++(inK L 0 d (inK L 0 d (nxK L 5 i).2).2).1)++[41]):=by
      intro k op hk ho;have hl:=C9b (k:=k) (by omega);have:=C6e (B9g (k:=k) (ta:=true) (ty:=true) (by omega) (by simp;omega) (by simp;omega) (ha.mono (by omega) (A0H _) (A0H _)) (hb.mono (by omega) (A0H _) (A0H _)) ho);rw [hp2];simpa using this
     have:o=0\/o=1\/o=2\/o=3\/o=4:=by omega
     rcases this with rfl|rfl|rfl|rfl|rfl
     ·exact key 3 [43] (by decide) (by decide)
     ·exact key 4 [45] (by decide) (by decide)
     ·exact key 0 [42] (by decide) (by decide)
     ·exact key 1 [47] (by decide) (by decide)
     ·exact key 2 [37] (by decide) (by decide)
  ·rw [blK];dsimp only;have key:∀ (k:Nat) (a b o:List UInt8),(k=11\/k=12)->XT 3 false (d+1) (2 ^ d) a->XT 3 false (d+1) (2 ^ d) b->A2z false 100 (32 :: o)=some [(5,B7.getD k [],0)]->XT 3 false (d+1+1) (2 ^ (d+1)) (((([40]++a)++(32 :: o))++b)++[41]):=by
    intro k a b o hk ha hb ho;have hl:B4 (12+(k:Int))<=2:=by rcases hk with rfl|rfl<;>decide
    have:=C6e (B9g (k:=k) (ta:=false) (ty:=false) (by omega) (by rcases hk with rfl|rfl<;>rfl) (by rcases hk with rfl|rfl<;>rfl) (ha.mono (by omega) (A0H _) (A0H _)) (hb.mono (by omega) (A0H _) (A0H _)) ho);rw [hp2];refine XT.mono ?_ (show (3:Int)<=6 by omega) (A0H _) (A0H _);simpa using this
   split
   ·obtain ⟨ts,d',c',g1,g2,g3,g4,x,q,e,hx⟩:=(D1u L (nxK L 6 i).2).six;refine ⟨_,6,d'+1,c',by omega,by omega,by omega,.not g3,?_,33,_,rfl,by decide⟩;rw [e] at g4 ⊢;exact D9s g4 hx
   ·split
    ·exact key 11 _ _ _ (.inl rfl) (h2 _) (h2 _) (by decide)
    ·split
     ·exact key 12 _ _ _ (.inr rfl) (h2 _) (h2 _) (by decide)
     ·have ha:=h1 (nxK L 6 i).2;have hlt:=M8 L (n:=6) (inK L 0 d (nxK L 6 i).2).2 (by decide);have hb:=h1 (nxK L 6 (inK L 0 d (nxK L 6 i).2).2).2;generalize (nxK L 6 (inK L 0 d (nxK L 6 i).2).2).2=j at hb ⊢;generalize (nxK L 6 (inK L 0 d (nxK L 6 i).2).2).1=o at hlt ⊢;have kc:∀ k:Nat, ∀ op:List UInt8,5<=k->k<11->B4 (12+(k:Int))=3->A2z false 100 (32 :: (op++[32]))=some [(5,B7.getD k [],0)]->XT 3 false (d+1+1) (2 ^ (d+1)) (((((inK L 0 d (nxK L 6 i).2).1++[32])++op)++[32])++(inK L 0 d j).1):=by
       intro k op hk hk2 hl ho;have:=B9g (k:=k) (ta:=true) (ty:=false) (by omega) (by simp;omega) (by simp;omega) (ha.mono (by omega) (A0H _) (A0H _)) (hb.mono (by omega) (A0H _) (A0H _)) ho;rw [hl] at this;rw [hp2];refine XT.mono ?_ (A3G 3) (show d+1<=d+1+1 by omega) (A0H _);simpa using this
      have:o=0\/o=1\/o=2\/o=3\/o=4\/o=5:=by omega
      rcases this with rfl|rfl|rfl|rfl|rfl|rfl
      ·exact kc 5 [60] (by decide) (by decide) (by decide) (by decide)
      ·exact kc 6 [60,61] (by decide) (by decide) (by decide) (by decide)
      ·exact kc 7 [62] (by decide) (by decide) (by decide) (by decide)
      ·exact kc 8 [62,61] (by decide) (by decide) (by decide) (by decide)
      ·exact kc 9 [61,61] (by decide) (by decide) (by decide) (by decide)
      ·exact kc 10 [33,61] (by decide) (by decide) (by decide) (by decide)
theorem XT.sx {m:Int} {ty:Bool} {d c:Nat} {s:List UInt8} (h:XT m ty d c s) (hd:d<=16) (hc:c<=32):∃ ts,SX NmM ty ts/\Pc true s ts:=by
 obtain ⟨ts,m1,d1,c1,h1,h2,h3,h4,h5, -⟩:=h;exact ⟨ts,⟨m1,d1,c1,by omega,by omega,h4⟩,h5⟩
end Go.Pb
namespace Go.Proofs.YthlpinppaclofaaGreatDoor
open Go.Eng (IC IOper DReg IFn J0)
open Go.Sym Go.Pb
theorem J6 {b:Bool} {w:List UInt8} {ts:List T3} (h:B0w b w ts=true):Pc b w ts:=Y2 _ _ _ (B5r h)
theorem A1r {b:Bool} {c:UInt8} {p:List UInt8} {t:List T3} (hc:T9 c=true) (h:Pc b p t):Pc b (c :: p) t:=fun r tr hb hr=>C2c hc (h r tr hb hr)
theorem B2c:Pc false [59] [(5,[59],0)]:=A5t (by decide) (by decide) (by decide)
theorem D6o:Pc false [123] [(5,[123],0)]:=A5t (by decide) (by decide) (by decide)
theorem D6n:Pc false [125] [(5,[125],0)]:=A5t (by decide) (by decide) (by decide)
theorem A3t {L:List UInt8} {d:Nat} {s:List UInt8} (hd:d<=3) (h:InS L 0 d s):∃ ts,SX NmM true ts/\Pc true s ts:=by
 obtain ⟨i, -,rfl⟩:=h;have hp:∀ d,d<=3->2 ^ d<=32:=by decide
 exact ((C1j L d).1 i).sx (by omega) (hp d hd)
theorem B6e {L:List UInt8} {d:Nat} {s:List UInt8} (hd:d<=3) (h:BlS L 0 d s):∃ ts,SX NmM false ts/\Pc true s ts:=by
 obtain ⟨i, -,rfl⟩:=h;have hp:∀ d,d<=3->2 ^ d<=32:=by decide
 exact ((C1j L d).2 i).sx (by omega) (hp d hd)
theorem C7e {L:List UInt8} {K:List UInt8->Prop} {B:List T3->Prop} (hK:∀ x,K x->∃ ts,B ts/\Pc false x ts) {s:List UInt8} (h:StG L 0 K s):∃ ts,GS NmM B ts/\Pc false s ts:=by
 cases h with
 | @ifA b x hb hx =>
  obtain ⟨tb,b1,b2⟩:=B6e (by decide) hb;obtain ⟨tx,x1,x2⟩:=hK x hx;have l1:Pc false [105,102,32] [wdT 0]:=J6 (by decide);have:=l1.pre (b2.lit (c:=32) (q:=x) (A1r (by decide) x2) (by decide));exact ⟨_,.ifs b1 x1,by simpa using this⟩
 | @ifB b x y hb hx hy =>
  obtain ⟨tb,b1,b2⟩:=B6e (by decide) hb;obtain ⟨tx,x1,x2⟩:=hK x hx;obtain ⟨ty,y1,y2⟩:=hK y hy;have l1:Pc false [105,102,32] [wdT 0]:=J6 (by decide);have l2:Pc false [32,101,108,115,101,32] [(2,[101,108,115,101],0)]:=J6 (by decide);have:=l1.pre (b2.lit (c:=32) (A1r (by decide) (x2.pre (l2.pre y2))) (by decide));exact ⟨_,.ife b1 x1 y1,by simpa using this⟩
 | @ifC b x c y hb hx hc hy =>
  obtain ⟨tb,b1,b2⟩:=B6e (by decide) hb;obtain ⟨tx,x1,x2⟩:=hK x hx;obtain ⟨tc,c1,c2⟩:=B6e (by decide) hc;obtain ⟨ty,y1,y2⟩:=hK y hy;have l1:Pc false [105,102,32] [wdT 0]:=J6 (by decide);have l2:Pc false [32,101,108,115,101,32,105,102,32] [(2,[101,108,115,101],0),wdT 0]:=J6 (by decide);have:=l1.pre (b2.lit (c:=32) (A1r (by decide) (x2.pre (l2.pre (c2.lit (c:=32) (q:=y) (A1r (by decide) y2) (by decide))))) (by decide));exact ⟨_,.ifi b1 x1 c1 y1,by simpa using this⟩
 | @rep e x he hx =>
  obtain ⟨te,e1,e2⟩:=A3t (by decide) he;obtain ⟨tx,x1,x2⟩:=hK x hx;have l1:Pc false [114,101,112,101,97,116,32] [wdT 1]:=J6 (by decide);have:=l1.pre (e2.lit (c:=32) (q:=x) (A1r (by decide) x2) (by decide));exact ⟨_,.rep e1 x1,by simpa using this⟩
 | @sco e he =>
  obtain ⟨te,e1,e2⟩:=A3t (by decide) he;have l1:Pc false [115,99,111,114,101,32] [wdT 2]:=J6 (by decide);have:=l1.pre (e2.lit (q:=[]) B2c (by decide));exact ⟨_,.score e1,by simpa using this⟩
 | @fir k n hk hn =>
  obtain ⟨i, -,rfl⟩:=hn;obtain ⟨n1,n2⟩:=D3s L i;have hl:∀ k,k<3->B0w false (D0o.getD k []) [wdT (3+k)]=true/\(3+k,(2:Int))∈B3f:=by decide
  obtain ⟨h1,h2⟩:=hl k hk;have:=(J6 h1).pre (n1.lit (q:=[]) B2c (by decide));exact ⟨_,.name h2 n2,by simpa using this⟩
 | @lig n e hn he =>
  obtain ⟨i, -,rfl⟩:=hn;obtain ⟨n1,n2⟩:=C3f L i;obtain ⟨te,e1,e2⟩:=A3t (by decide) he;have l1:Pc false [108,105,103,104,116,32] [wdT 6]:=J6 (by decide);have:=l1.pre (n1.lit (c:=32) (A1r (by decide) (e2.lit (q:=[]) B2c (by decide))) (by decide));exact ⟨_,.arg (j:=6) (k:=3) (by decide) n2 e1,by simpa using this⟩
 | @bli n e f hn he hf =>
  obtain ⟨i, -,rfl⟩:=hn;obtain ⟨n1,n2⟩:=C3f L i;obtain ⟨te,e1,e2⟩:=A3t (by decide) he;obtain ⟨tf,f1,f2⟩:=A3t (by decide) hf;have l1:Pc false [98,108,105,110,107,32] [wdT 7]:=J6 (by decide);have l2:Pc false [44,32] [(5,[44],0)]:=J6 (by decide);have:=l1.pre (n1.lit (c:=32) (A1r (by decide) (e2.lit (c:=44) (q:=32 :: (f++[59])) (l2.pre (f2.lit (q:=[]) B2c (by decide))) (by decide))) (by decide));exact ⟨_,.blink n2 e1 f1,by simpa using this⟩
 | @sta n e hn he =>
  obtain ⟨i, -,rfl⟩:=hn;obtain ⟨n1,n2⟩:=C9d L i;obtain ⟨te,e1,e2⟩:=A3t (by decide) he;have l1:Pc false [115,116,97,114,116,32] [wdT 8]:=J6 (by decide);have:=l1.pre (n1.lit (c:=32) (A1r (by decide) (e2.lit (q:=[]) B2c (by decide))) (by decide));exact ⟨_,.arg (j:=8) (k:=7) (by decide) n2 e1,by simpa using this⟩
 | @one q n hq hn =>
  obtain ⟨i, -,rfl⟩:=hn;have key:∀ (j:Nat) (k:Int),B0w false q.1 [wdT j]=true->(j,k)∈B3f->(Pc true (nmK L 0 q.2.1 q.2.2 i).1 [(1,(nmK L 0 q.2.1 q.2.2 i).1,0)]/\NmM k (nmK L 0 q.2.1 q.2.2 i).1)->∃ ts,GS NmM B ts/\Pc false ((q.1++(nmK L 0 q.2.1 q.2.2 i).1)++[59]) ts:=by
   rintro j k h1 h2 ⟨n1,n2⟩;have:=(J6 h1).pre (n1.lit (q:=[]) B2c (by decide));exact ⟨_,.name h2 n2,by simpa using this⟩
  simp only [C0r,A1D,A2I,or_false] at hq;rcases hq with rfl|rfl|rfl|rfl|rfl
  ·exact key 9 7 (by decide) (by decide) (C9d L i)
  ·exact key 10 9 (by decide) (by decide) (B5k L i)
  ·exact key 11 9 (by decide) (by decide) (B5k L i)
  ·exact key 12 8 (by decide) (by decide) (E3z L i)
  ·exact key 13 4 (by decide) (by decide) (D9y L i)
 | @run k n hk hn =>
  obtain ⟨i, -,rfl⟩:=hn;obtain ⟨n1,n2⟩:=D3r L i;have hl:∀ k,k<2->B0w false (C7w.getD k []) [wdT (14+k)]=true/\(14+k,(5:Int))∈B3f:=by decide
  obtain ⟨h1,h2⟩:=hl k hk;have:=(J6 h1).pre (n1.lit (q:=[]) B2c (by decide));exact ⟨_,.name h2 n2,by simpa using this⟩
 | @txt k e hk he =>
  obtain ⟨te,e1,e2⟩:=A3t (by decide) he;have hl:∀ k,k<4->B0w false (([116,101,120,116,32,34]++C6p.getD k [])++[34,44,32]) [wdT 16,(4,([[103,111],[106,97,99,107,112,111,116],[97,34,98],[]]:List (List UInt8)).getD k [],0),sgT [44]]=true:=by decide
  have:=(J6 (hl k hk)).pre (e2.lit (q:=[]) B2c (by decide));exact ⟨_,.text e1,by simpa using this⟩
 | con=>exact ⟨_,.consume,Pc.lit (p:=[99,111,110,115,117,109,101]) (q:=[]) (t:=[wdT 17]) (J6 (b:=true) (by decide)) B2c (by decide)⟩
 | @asg n e hn he =>
  obtain ⟨i, -,rfl⟩:=hn;obtain ⟨n1,n2⟩:=E3x L i;obtain ⟨te,e1,e2⟩:=A3t (by decide) he;have l1:Pc false [32,61,32] [sgT [61]]:=J6 (by decide);have:=n1.lit (c:=32) (q:=61 :: 32 :: (e++[59])) (l1.pre (e2.lit (q:=[]) B2c (by decide))) (by decide);exact ⟨_,.set n2 e1,by simpa using this⟩
theorem B8o {P:List UInt8->Prop} {G:List T3->Prop} (hP:∀ x,P x->∃ ts,G ts/\Pc false x ts):∀ (ss:List (List UInt8)) (acc:List UInt8) (ta:List T3),(∀ x∈ss,P x)->Pc false acc ta ->
  ∃ ls:List (List T3),ls.length=ss.length/\(∀ x∈ls,G x)/\Pc false (ss.foldl (fun a x=>(a++[32])++x) acc) (ta++ls.flatten)
 | [],acc,ta,_,h=>⟨[],rfl,(fun x hx=>by cases hx),by simpa using h⟩
 | x :: ss,acc,ta,hx,h=>by
  obtain ⟨ts,x1,x2⟩:=hP x (hx x A0L);have h2:Pc false ((acc++[32])++x) (ta++ts):=by
   have:=h.pre (A1r (c:=32) (by decide) x2);simpa using this
  obtain ⟨ls,l1,l2,l3⟩:=B8o hP ss _ _ (fun y hy=>hx y (A0J _ hy)) h2;refine ⟨ts :: ls,by simp [l1],fun y hy=>?_,?_⟩
  ·rcases A1D.1 hy with rfl|hy
   ·exact x1
   ·exact l2 y hy
  ·rw [A4J,A2W, <- A0U];exact l3
theorem D7g {P:List UInt8->Prop} {G:List T3->Prop} (hP:∀ x,P x->∃ ts,G ts/\Pc false x ts) {x:List UInt8} (h:BkG P x):∃ ts,GB G ts/\Pc false x ts:=by
 obtain ⟨ss,h1,h2,rfl⟩:=h;obtain ⟨ls,l1,l2,l3⟩:=B8o hP ss [123] [sgT [123]] h2 D6o;have l4:Pc false [32,125] [sgT [125]]:=A1r (by decide) D6n;have:=Pc.pre (p:=A3x ss) l3 l4;exact ⟨_,⟨ls,by omega,l2,rfl⟩,by simpa using this⟩
theorem C7f {L:List UInt8}:∀ (d:Nat) (x:List UInt8),StD L 0 d x->∃ ts,GSd NmM d ts/\Pc false x ts
 | 0,x,h=>C7e (K:=fun _=>False) (B:=fun _=>False) (fun _ h=>h.elim) h
 | d+1,x,h=>C7e (K:=BkG (StD L 0 d)) (B:=GB (GSd NmM d)) (fun y hy=>D7g (C7f d) hy) h
def trI:List (Nat × List UInt8):=[(0,[]),(1,[]),(2,[115,119,48]),(3,[115,119,48]),(2,[115,119,49]),(2,[115,119,50]),(4,[116,109,48]),(4,[116,109,49]),(5,[101,118,48]),(5,[101,118,49]),(3,[115,119,51])]
theorem E5c {L:List UInt8} {k:Nat} {x:List UInt8} (h:HdG L 0 k x):∃ b,(GB (GSd NmM 2) b)/\Pc false x (hT ((trI.getD (k % 11) (0,[])).1,(trI.getD (k % 11) (0,[])).2,b)):=by
 cases h with
 | wild h=>omega
 | @std y hy =>
  obtain ⟨b,b1,b2⟩:=D7g (C7f 2) hy;have hl:∀ j,j<11->B0w false (([111,110,32]++C4l.getD j [])++[32]) (hT ((trI.getD j (0,[])).1,(trI.getD j (0,[])).2,[]))=true:=by decide
  have:=(J6 (hl (k % 11) (Nat.mod_lt _ (by decide)))).pre b2;refine ⟨b,b1,?_⟩;simpa [hT] using this
theorem B8n {L:List UInt8}:∀ (hs:List (List UInt8)) (k:Nat) (acc:List UInt8) (ta:List T3),(∀ j x,hs[j]? = some x->HdG L 0 (k+j) x)->Pc false acc ta ->
  ∃ bs:List (List T3),bs.length=hs.length/\(∀ b∈bs,GB (GSd NmM 2) b)/\Pc false (A1i acc hs) (ta++((bs.zipIdx.map fun q=>hT ((trI.getD ((k+q.2) % 11) (0,[])).1,(trI.getD ((k+q.2) % 11) (0,[])).2,q.1))).flatten)
 | [],k,acc,ta,_,h=>⟨[],rfl,(fun x hx=>by cases hx),by simpa [A1i] using h⟩
 | x :: hs,k,acc,ta,hx,h=>by
  obtain ⟨b,x1,x2⟩:=E5c (hx 0 x rfl);have l4:Pc false [10] []:=J6 (by decide);have h2:=(h.pre x2).pre l4;obtain ⟨bs,l1,l2,l3⟩:=B8n hs (k+1) _ _ (fun j y hy=>by have:=hx (j+1) y hy;rw [show k+1+j=k+(j+1) by omega];exact this) h2;refine ⟨b :: bs,by simp [l1],fun y hy=>?_,?_⟩
  ·rcases A1D.1 hy with rfl|hy
   ·exact x1
   ·exact l2 y hy
  ·have e:(b :: bs).zipIdx=(b,0) :: bs.zipIdx.map (fun q=>(q.1,q.2+1)):=by
    rw [List.zipIdx_cons,List.zipIdx_succ]
   rw [e,A0N,A2W,A3Q];show Pc false (A1i ((acc++x)++[10]) hs) _;have e2:(bs.zipIdx.map ((fun q:List T3 × Nat=>hT ((trI.getD ((k+q.2) % 11) (0,[])).1,(trI.getD ((k+q.2) % 11) (0,[])).2,q.1))∘fun q=>(q.1,q.2+1)))=bs.zipIdx.map fun q=>hT ((trI.getD ((k+1+q.2) % 11) (0,[])).1,(trI.getD ((k+1+q.2) % 11) (0,[])).2,q.1):=by
    apply A3S;intro q _;show hT ((trI.getD ((k+(q.2+1)) % 11) (0,[])).1,_,q.1)=_;rw [show k+(q.2+1)=k+1+q.2 by omega]
   rw [e2];simpa using l3
theorem E4z (k:Nat) (hk:k<11) (bs:List (List T3)) (hb:bs.length<=4):D6d (bs.zipIdx.map fun q=>((trI.getD ((k+q.2) % 11) (0,[])).1,(trI.getD ((k+q.2) % 11) (0,[])).2,q.1)):=by
 constructor
 ·rw [A3Q];have e:(bs.zipIdx.map ((fun h:H3=>(1+(h.1:Int),h.2.1))∘fun q=>((trI.getD ((k+q.2) % 11) (0,[])).1,(trI.getD ((k+q.2) % 11) (0,[])).2,q.1)))=(bs.zipIdx.map Prod.snd).map fun j=>(1+((trI.getD ((k+j) % 11) (0,[])).1:Int),(trI.getD ((k+j) % 11) (0,[])).2):=by
   rw [A3Q];rfl
  rw [e,List.zipIdx_map_snd];have:∀ k,k<11->∀ n,n<5->((List.range' 0 n).map fun j=>(1+((trI.getD ((k+j) % 11) (0,[])).1:Int),(trI.getD ((k+j) % 11) (0,[])).2)).Nodup:=by decide +kernel
  exact this k hk _ (by omega)
 ·intro h hh;obtain ⟨q, -,rfl⟩:=A1I.1 hh;have:∀ j,j<11->kdH (1+((trI.getD j (0,[])).1:Int))=0\/nmB (kdH (1+((trI.getD j (0,[])).1:Int))) (trI.getD j (0,[])).2=true:=by decide
  exact (this ((k+q.2) % 11) (Nat.mod_lt _ (by decide))).imp id C9e
theorem C7y {L:List UInt8} {i:Nat} {s:List UInt8} (h:RuP L 0 i s):i<=3->∃ v,v∈A8s/\∃ ms:List M3,ms.map (·.1)=A2x.take i/\(∀ m∈ms,m.2.1<=99)/\(∀ m∈ms,D6d m.2.2)/\(∀ L' E, ∀ m∈ms,mWf L' E NmM m) /\
  Pc false s (((A2y v).map dT).flatten++(ms.map mT).flatten):=by
 induction h with
 | @head k hk =>
  intro _;have hl:∀ k,k<4->k=2\/((A2z false 2000 (((ruA++ruB)++v0L.getD k [])++ruC) == some (((A2y (A8s.getD k 0)).map dT).flatten))=true/\A8s.getD k 0∈A8s):=by decide +kernel
  rcases hl k hk with rfl|⟨h1,h2⟩
  ·refine ⟨-7,by decide,[],rfl,(fun m hm=>by cases hm),(fun m hm=>by cases hm),(fun _ _ m hm=>by cases hm),?_⟩;have e1:(A2z false 2000 (ruA++ruB) == some ((((A2y (-7)).map dT).flatten).take 62))=true:=by decide +kernel
   have e2:(A2z false 2000 ([55]++ruC) == some ((((A2y (-7)).map dT).flatten).drop 63))=true:=by decide +kernel
   have e3:((((A2y (-7)).map dT).flatten).take 62++((5,[45],0) :: (((A2y (-7)).map dT).flatten).drop 63) == ((A2y (-7)).map dT).flatten)=true:=by decide +kernel
   have h45:Pc false [45] [(5,[45],0)]:=A5t (by decide) (by decide) (by decide);have:=(Y2 _ _ _ (eq_of_beq e1)).pre (h45.pre (Y2 _ _ _ (eq_of_beq e2)));have e4:=eq_of_beq e3;have e5:((ruA++ruB)++v0L.getD 2 [])++ruC=(ruA++ruB)++([45]++([55]++ruC)):=by
    rw [show v0L.getD 2 []=[45]++[55] from rfl];simp only [A0U]
   rw [e5];have e6:(((A2y (-7)).map dT).flatten).take 62++([(5,[45],0)]++(((A2y (-7)).map dT).flatten).drop 63)=((A2y (-7)).map dT).flatten:=e4;rw [e6] at this;simpa using this
  refine ⟨_,h2,[],rfl,(fun m hm=>by cases hm),(fun m hm=>by cases hm),(fun _ _ m hm=>by cases hm),?_⟩;have:=Y2 _ _ _ (eq_of_beq h1);simpa using this
 | @mode i p k s hs hr hp hk hl hh ih =>
  intro hi;obtain ⟨v,hv,ms,m1,m2,m3,m4,m5⟩:=ih (by omega);have hl1:∀ i,i<3->∀ p,p<4->B0w false ((((([109,111,100,101,32,109,111,100,101])++dcS i)++[32])++dcS p)++[32]) [(2,[109,111,100,101],0),(1,A2x.getD i [],0),(3,[],(p:Int))]=true:=by decide +kernel
  have h1:=J6 (hl1 i (by omega) p hp);have hmd:Pc false (B5o s i p) ((((A2y v).map dT).flatten++(ms.map mT).flatten)++[(2,[109,111,100,101],0),(1,A2x.getD i [],0),(3,[],(p:Int)),(5,[123],0)]):=by
   have l4:Pc false [10] []:=J6 (by decide);have:=m5.pre (h1.pre (D6o.pre l4));unfold B5o;rw [C4b (by omega),C4b (by omega)];simpa using this
  obtain ⟨bs,b1,b2,b3⟩:=B8n hs k _ _ hh hmd;have l5:Pc false [125,10] [(5,[125],0)]:=D6n.pre (p':=[10]) (J6 (by decide));refine ⟨v,hv,ms++[(A2x.getD i [],(p:Int),bs.zipIdx.map fun q=>((trI.getD ((k+q.2) % 11) (0,[])).1,(trI.getD ((k+q.2) % 11) (0,[])).2,q.1))],?_,?_,?_,?_,?_⟩
  ·rw [A0Z,m1,A0N,A1Z];have:∀ i,i<3->A2x.take i++[A2x.getD i []]=A2x.take (i+1):=by decide
   exact this i (by omega)
  ·intro m hm;rcases A1A.1 hm with hm|hm
   ·exact m2 m hm
   ·obtain rfl:=A0R.1 hm;show (p:Int)<=99;omega
  ·intro m hm;rcases A1A.1 hm with hm|hm
   ·exact m3 m hm
   ·obtain rfl:=A0R.1 hm;exact E4z k hk bs (by omega)
  ·intro L' E m hm;rcases A1A.1 hm with hm|hm
   ·exact m4 L' E m hm
   ·obtain rfl:=A0R.1 hm;refine ⟨by simp;omega,fun h hh=>?_⟩;obtain ⟨q,hq,rfl⟩:=A1I.1 hh;have hj:∀ j,j<11->(trI.getD j (0,[])).1<6/\((trI.getD j (0,[])).1<2->(trI.getD j (0,[])).2=[]):=by decide
    obtain ⟨j1,j2⟩:=hj ((k+q.2) % 11) (Nat.mod_lt _ (by decide));refine ⟨j1,j2,?_⟩;have hqb:q.1∈bs:=by
     have:q.1∈bs.zipIdx.map Prod.fst:=A4L hq
     rwa [List.zipIdx_map_fst] at this
    exact E1f 2 (b2 _ hqb)
  ·have:=b3.pre l5;rw [A0Z,List.flatten_append];simpa [mT,A3Q,Function.comp_def] using this
end Go.Proofs.YthlpinppaclofaaGreatDoor
namespace Go.Pb
variable [Go.Sym.Tab]
open Go.Sym
theorem C6x {t:Tok} (h:TOk t):∃ c r,K4 t=c :: r/\T9 c=false/\c.toNat≠35:=by
 obtain ⟨s,p,h1,rfl⟩:=h;rw [B7x h1 p];have hn:=A1e h1;have hs:=C3g h1;cases s with
 | nil=>simp at hn;omega
 | cons c q =>
  obtain ⟨k,hk⟩:∃ k,(A7 (c :: q)).n=k+1:=⟨(A7 (c :: q)).n-1,by omega⟩;rw [hk,A0X];refine ⟨c,q.take k,rfl,?_,?_⟩
  ·cases hz:T9 c with
   | false=>rfl
   | true=>simp only [skM,hz,if_true] at hs;omega
  ·intro e;simp only [skM,e,if_true] at hs;split at hs<;>omega
theorem D2l {T:List Tok} (h0:T≠[]) (h:∀ t∈T,TOk t) (h1:(C0 (T4 T)).2.2=0):(C0 (T4 T)).1≠[]:=by
 intro e;have hr:=(S5 h1).2;rw [e] at hr;cases T with
 | nil=>exact h0 rfl
 | cons t l =>
  obtain ⟨c,r,e1,e2,e3⟩:=C6x (h t A0L);have ht:T4 (t :: l)=c :: (r++Q8 spB 1 l):=by
   unfold T4;rw [Q8,e1];rfl
  rw [ht] at hr;have hk:skM false (c :: (r++Q8 spB 1 l))=0:=by
   simp only [skM];rw [if_neg (by rw [e2];decide),if_neg e3]
  rw [hk] at hr;have hr:(c :: (r++Q8 spB 1 l)).length<=0:=hr;simp at hr
theorem B7i (s:List UInt8):∀ t∈(C0 s).1,TOk t:=by
 by_cases h:(C0 s).2.2=0
 ·exact A4j h
 ·have:(C0 s).1=[]:=by
   unfold C0 at h ⊢;split
   ·rfl
   ·rename_i g;rw [if_neg g] at h;exact A4k _ _ _ _ h
  rw [this];exact fun t ht=>by cases ht
theorem C7u {s:List UInt8} {n:Nat} (hn:s.length<=n):A3f n (C0 s).1:=by
 by_cases h:(C0 s).2.2=0
 ·have hl:=B2x s;have hr:=(S5 h).2.len (T7 false s);exact ⟨fun t ht=>(A4j h t ht).fit,by omega,by omega⟩
 ·have:(C0 s).1=[]:=by
   unfold C0 at h ⊢;split
   ·rfl
   ·rename_i g;rw [if_neg g] at h;exact A4k _ _ _ _ h
  rw [this];exact ⟨fun t ht=>(by cases ht),A1H _,A1H _⟩
end Go.Pb
namespace Go.Proofs.YthlpinppaclofaaGreatDoor
open Go.Eng (IC IOper DReg IFn J0)
open Go.Sym Go.Pb
theorem c_Words2 (l:List UInt8) (hl:l.length<=9223372036854775807) (m:List UInt8) (hm:m.length<=9223372036854775807) (H:Hp) (cc:Nat) :
  AC Tryz.prog 17 [.lst (bytesC l),.lst (bytesC m)] H cc (fun v H' c' => ∃ T,1<=T.length/\(∀ t∈T,TOk t)/\A3f 20300 T/\v=.str (T4 T)/\H'=H):=by
 have h300:(l.take 300).length<=300:=by rw [A0T];omega
 refine AC.bodyT B2 rfl (A0A rfl) fun hfr=>?_;repeat' ((with_reducible first|refine wr ?_|refine A2 ?_ ?_|fail)<;>try simp only [go_sem,seval])
 refine AC.call (c_New l hl _ _) ?_;rintro v' H' c2 ⟨t,ht1,ht2,rfl,rfl⟩ hc2;simp only [go_sem,seval,A0,A1];repeat' ((with_reducible first|refine wr ?_|refine A2 ?_ ?_|fail)<;>try simp only [go_sem,seval,A0,A1])
 refine AC.call (C3y (l.take 300) h300 0 (by omega) 0 (by omega) _ _ t A0 (by omega)) ?_;rintro v' H' c3 ⟨s,j,g,ls,b,rfl,rfl⟩ hc3;have hsc:=c_ScanR s (by omega);have hwk:=D2x s;have htk:=B7i s;have hT4:4<=(C0 s).1.length:=by
  obtain ⟨v,hv,ms,m1,m2,m3,m4,m5⟩:=C7y g (A0H _);have h0:=m5.scan (by omega);have h1:=m5.toks h0;have h2:=congrArg List.length h1;rw [A0I] at h2;rw [h2,A0C];have hv4:∀ v∈A8s,4<=((A2y v).map dT).flatten.length:=by decide
  have:=hv4 v hv;omega
 clear g;rw [A1];generalize (C0 s)=q at hsc hwk htk hT4;obtain ⟨T,q1,q2⟩:=q;dsimp only at hsc hwk htk hT4;have ne0:=X3 t c3 (by omega);simp only [go_sem,seval,ne0,A0,A1];repeat' ((with_reducible first|refine E3 (p:=IW _ _ (pz Tryz.prog 17 (.o (.i (.o .h)))) _ _) ?_|refine wr ?_|refine cpc hsc ?_|refine A2 ?_ ?_|fail)<;>try simp only [go_sem,seval,ne0,A0,A1])
 unfold X7;have hcl:∀ j,cc<=j->H j=none:=hfr;refine IW.keep [1,5,8,9] [.lst (bytesC m),S2 T,strs C6j,I64 0] (GL.frzS (id:=c3) (H':=H) A0 rfl (fun j=>by
   by_cases e:j=c3
   ·subst e;exact .inl (hcl _ (by omega))
   ·by_cases e2:j=t
    ·subst e2;exact .inl (hcl _ (by omega))
    ·exact .inr ⟨e,by rw [A3 e,A3 e2]⟩)
  (.cons _ _ _ _ (.same _) (.cons _ _ _ _ (.same _) (.cons _ _ _ _ (M9 (u:=1) (xs:=C6j.map DV.str) rfl (R4 _) ⟨[],rfl⟩) (FzL.refl _))))) ?_
 simp only [A2R,A3P];have hp30:C6j.length=30:=rfl;have hpl:∀ x∈C6j,x.length<=100:=by decide
 generalize C6j=P at hp30 hpl;repeat' ((with_reducible first|refine wr ?_|refine A2 ?_ ?_|fail)<;>try simp only [go_sem,seval])
 refine D2 (fun q:Nat × List Tok=>[(1,.lst (bytesC m)),(5,S2 q.2),(8,strs P),(9,I64 (2 * q.1:Nat))]) (fun _=>H) (fun q c=>cc<=c/\q.1<=3/\A3f (20000+100 * q.1) q.2/\(∀ t∈q.2,TOk t)/\4<=q.2.length+q.1) (fun q=>3-q.1) (0,T) (by simp [C6,tm,Tm.upd]) (Sub.refl _) ⟨by omega,by omega,by simpa using hwk,htk,by simpa using hT4⟩ ?_;clear hwk hsc htk hT4;rintro ⟨k,T⟩ c ⟨hc,hk,hwk,htk,hT4⟩;dsimp only at hc hk hwk htk hT4 ⊢;obtain ⟨f1,f2,f3⟩:=hwk;have hend:∀ c',cc<=c'->True:=fun _ _=>trivial;have hw1:IntKind.i64.wrap (((2 * k:Nat):Int)+1)=((2 * k+1:Nat):Int):=by rw [w6z (by omega)];omega
 have htx:=c_TextR T (by omega) f1;have htl:=A3f.text (l:=T) ⟨f1,f2,f3⟩;have hT:(T4 T).length<=1000000:=by omega
 have hbl:(bytesC m).length=m.length:=by simp [bytesC]
 by_cases h1:2 * k+1<m.length
 ·have d1:decide (((2 * k+1:Nat):Int)<(m.length:Int))=true:=by simp;omega
  by_cases h2:k<3
  ·have d2:decide (((2 * k:Nat):Int)<6)=true:=by simp;omega
   by_cases h3:0<T.length
   ·have d3:decide ((T.length:Int)>0)=true:=by simp;omega
    have g1:=A6c (A0E (show 2 * k<m.length by omega));have g2:=A6c (A0E h1);have hx:=(m[2 * k]'(by omega)).toNat_lt;have hy:=(m[2 * k+1]'h1).toNat_lt;generalize m[2 * k]'(by omega)=x at g1 hx;generalize m[2 * k+1]'h1=y at g2 hy;have hw2:IntKind.i64.wrap ((x.toNat:Nat):Int)=((x.toNat:Nat):Int):=w6z (by omega);have hw3:IntKind.i64.wrap ((y.toNat:Nat):Int)=((y.toNat:Nat):Int):=w6z (by omega);have hmul:x.toNat * T.length<=255 * T.length:=A3N _ (by omega);have hw4:IntKind.i64.wrap ((x.toNat:Int) * (T.length:Int))=((x.toNat * T.length:Nat):Int):=by rw [<- Int.natCast_mul];exact w6z (by omega)
    have hq:binR .quo (I64 ((x.toNat * T.length:Nat):Int)) (I64 256)=some (I64 ((x.toNat * T.length / 256:Nat):Int)):=by
     rw [B7p (by decide)];have:(((x.toNat * T.length:Nat):Int)).tdiv 256=((x.toNat * T.length / 256:Nat):Int):=rfl;rw [this,w6z (by omega)]
    have hr:binR .rem (I64 (y.toNat:Int)) (I64 30)=some (I64 ((y.toNat % 30:Nat):Int)):=by rw [B2z (by decide)];rfl
    have hq2:binR .quo (.int .u8 (y.toNat:Int)) (.int .u8 90)=some (.int .u8 ((y.toNat / 90:Nat):Int)):=by
     rw [B7p (by decide)];have:((y.toNat:Nat):Int).tdiv 90=((y.toNat / 90:Nat):Int):=rfl;rw [this];have:IntKind.u8.wrap ((y.toNat / 90:Nat):Int)=((y.toNat / 90:Nat):Int):=by unfold IntKind.wrap;simp [IntKind.bits];omega
     rw [this]
    have hK:x.toNat * T.length / 256<T.length:=by omega
    generalize x.toNat * T.length / 256=K at hq hK;have hgp:=A0E (show y.toNat % 30<P.length by omega);have hpm:=hpl _ (A1B (show y.toNat % 30<P.length by omega));generalize P[y.toNat % 30]'(by omega)=z at hgp hpm;have hsx:=c_ScanR z (by omega);have hxk:=C7u hpm;have hxt:=B7i z;generalize (C0 z)=q at hsx hxk hxt;obtain ⟨X,q1,q2⟩:=q;dsimp only at hsx hxk hxt;have hwn:IntKind.i64.wrap ((2 * k:Nat)+2:Int)=((2 * (k+1):Nat):Int):=by rw [w6z (by omega)];omega
    have t1:=fun H=>C7m (H:=H) T (k:=K) (by omega);have t2:=fun H=>B7e (H:=H) T (k:=K) (by omega);have t3:=fun H=>B7e (H:=H) T (k:=K+1) (by omega);have hw5:IntKind.i64.wrap ((K:Int)+1)=((K+1:Nat):Int):=by rw [w6z (by omega)];omega
    repeat' ((with_reducible first|refine wr ?_|refine cpc hsx ?_|refine A2 ?_ ?_|refine wb2 ?_ ?_<;>(intro hb;try simp only [hb])|fail)<;>try simp only [go_sem,seval,hbl,hw1,d1,d2,d3,g1,g2,hw2,hw3,hw4,hw5,hq,hr,hq2,hgp,hp30,hwn,t1,t2,t3,A0I])
    ·obtain ⟨o1,c1,e1,n1,n2,n3⟩:=A4c (H:=H) (M:=H) (o:=none) (A:=[]) (T.take K) (c:=c+12) (fun _=>rfl) (fun i h=>by cases h) (by simp;omega);replace e1:apX H (c+12) 4 40 .snil (A0c H 4 (S2 (T.take K)))=some (C4 o1 (T.take K).length,D4 H o1 ⟨4,true,A8 ((T.take K).map Tok.v)⟩,c1):=e1;have nn:∀ i b,i<12->D4 H o1 b (c+i)=none:=fun i b h=>by rw [F3 (fun j hj=>by have:=n3 j hj;omega)];exact hfr _ (by omega)
     rw [e1];simp only [go_sem,seval];repeat' ((with_reducible first|refine wr ?_|refine A2 ?_ ?_|fail)<;>try simp only [go_sem,seval,hbl,t1,t2,t3,A0I,hw5])
     refine ⟨⟨nn 4 _ (by decide),nn 6 _ (by decide),nn 7 _ (by decide),⟨by rw [hw5],nn 8 _ (by decide)⟩,?_⟩,?_⟩
     ·have:=t3 (D4 H o1 ⟨4,true,A8 ((T.take K).map Tok.v)⟩);rw [this];exact ⟨rfl,nn 9 _ (by decide)⟩
     obtain ⟨o2,c2,me,m1,m2,m3⟩:=A4c (H:=H) (M:=D4 H o1 ⟨4,true,A8 ((T.take K).map Tok.v)⟩) (o:=o1) (A:=T.take K) X (c:=c1) n2 (fun i h=>⟨hfr _ (by have:=n3 i h;omega),by have:=n3 i h;omega⟩) (by have:=hxk.2.1;simp;omega);rw [me];simp only [go_sem,seval];repeat' ((with_reducible first|refine wr ?_|refine A2 ?_ ?_|fail)<;>try simp only [go_sem,seval,hbl,t1,t2,t3,A0I,hw5])
     have mn:∀ i b,i<12->D4 H o2 b (c+i)=none:=fun i b h=>by rw [F3 (fun j hj=>by have:=m3 j hj;omega)];exact hfr _ (by omega)
     refine ⟨⟨mn 6 _ (by decide),mn 7 _ (by decide),⟨by rw [hw5],mn 8 _ (by decide)⟩,?_⟩,?_⟩
     ·have:=t3 (D4 H o2 ⟨4,true,A8 ((T.take K++X).map Tok.v)⟩);rw [this];exact ⟨rfl,mn 9 _ (by decide)⟩
     obtain ⟨o3,c3,pe,p1,p2,p3⟩:=A4c (H:=H) (M:=D4 H o2 ⟨4,true,A8 ((T.take K++X).map Tok.v)⟩) (o:=o2) (A:=T.take K++X) (T.drop (K+1)) (c:=c2) m2 (fun i h=>⟨hfr _ (by have:=m3 i h;omega),by have:=m3 i h;omega⟩) (by have:=hxk.2.1;simp;omega);rw [pe];simp only [go_sem,seval];repeat' ((with_reducible first|refine E3 (p:=IW _ _ (pz Tryz.prog 17 (.o (.o (.i (.o (.o .h)))))) _ _) ?_|refine wr ?_|refine A2 ?_ ?_|fail)<;>try simp only [go_sem,seval,hbl,t1,t2,t3,A0I,hw5])
     unfold X7;have hwk:=(A3f.drop1 (l:=T) ⟨f1,f2,f3⟩ hxk K).2.1;refine IW.keep [1,5,8,9] [.lst (bytesC m),S2 (T.take K++X++T.drop (K+1)),strs P,I64 (2 * k:Nat)] (C1l (ds:=[.lst (bytesC m)]) (es:=[strs P,I64 (2 * k:Nat)]) (fun h=>by rw [p2 h];rfl) (fun i h=>hfr _ (by have:=p3 i h;omega)) (by rw [A0I]) (T1 _)) ?_;simp only [A2R,A3P];repeat' ((with_reducible first|refine wr ?_|refine A2 ?_ ?_|fail)<;>try simp only [go_sem,seval,hwn])
     exact ⟨(k+1,T.take K++X++T.drop (K+1)),by simp [C6,tm,Tm.upd],Sub.refl _,inv ⟨by omega,by omega,hwk.mono (by omega),(fun t ht=>by
      rcases A1A.1 ht with h|h
      ·rcases A1A.1 h with h|h
       ·exact htk t (A2S h)
       ·exact hxt t h
      ·exact htk t (A2T h)),by simp only [A0C,A0T,A1E];omega⟩,by simp only;omega⟩
    ·obtain ⟨o1,c1,e1,n1,n2,n3⟩:=A4c (H:=H) (M:=H) (o:=none) (A:=[]) (T.take K) (c:=c+10) (fun _=>rfl) (fun i h=>by cases h) (by simp;omega);replace e1:apX H (c+10) 4 40 .snil (A0c H 4 (S2 (T.take K)))=some (C4 o1 (T.take K).length,D4 H o1 ⟨4,true,A8 ((T.take K).map Tok.v)⟩,c1):=e1;have nn:∀ i b,i<10->D4 H o1 b (c+i)=none:=fun i b h=>by rw [F3 (fun j hj=>by have:=n3 j hj;omega)];exact hfr _ (by omega)
     rw [e1];simp only [go_sem,seval];repeat' ((with_reducible first|refine wr ?_|refine A2 ?_ ?_|fail)<;>try simp only [go_sem,seval,hbl,t1,t2,t3,A0I,hw5])
     refine ⟨⟨nn 4 _ (by decide),nn 5 _ (by decide),⟨by rw [hw5],nn 6 _ (by decide)⟩,?_⟩,?_⟩
     ·have:=t3 (D4 H o1 ⟨4,true,A8 ((T.take K).map Tok.v)⟩);rw [this];exact ⟨rfl,nn 7 _ (by decide)⟩
     obtain ⟨o2,c2,me,m1,m2,m3⟩:=A4c (H:=H) (M:=D4 H o1 ⟨4,true,A8 ((T.take K).map Tok.v)⟩) (o:=o1) (A:=T.take K) (T.drop (K+1)) (c:=c1) n2 (fun i h=>⟨hfr _ (by have:=n3 i h;omega),by have:=n3 i h;omega⟩) (by have:=hxk.2.1;simp;omega);rw [me];simp only [go_sem,seval];repeat' ((with_reducible first|refine E3 (p:=IW _ _ (pz Tryz.prog 17 (.o (.o (.i (.o (.o .h)))))) _ _) ?_|refine wr ?_|refine A2 ?_ ?_|fail)<;>try simp only [go_sem,seval,hbl,t1,t2,t3,A0I,hw5])
     unfold X7;have hwk:=(A3f.drop1 (l:=T) ⟨f1,f2,f3⟩ hxk K).2.2;refine IW.keep [1,5,8,9] [.lst (bytesC m),S2 (T.take K++T.drop (K+1)),strs P,I64 (2 * k:Nat)] (C1l (ds:=[.lst (bytesC m)]) (es:=[strs P,I64 (2 * k:Nat)]) (fun h=>by rw [m2 h];rfl) (fun i h=>hfr _ (by have:=m3 i h;omega)) (by rw [A0I]) (T1 _)) ?_;simp only [A2R,A3P];repeat' ((with_reducible first|refine wr ?_|refine A2 ?_ ?_|fail)<;>try simp only [go_sem,seval,hwn])
     exact ⟨(k+1,T.take K++T.drop (K+1)),by simp [C6,tm,Tm.upd],Sub.refl _,inv ⟨by omega,by omega,hwk.mono (by omega),(fun t ht=>by
      rcases A1A.1 ht with h|h
      ·exact htk t (A2S h)
      ·exact htk t (A2T h)),by simp only [A0C,A0T,A1E];omega⟩,by simp only;omega⟩
    ·obtain ⟨o1,c1,e1,n1,n2,n3⟩:=A4c (H:=H) (M:=H) (o:=none) (A:=[]) (T.take K) (c:=c+11) (fun _=>rfl) (fun i h=>by cases h) (by simp;omega);replace e1:apX H (c+11) 4 40 .snil (A0c H 4 (S2 (T.take K)))=some (C4 o1 (T.take K).length,D4 H o1 ⟨4,true,A8 ((T.take K).map Tok.v)⟩,c1):=e1;have nn:∀ i b,i<11->D4 H o1 b (c+i)=none:=fun i b h=>by rw [F3 (fun j hj=>by have:=n3 j hj;omega)];exact hfr _ (by omega)
     rw [e1];simp only [go_sem,seval];repeat' ((with_reducible first|refine wr ?_|refine A2 ?_ ?_|fail)<;>try simp only [go_sem,seval,hbl,t1,t2,t3,A0I,hw5])
     refine ⟨⟨nn 4 _ (by decide),nn 6 _ (by decide),nn 7 _ (by decide),?_⟩,?_⟩
     ·have:=t2 (D4 H o1 ⟨4,true,A8 ((T.take K).map Tok.v)⟩);rw [this];exact ⟨rfl,nn 8 _ (by decide)⟩
     obtain ⟨o2,c2,me,m1,m2,m3⟩:=A4c (H:=H) (M:=D4 H o1 ⟨4,true,A8 ((T.take K).map Tok.v)⟩) (o:=o1) (A:=T.take K) X (c:=c1) n2 (fun i h=>⟨hfr _ (by have:=n3 i h;omega),by have:=n3 i h;omega⟩) (by have:=hxk.2.1;simp;omega);rw [me];simp only [go_sem,seval];repeat' ((with_reducible first|refine wr ?_|refine A2 ?_ ?_|fail)<;>try simp only [go_sem,seval,hbl,t1,t2,t3,A0I,hw5])
     have mn:∀ i b,i<11->D4 H o2 b (c+i)=none:=fun i b h=>by rw [F3 (fun j hj=>by have:=m3 j hj;omega)];exact hfr _ (by omega)
     refine ⟨⟨mn 6 _ (by decide),mn 7 _ (by decide),?_⟩,?_⟩
     ·have:=t2 (D4 H o2 ⟨4,true,A8 ((T.take K++X).map Tok.v)⟩);rw [this];exact ⟨rfl,mn 8 _ (by decide)⟩
     obtain ⟨o3,c3,pe,p1,p2,p3⟩:=A4c (H:=H) (M:=D4 H o2 ⟨4,true,A8 ((T.take K++X).map Tok.v)⟩) (o:=o2) (A:=T.take K++X) (T.drop K) (c:=c2) m2 (fun i h=>⟨hfr _ (by have:=m3 i h;omega),by have:=m3 i h;omega⟩) (by have:=hxk.2.1;simp;omega);rw [pe];simp only [go_sem,seval];repeat' ((with_reducible first|refine E3 (p:=IW _ _ (pz Tryz.prog 17 (.o (.o (.i (.o (.o .h)))))) _ _) ?_|refine wr ?_|refine A2 ?_ ?_|fail)<;>try simp only [go_sem,seval,hbl,t1,t2,t3,A0I,hw5])
     unfold X7;have hwk:=(A3f.drop1 (l:=T) ⟨f1,f2,f3⟩ hxk K).1;refine IW.keep [1,5,8,9] [.lst (bytesC m),S2 (T.take K++X++T.drop K),strs P,I64 (2 * k:Nat)] (C1l (ds:=[.lst (bytesC m)]) (es:=[strs P,I64 (2 * k:Nat)]) (fun h=>by rw [p2 h];rfl) (fun i h=>hfr _ (by have:=p3 i h;omega)) (by rw [A0I]) (T1 _)) ?_;simp only [A2R,A3P];repeat' ((with_reducible first|refine wr ?_|refine A2 ?_ ?_|fail)<;>try simp only [go_sem,seval,hwn])
     exact ⟨(k+1,T.take K++X++T.drop K),by simp [C6,tm,Tm.upd],Sub.refl _,inv ⟨by omega,by omega,hwk.mono (by omega),(fun t ht=>by
      rcases A1A.1 ht with h|h
      ·rcases A1A.1 h with h|h
       ·exact htk t (A2S h)
       ·exact hxt t h
      ·exact htk t (A2T h)),by simp only [A0C,A0T,A1E];omega⟩,by simp only;omega⟩
   ·have d3:decide ((T.length:Int)>0)=false:=decide_eq_false (by omega);repeat' ((with_reducible first|refine wr ?_|refine cpc htx ?_|refine A2 ?_ ?_|fail)<;>try simp only [go_sem,seval,hbl,hw1,d1,d2,d3,A0I])
    exact ⟨_,_,GL.refl _ _,T,by omega,htk,⟨f1,by omega,by omega⟩,rfl,rfl⟩
  ·have d2:decide (((2 * k:Nat):Int)<6)=false:=by simp;omega
   repeat' ((with_reducible first|refine wr ?_|refine cpc htx ?_|refine A2 ?_ ?_|fail)<;>try simp only [go_sem,seval,hbl,hw1,d1,d2,A0I])
   all_goals exact ⟨_,_,GL.refl _ _,T,by omega,htk,⟨f1,by omega,by omega⟩,rfl,rfl⟩
 ·have d1:decide (((2 * k+1:Nat):Int)<(m.length:Int))=false:=by simp;omega
  repeat' ((with_reducible first|refine wr ?_|refine cpc htx ?_|refine A2 ?_ ?_|fail)<;>try simp only [go_sem,seval,hbl,hw1,d1,A0I])
  all_goals exact ⟨_,_,GL.refl _ _,T,by omega,htk,⟨f1,by omega,by omega⟩,rfl,rfl⟩
theorem c_CloneE0:PC Tryz.prog 173 [H9 []] (H9 []):=by
 have hub:A3n false 1 (H9 []) .snil=some .ub:=rfl;refine PC.ofT B2 rfl (A0A rfl) rfl rfl ?_;repeat' ((with_reducible first|refine wr ?_|refine A2 ?_ ?_|fail)<;>try simp only [go_sem,seval,hub])
 ·exact A6q
 ·refine D0 (v:=.slc 1 0 0) (H':=((Sym.nil.upd 0 ⟨5,true,[]⟩).del 0).upd 1 ⟨5,true,[]⟩) (c':=2) (by
   show A3d (Sym.nil.upd 0 ⟨5,true,[]⟩) 1 5 64 (.slc 0 0 0) 0 []=_;rw [A3r,A0,E0 rfl (by omega) (by omega)];rfl) ?_
  simp only [go_sem,seval];repeat' ((with_reducible first|refine wr ?_|refine A2 ?_ ?_|fail)<;>try simp only [go_sem,seval])
  exact A0g (u:=5) A0 rfl rfl (by simp) ⟨[],rfl⟩
theorem c_CloneEo (l:List Ex) (hl:l.length<=100000000000) (h0:l≠[]) (H:Hp) (cc:Nat):AC Tryz.prog 173 [H9 l] H cc (fun v H' c'=>v=.slc cc 0 l.length/\H'=H.upd cc ⟨5,true,A8 (l.map Ex.v)⟩/\c'=cc+1):=by
 refine AC.own (V:=fun id=>.slc id 0 l.length) (cs:=A8 (l.map Ex.v)) (u:=5) ?_ (by simp [DV.nlL,DV.nl,Z0]) (Z8 (Z0 l)) (fun ρ ρ' id id' v h1 h2 h3=>by cases h3 with|slc _ _ _ cap t g1 g2 g3 g4 g5=>exact .slc _ _ _ _ t (by rw [<- h1];exact g1) g2 g3 g4 g5) H cc;have hub:A3n false 1 (H9 l) .snil=some (.bool false):=by cases l with|nil=>exact absurd rfl h0|cons x r=>rfl
 have hun:unit 5 (l.map Ex.v)=true:=W9 (by intro a;rw [Ex.v_w];rfl) l;have hln:(A8 (l.map Ex.v)).length=l.length * 5:=(B8 (A3b _)).trans (by simp);refine AC.bodyT B2 rfl (A0A rfl) fun hfr=>?_;repeat' ((with_reducible first|refine wr ?_|refine A2 ?_ ?_|fail)<;>try simp only [go_sem,seval,hub,hun])
 refine D0 (E0 rfl (by omega) (by omega)) ?_;simp only [go_sem,seval];repeat' ((with_reducible first|refine wr ?_|refine A2 ?_ ?_|fail)<;>try simp only [go_sem,seval])
 refine ⟨_,Sym.nil.upd 1 ⟨5,true,A8 (l.map Ex.v)⟩,GL.less fun j=>?_,1,?_,rfl⟩
 ·by_cases e:j=1
  ·subst e;right;rw [A0,A0];try rfl
  ·left;rw [A3 e];rfl
 ·simp
theorem c_CloneS0:PC Tryz.prog 128 [G1 []] (G1 []):=by
 have hub:A3n false 1 (G1 []) .snil=some .ub:=rfl;refine PC.ofT B2 rfl (A0A rfl) rfl rfl ?_;repeat' ((with_reducible first|refine wr ?_|refine A2 ?_ ?_|fail)<;>try simp only [go_sem,seval,hub])
 ·exact A6q
 ·refine D0 (v:=.slc 1 0 0) (H':=((Sym.nil.upd 0 ⟨7,true,[]⟩).del 0).upd 1 ⟨7,true,[]⟩) (c':=2) (by
   show A3d (Sym.nil.upd 0 ⟨7,true,[]⟩) 1 7 120 (.slc 0 0 0) 0 []=_;rw [A3r,A0,E0 rfl (by omega) (by omega)];rfl) ?_
  simp only [go_sem,seval];repeat' ((with_reducible first|refine wr ?_|refine A2 ?_ ?_|fail)<;>try simp only [go_sem,seval])
  exact A0g (u:=7) A0 rfl rfl (by simp) ⟨[],rfl⟩
theorem c_CloneSo (l:List Pb.St) (hl:l.length<=100000000000) (h0:l≠[]) (H:Hp) (cc:Nat):AC Tryz.prog 128 [G1 l] H cc (fun v H' c'=>v=.slc cc 0 l.length/\H'=H.upd cc ⟨7,true,A8 (l.map Pb.St.v)⟩/\c'=cc+1):=by
 refine AC.own (V:=fun id=>.slc id 0 l.length) (cs:=A8 (l.map Pb.St.v)) (u:=7) ?_ (by simp [DV.nlL,DV.nl,U0]) (Z8 (U0 l)) (fun ρ ρ' id id' v h1 h2 h3=>by cases h3 with|slc _ _ _ cap t g1 g2 g3 g4 g5=>exact .slc _ _ _ _ t (by rw [<- h1];exact g1) g2 g3 g4 g5) H cc;have hub:A3n false 1 (G1 l) .snil=some (.bool false):=by cases l with|nil=>exact absurd rfl h0|cons x r=>rfl
 have hun:unit 7 (l.map Pb.St.v)=true:=W9 (by intro a;rw [Pb.St.v_w];rfl) l;have hln:(A8 (l.map Pb.St.v)).length=l.length * 7:=(B8 (A4i _)).trans (by simp);refine AC.bodyT B2 rfl (A0A rfl) fun hfr=>?_;repeat' ((with_reducible first|refine wr ?_|refine A2 ?_ ?_|fail)<;>try simp only [go_sem,seval,hub,hun])
 refine D0 (E0 rfl (by omega) (by omega)) ?_;simp only [go_sem,seval];repeat' ((with_reducible first|refine wr ?_|refine A2 ?_ ?_|fail)<;>try simp only [go_sem,seval])
 refine ⟨_,Sym.nil.upd 1 ⟨7,true,A8 (l.map Pb.St.v)⟩,GL.less fun j=>?_,1,?_,rfl⟩
 ·by_cases e:j=1
  ·subst e;right;rw [A0,A0];try rfl
  ·left;rw [A3 e];rfl
 ·simp
theorem c_CloneD0:PC Tryz.prog 75 [O1 []] (O1 []):=by
 have hub:A3n false 1 (O1 []) .snil=some .ub:=rfl;refine PC.ofT B2 rfl (A0A rfl) rfl rfl ?_;repeat' ((with_reducible first|refine wr ?_|refine A2 ?_ ?_|fail)<;>try simp only [go_sem,seval,hub])
 ·exact A6q
 ·refine D0 (v:=.slc 1 0 0) (H':=((Sym.nil.upd 0 ⟨4,true,[]⟩).del 0).upd 1 ⟨4,true,[]⟩) (c':=2) (by
   show A3d (Sym.nil.upd 0 ⟨4,true,[]⟩) 1 4 40 (.slc 0 0 0) 0 []=_;rw [A3r,A0,E0 rfl (by omega) (by omega)];rfl) ?_
  simp only [go_sem,seval];repeat' ((with_reducible first|refine wr ?_|refine A2 ?_ ?_|fail)<;>try simp only [go_sem,seval])
  exact A0g (u:=4) A0 rfl rfl (by simp) ⟨[],rfl⟩
theorem c_CloneDo (l:List Dc) (hl:l.length<=100000000000) (h0:l≠[]) (H:Hp) (cc:Nat):AC Tryz.prog 75 [O1 l] H cc (fun v H' c'=>v=.slc cc 0 l.length/\H'=H.upd cc ⟨4,true,A8 (l.map Dc.v)⟩/\c'=cc+1):=by
 refine AC.own (V:=fun id=>.slc id 0 l.length) (cs:=A8 (l.map Dc.v)) (u:=4) ?_ (by simp [DV.nlL,DV.nl,W4]) (Z8 (W4 l)) (fun ρ ρ' id id' v h1 h2 h3=>by cases h3 with|slc _ _ _ cap t g1 g2 g3 g4 g5=>exact .slc _ _ _ _ t (by rw [<- h1];exact g1) g2 g3 g4 g5) H cc;have hub:A3n false 1 (O1 l) .snil=some (.bool false):=by cases l with|nil=>exact absurd rfl h0|cons x r=>rfl
 have hun:unit 4 (l.map Dc.v)=true:=W9 (F:=Dc.v) (u:=4) (fun _=>rfl) l;have hln:(A8 (l.map Dc.v)).length=l.length * 4:=(B8 (A4y _)).trans (by simp);refine AC.bodyT B2 rfl (A0A rfl) fun hfr=>?_;repeat' ((with_reducible first|refine wr ?_|refine A2 ?_ ?_|fail)<;>try simp only [go_sem,seval,hub,hun])
 refine D0 (E0 rfl (by omega) (by omega)) ?_;simp only [go_sem,seval];repeat' ((with_reducible first|refine wr ?_|refine A2 ?_ ?_|fail)<;>try simp only [go_sem,seval])
 refine ⟨_,Sym.nil.upd 1 ⟨4,true,A8 (l.map Dc.v)⟩,GL.less fun j=>?_,1,?_,rfl⟩
 ·by_cases e:j=1
  ·subst e;right;rw [A0,A0];try rfl
  ·left;rw [A3 e];rfl
 ·simp
theorem c_CloneM0:PC Tryz.prog 76 [U2 []] (U2 []):=by
 have hub:A3n false 1 (U2 []) .snil=some .ub:=rfl;refine PC.ofT B2 rfl (A0A rfl) rfl rfl ?_;repeat' ((with_reducible first|refine wr ?_|refine A2 ?_ ?_|fail)<;>try simp only [go_sem,seval,hub])
 ·exact A6q
 ·refine D0 (v:=.slc 1 0 0) (H':=((Sym.nil.upd 0 ⟨4,true,[]⟩).del 0).upd 1 ⟨4,true,[]⟩) (c':=2) (by
   show A3d (Sym.nil.upd 0 ⟨4,true,[]⟩) 1 4 56 (.slc 0 0 0) 0 []=_;rw [A3r,A0,E0 rfl (by omega) (by omega)];rfl) ?_
  simp only [go_sem,seval];repeat' ((with_reducible first|refine wr ?_|refine A2 ?_ ?_|fail)<;>try simp only [go_sem,seval])
  exact A0g (u:=4) A0 rfl rfl (by simp) ⟨[],rfl⟩
theorem c_CloneMo (l:List Md) (hl:l.length<=100000000000) (h0:l≠[]) (H:Hp) (cc:Nat):AC Tryz.prog 76 [U2 l] H cc (fun v H' c'=>v=.slc cc 0 l.length/\H'=H.upd cc ⟨4,true,A8 (l.map Md.v)⟩/\c'=cc+1):=by
 refine AC.own (V:=fun id=>.slc id 0 l.length) (cs:=A8 (l.map Md.v)) (u:=4) ?_ (by simp [DV.nlL,DV.nl,W3]) (Z8 (W3 l)) (fun ρ ρ' id id' v h1 h2 h3=>by cases h3 with|slc _ _ _ cap t g1 g2 g3 g4 g5=>exact .slc _ _ _ _ t (by rw [<- h1];exact g1) g2 g3 g4 g5) H cc;have hub:A3n false 1 (U2 l) .snil=some (.bool false):=by cases l with|nil=>exact absurd rfl h0|cons x r=>rfl
 have hun:unit 4 (l.map Md.v)=true:=W9 (F:=Md.v) (u:=4) (fun _=>rfl) l;have hln:(A8 (l.map Md.v)).length=l.length * 4:=(B8 (A4o _)).trans (by simp);refine AC.bodyT B2 rfl (A0A rfl) fun hfr=>?_;repeat' ((with_reducible first|refine wr ?_|refine A2 ?_ ?_|fail)<;>try simp only [go_sem,seval,hub,hun])
 refine D0 (E0 rfl (by omega) (by omega)) ?_;simp only [go_sem,seval];repeat' ((with_reducible first|refine wr ?_|refine A2 ?_ ?_|fail)<;>try simp only [go_sem,seval])
 refine ⟨_,Sym.nil.upd 1 ⟨4,true,A8 (l.map Md.v)⟩,GL.less fun j=>?_,1,?_,rfl⟩
 ·by_cases e:j=1
  ·subst e;right;rw [A0,A0];try rfl
  ·left;rw [A3 e];rfl
 ·simp
theorem c_CloneH0:PC Tryz.prog 77 [A0z []] (A0z []):=by
 have hub:A3n false 1 (A0z []) .snil=some .ub:=rfl;refine PC.ofT B2 rfl (A0A rfl) rfl rfl ?_;repeat' ((with_reducible first|refine wr ?_|refine A2 ?_ ?_|fail)<;>try simp only [go_sem,seval,hub])
 ·exact A6q
 ·refine D0 (v:=.slc 1 0 0) (H':=((Sym.nil.upd 0 ⟨4,true,[]⟩).del 0).upd 1 ⟨4,true,[]⟩) (c':=2) (by
   show A3d (Sym.nil.upd 0 ⟨4,true,[]⟩) 1 4 56 (.slc 0 0 0) 0 []=_;rw [A3r,A0,E0 rfl (by omega) (by omega)];rfl) ?_
  simp only [go_sem,seval];repeat' ((with_reducible first|refine wr ?_|refine A2 ?_ ?_|fail)<;>try simp only [go_sem,seval])
  exact A0g (u:=4) A0 rfl rfl (by simp) ⟨[],rfl⟩
theorem c_CloneHo (l:List Hd) (hl:l.length<=100000000000) (h0:l≠[]) (H:Hp) (cc:Nat):AC Tryz.prog 77 [A0z l] H cc (fun v H' c'=>v=.slc cc 0 l.length/\H'=H.upd cc ⟨4,true,A8 (l.map Hd.v)⟩/\c'=cc+1):=by
 refine AC.own (V:=fun id=>.slc id 0 l.length) (cs:=A8 (l.map Hd.v)) (u:=4) ?_ (by simp [DV.nlL,DV.nl,A9m]) (Z8 (A9m l)) (fun ρ ρ' id id' v h1 h2 h3=>by cases h3 with|slc _ _ _ cap t g1 g2 g3 g4 g5=>exact .slc _ _ _ _ t (by rw [<- h1];exact g1) g2 g3 g4 g5) H cc;have hub:A3n false 1 (A0z l) .snil=some (.bool false):=by cases l with|nil=>exact absurd rfl h0|cons x r=>rfl
 have hun:unit 4 (l.map Hd.v)=true:=W9 (F:=Hd.v) (u:=4) (fun _=>rfl) l;have hln:(A8 (l.map Hd.v)).length=l.length * 4:=(B8 (A4r _)).trans (by simp);refine AC.bodyT B2 rfl (A0A rfl) fun hfr=>?_;repeat' ((with_reducible first|refine wr ?_|refine A2 ?_ ?_|fail)<;>try simp only [go_sem,seval,hub,hun])
 refine D0 (E0 rfl (by omega) (by omega)) ?_;simp only [go_sem,seval];repeat' ((with_reducible first|refine wr ?_|refine A2 ?_ ?_|fail)<;>try simp only [go_sem,seval])
 refine ⟨_,Sym.nil.upd 1 ⟨4,true,A8 (l.map Hd.v)⟩,GL.less fun j=>?_,1,?_,rfl⟩
 ·by_cases e:j=1
  ·subst e;right;rw [A0,A0];try rfl
  ·left;rw [A3 e];rfl
 ·simp
end Go.Proofs.YthlpinppaclofaaGreatDoor
end

/-
  HELPERS of the claim: part 5 of its texts.
-/
import Derived.Test.YtnmkkggfgdfmeaaGreatDoorChwd
noncomputable section
set_option maxHeartbeats 4000000
set_option maxRecDepth 100000
set_option linter.unusedSimpArgs false
set_option linter.unusedVariables false
namespace Go.Proofs.YtnmkkggfgdfmeaaGreatDoor
open Go.Eng (IC IOper DReg IFn A7)
open Go.Sym Go.Pb
theorem v_md {ρ : Ren} {v:Value} {a b e:DV} (h:VRel ρ (.agg [a,b,.snil,e]) v):VRel ρ (.agg [a,b,.lst [],e]) v:=by
 obtain ⟨bb,rfl,k1,k2⟩:=h.agg_inv;refine .agg _ _ k1 fun j x y hx hy=>?_
 match j with
 | 0=>cases hx;exact k2 0 _ y rfl hy
 | 1=>cases hx;exact k2 1 _ y rfl hy
 | 2=>cases hx;exact (k2 2 _ y rfl hy).snil_lst
 | 3=>cases hx;exact k2 3 _ y rfl hy
 | _+4=>cases hx
theorem C7b {K H':Hp} {cc:Nat} {o:Option Nat} {a b e:DV} (l:List Hd) (hK:∀ i,cc<=i->K i=none) (ho:∀ i,o=some i->cc<=i) (hno:o=none->l=[]) (hb:∀ i,o=some i->H' i=some ⟨4,true,A4 (l.map Hd.v)⟩) (h:∀ j,j<cc->H' j=K j) :
  GL H' [.agg [a,b,B3 o l.length,e]] K [.agg [a,b,S5 l,e]]:=by
 cases o with
 | none =>
  obtain rfl:=hno rfl;exact (Q8 hK h).trans (GL.view fun ρ vs hA=>P8 (fun v h=>v_md h) vs hA)
 | some i =>
  have:=ho i rfl;exact GL.frzS (id:=i) (hb i rfl) rfl (fun j=>by
   by_cases hj:j<cc
   ·exact .inr ⟨by omega,(h j hj).symm⟩
   ·exact .inl (hK j (by omega))) (.cons _ _ _ _ (.agg _ _ (.cons _ _ _ _ (.same _) (.cons _ _ _ _ (.same _) (.cons _ _ _ _ (P1 (u:=4) (by simp) (A1l l) ⟨[],by simp⟩) (.cons _ _ _ _ (.same _) .nil))))) .nil)
theorem c_mode (L:List Tok) (E:Int) (hL:L.length<=1000000000) (f:Nat) (s:Rd) (r:Md × Rd) (h:A3g L E f s=some r) (hi:s.i<=L.length):RdC L E 77 [] s (r.1.v,r.2):=by
 intro H cc t ht htc;refine AC.body A9 isU77 (A0B rfl) fun hfr=>?_;show IW Tryz.prog 81 u77_1 ⟨B7 _,_,_⟩ (rt [.cell 2 4 true] _);unfold A3g at h;dsimp only at h;have i1:=J0 (E:=E) (x:=[109,111,100,101]) hi;generalize hs1:D6 L E s [109,111,100,101]=s1 at h i1;have i2:=K4 (E:=E) (x:=1) (by decide) i1;have i3:=K4 (E:=E) (x:=3) (by decide) i2;have i4:=J0 (E:=E) (x:=[123]) i3;repeat' ((with_reducible apply wr)<;>try simp only [go_sem,seval])
 refine AC.call (c_peek L E s _ _ t (by rw [A2 (by omega)];exact ht) (by omega)) ?_;rintro v H' c1 ⟨rfl,rfl⟩ hc1;have ne0:=T8 t cc c1 (by omega);simp only [go_sem,seval,ne0];repeat' ((with_reducible apply wr)<;>try simp only [go_sem,seval,ne0,A0,A1])
 refine AC.call (c_expect L E s _ _ t (by repeat (first|exact ht|rw [A2 (by omega)])) (by omega) (by omega) _) ?_;rintro v H' c2 ⟨rfl,rfl⟩ hc2;rw [hs1];simp only [go_sem,seval,ne0];repeat' ((with_reducible apply wr)<;>try simp only [go_sem,seval,ne0,A0,A1])
 refine AC.call (c_name L E s1 _ _ t (by repeat (first|exact A0|rw [A2 (by omega)])) (by omega) (by omega)) ?_;rintro v H' c3 ⟨rfl,rfl⟩ hc3;generalize (B2 L E s1 1).1.text=n at h ⊢;generalize (B2 L E s1 1).2=s2 at h i2 i3 i4 ⊢;simp only [go_sem,seval,ne0,A0,A1];repeat' ((with_reducible apply wr)<;>try simp only [go_sem,seval,ne0,A0,A1])
 refine AC.call (c_take L E s2 _ _ t (by repeat (first|exact A0|rw [A2 (by omega)])) (by omega) (by omega) 3) ?_;rintro v H' c4 ⟨rfl,rfl⟩ hc4;try dsimp only
 simp only [go_sem,seval,ne0,A0,A1];repeat' ((with_reducible apply wr)<;>try simp only [go_sem,seval,ne0,A0,A1])
 refine AC.call (c_expect L E (B2 L E s2 3).2 _ _ t (by repeat (first|exact A0|rw [A2 (by omega)])) (by omega) (by omega) _) ?_;rintro v H' c5 ⟨rfl,rfl⟩ hc5;generalize (B2 L E s2 3).1.value=z at h ⊢;generalize D6 L E (B2 L E s2 3).2 [123]=s3 at h i4 ⊢;generalize (B8 L E s).pos=p at h ⊢;cases hm:U9 L E f [] s3 with
 | none=>rw [hm] at h;cases h
 | some q =>
  obtain ⟨hl,s4⟩:=q;rw [hm] at h;dsimp only at h;cases h;simp only [go_sem,seval,ne0,A0,A1];repeat' ((with_reducible apply wr)<;>try simp only [go_sem,seval,ne0,A0,A1])
  refine B9 (fun _:Nat × Option Nat × List Hd × Rd=>[(0,.ptr t 0),(2,.ptr cc 0),(3,.ptr c1 0)]) (fun q=>C0 (((H.upd cc ⟨0,true,[.str [],I64 0,.snil,I64 0]⟩).upd c1 ⟨0,true,[.str n,I64 z,B3 q.2.1 q.2.2.1.length,I64 p]⟩).upd t (rdR L E q.2.2.2)) q.2.1 ⟨4,true,A4 (q.2.2.1.map Hd.v)⟩)
   (fun q c=>c1+1<=c/\q.1<=f/\q.2.2.2.i<=L.length/\(q.2.1=none->q.2.2.1=[])/\(∀ i,q.2.1=some i->c1<i/\i<c)/\q.2.2.1.length<=32/\U9 L E q.1 q.2.2.1 q.2.2.2=some (hl,s4)) (fun q=>q.1) (f,none,[],s3)
   (by simp [C1,tm,Tm.upd]) (fun j b hj=>?_) ⟨by omega,A0I _,i4,fun _=>rfl,(fun i hi=>by cases hi),by simp,hm⟩ ?_
  ·simp only [C0,A9p] at hj;by_cases e1:j=t
   ·subst e1;rw [A0] at hj ⊢;exact hj
   ·rw [A2 e1] at hj ⊢;by_cases e2:j=c1
    ·subst e2;rw [A0] at hj ⊢;exact hj
    ·rw [A2 e2] at hj ⊢;simp only [A2 e1,A2 e2];exact hj
  clear hm i1 i2 i3 i4;rintro ⟨g,o,l,u⟩ c ⟨hc,hg,hi5,hno,ho,hl1,hv⟩;dsimp only at hc hg hi5 hno ho hl1 hv ⊢;cases g with
  | zero=>simp [U9] at hv
  | succ g =>
  unfold U9 at hv;dsimp only at hv;have hHt:C0 (((H.upd cc ⟨0,true,[.str [],I64 0,.snil,I64 0]⟩).upd c1 ⟨0,true,[.str n,I64 z,B3 o l.length,I64 p]⟩).upd t (rdR L E u)) o ⟨4,true,A4 (l.map Hd.v)⟩ t=some (rdR L E u):=by rw [C7 (fun i hi=>by have:=ho i hi;omega),A0]
  repeat' ((with_reducible apply wr)<;>try simp only [go_sem,seval])
  refine AC.call (c_rdok L E u _ _ t hHt (by omega)) ?_;rintro v H' c6 ⟨rfl,rfl⟩ hc6;have hbx:(C0 (((H.upd cc ⟨0,true,[.str [],I64 0,.snil,I64 0]⟩).upd c1 ⟨0,true,[.str n,I64 z,B3 o l.length,I64 p]⟩).upd t (rdR L E u)) o ⟨4,true,A4 (l.map Hd.v)⟩) c1=some ⟨0,true,[.str n,I64 z,B3 o l.length,I64 p]⟩:=by rw [C7 (fun i hi=>by have:=ho i hi;omega),A2 (by omega),A0]
  have hbo:∀ i:Nat,o=some i->(C0 (((H.upd cc ⟨0,true,[.str [],I64 0,.snil,I64 0]⟩).upd c1 ⟨0,true,[.str n,I64 z,B3 o l.length,I64 p]⟩).upd t (rdR L E u)) o ⟨4,true,A4 (l.map Hd.v)⟩) i=some ⟨4,true,A4 (l.map Hd.v)⟩:=fun i hi=>by subst hi;exact A0
  have hbj:∀ j:Nat,j<cc->¬ j=t->(C0 (((H.upd cc ⟨0,true,[.str [],I64 0,.snil,I64 0]⟩).upd c1 ⟨0,true,[.str n,I64 z,B3 o l.length,I64 p]⟩).upd t (rdR L E u)) o ⟨4,true,A4 (l.map Hd.v)⟩) j=H j:=fun j h1 h2=>by rw [C7 (fun i hi=>by have:=ho i hi;omega),A2 h2,A2 (by omega),A2 (by omega)]
  have hb0:(C0 (((H.upd cc ⟨0,true,[.str [],I64 0,.snil,I64 0]⟩).upd c1 ⟨0,true,[.str n,I64 z,B3 o l.length,I64 p]⟩).upd t (rdR L E u)) o ⟨4,true,A4 (l.map Hd.v)⟩) cc=some ⟨0,true,[.str [],I64 0,.snil,I64 0]⟩:=by rw [C7 (fun i hi=>by have:=ho i hi;omega),A2 (by omega),A2 (by omega),A0]
  have hT:(B3 o l.length).one=true:=by cases o<;>rfl
  generalize hHH:C0 (((H.upd cc ⟨0,true,[.str [],I64 0,.snil,I64 0]⟩).upd c1 ⟨0,true,[.str n,I64 z,B3 o l.length,I64 p]⟩).upd t (rdR L E u)) o ⟨4,true,A4 (l.map Hd.v)⟩=HH at hHt hbx hbo hbj hb0 ⊢;have fin:∀ (u2:Rd) (e:DV) (x:Blk) (q1 q2:DV),GL ((HH.upd t (rdR L E u2)).upd cc x) [.agg [q1,q2,B3 o l.length,e]] (H.upd t (rdR L E u2)) [.agg [q1,q2,S5 l,e]]:=fun u2 e x q1 q2 =>
   C7b (cc:=cc) l (D5 hfr htc) (fun i hi=>by have:=ho i hi;omega) hno (fun i hi=>by have:=ho i hi;rw [A2 (by omega),A2 (by omega)];exact hbo i hi) (fun j hj=>by
    rw [A2 (by omega)];by_cases e1:j=t
    ·subst e1;rw [A0,A0]
    ·rw [A2 e1,A2 e1,hbj j hj e1])
  cases hok:okR u with
  | false =>
   rw [if_neg (by simp [hok])] at hv;have e1:l=hl:=congrArg Prod.fst (Option.some.inj hv);have e2:D6 L E u [125]=s4:=congrArg Prod.snd (Option.some.inj hv);subst e1 e2;simp only [go_sem,seval,hok];repeat' ((with_reducible apply wr)<;>try simp only [go_sem,seval,hok])
   refine AC.call (c_expect L E u _ _ t hHt (by omega) (by omega) _) ?_;rintro v H' c7 ⟨rfl,rfl⟩ hc7;simp only [go_sem,seval,ne0,A0,hbx,hb0,hT];repeat' ((with_reducible apply wr)<;>try simp only [go_sem,seval,ne0,A0,hbx,hb0,hT])
   refine F3 (B0v (by rfl) (by decide) (by clear hHH;cases o<;>rfl)) ?_;simp only [go_sem,seval,ne0,A0];repeat' ((with_reducible apply wr)<;>try simp only [go_sem,seval,ne0,A0])
   rw [E7 (rv4 rfl A0)];exact ⟨_,_,fin _ _ _ _ _,rfl,rfl⟩
  | true =>
   simp only [go_sem,seval,hok];repeat' ((with_reducible apply wr)<;>try simp only [go_sem,seval,hok])
   refine AC.call (c_is L E u _ _ t hHt (by omega) _) ?_;rintro v H' c7 ⟨rfl,rfl⟩ hc7;cases hq:isR L E u [125] with
   | true =>
    rw [if_neg (by simp [hq])] at hv;have e1:l=hl:=congrArg Prod.fst (Option.some.inj hv);have e2:D6 L E u [125]=s4:=congrArg Prod.snd (Option.some.inj hv);subst e1 e2;simp only [go_sem,seval,hq];repeat' ((with_reducible apply wr)<;>try simp only [go_sem,seval,hq])
    refine AC.call (c_expect L E u _ _ t hHt (by omega) (by omega) _) ?_;rintro v H' c8 ⟨rfl,rfl⟩ hc8;simp only [go_sem,seval,ne0,A0,hbx,hb0,hT];repeat' ((with_reducible apply wr)<;>try simp only [go_sem,seval,ne0,A0,hbx,hb0,hT])
    refine F3 (B0v (by rfl) (by decide) (by clear hHH;cases o<;>rfl)) ?_;simp only [go_sem,seval,ne0,A0];repeat' ((with_reducible apply wr)<;>try simp only [go_sem,seval,ne0,A0])
    rw [E7 (rv4 rfl A0)];exact ⟨_,_,fin _ _ _ _ _,rfl,rfl⟩
   | false =>
    rw [if_pos ⟨hok,hq⟩] at hv;simp only [go_sem,seval,hq];repeat' ((with_reducible apply wr)<;>try simp only [go_sem,seval,hq])
    refine AC.call (c_is L E u _ _ t hHt (by omega) _) ?_;rintro v H' c8 ⟨rfl,rfl⟩ hc8;cases hon:isR L E u [111,110] with
    | false =>
     rw [if_pos hon] at hv;have e1:l=hl:=congrArg Prod.fst (Option.some.inj hv);have e2:M7 L E u=s4:=congrArg Prod.snd (Option.some.inj hv);subst e1 e2;simp only [go_sem,seval,hon];repeat' ((with_reducible apply wr)<;>try simp only [go_sem,seval,hon])
     refine AC.call (c_syntax L E u _ _ t hHt (by omega)) ?_;rintro v H' c9 ⟨rfl,rfl⟩ hc9;simp only [go_sem,seval,ne0,A0,hbx,hb0,hT];repeat' ((with_reducible apply wr)<;>try simp only [go_sem,seval,ne0,A0,hbx,hb0,hT])
     refine F3 (B0v (by rfl) (by decide) (by clear hHH;cases o<;>rfl)) ?_;simp only [go_sem,seval,ne0,A0];repeat' ((with_reducible apply wr)<;>try simp only [go_sem,seval,ne0,A0])
     rw [E7 (rv4 rfl A0)];exact ⟨_,_,fin _ _ _ _ _,rfl,rfl⟩
    | true =>
     rw [if_neg (by simp [hon])] at hv;have hlen:A5h (B3 o l.length)=some (I64 l.length):=by
      cases o with
      | none=>rw [hno rfl];rfl
      | some b=>rfl
     have hwl:IntKind.i64.wrap ((l.length:Int)+1)=(l.length:Int)+1:=w64 (by omega) (by omega);simp only [go_sem,seval,hon];repeat' ((with_reducible apply wr)<;>try simp only [go_sem,seval,hon,hbx,hlen,hwl])
     refine AC.call (c_limit L E u _ _ t hHt (by omega) _ _ _) ?_;rintro v H' c9 ⟨rfl,rfl⟩ hc9;have j1:(C8 L E u ((l.length:Int)+1) 32 9).i<=L.length:=by rw [F6];exact hi5
     generalize hlq:C8 L E u ((l.length:Int)+1) 32 9=u1 at hv j1 ⊢;have j2:=J0 (E:=E) (x:=[111,110]) j1;simp only [go_sem,seval];repeat' ((with_reducible apply wr)<;>try simp only [go_sem,seval])
     refine AC.call (c_peek L E u1 _ _ t A0 (by omega)) ?_;rintro v H' c10 ⟨rfl,rfl⟩ hc10;have ne0:=W0 t cc c1 c10 (by omega);simp only [go_sem,seval,ne0];repeat' ((with_reducible apply wr)<;>try simp only [go_sem,seval,ne0,A0,A1])
     refine AC.call (c_expect L E u1 _ _ t (by repeat (first|exact A0|rw [A2 (by omega)])) (by omega) (by omega) _) ?_;rintro v H' c11 ⟨rfl,rfl⟩ hc11;generalize hu2:D6 L E u1 [111,110]=u2 at hv j2 ⊢;simp only [go_sem,seval,ne0];repeat' ((with_reducible first|apply wr|refine cpc c_trigs31 ?_|fail)<;>try simp only [go_sem,seval,ne0,A0,A1])
     refine AC.call (c_among L E u2 _ _ t (by repeat (first|exact A0|rw [A2 (by omega)])) (by omega) E6 (by decide)) ?_;rintro v H' c12 ⟨rfl,rfl⟩ hc12;have hkr : -1<=C4 L E u2 E6/\C4 L E u2 E6<6:=A2p L E u2 E6 0;have hnn:0<=C4 L E u2 E6->okR u2=true/\u2.i<L.length:=fun h=>⟨(G3 h).1,(G3 h).2.1⟩;generalize C4 L E u2 E6=k at hv hkr hnn;by_cases hk:k<0
     ·rw [if_pos hk] at hv;have e1:l=hl:=congrArg Prod.fst (Option.some.inj hv);have e2:M7 L E u2=s4:=congrArg Prod.snd (Option.some.inj hv);subst e1 e2;have hdk:decide (k<0)=true:=by simpa using hk
      simp only [go_sem,seval,ne0,hdk];repeat' ((with_reducible apply wr)<;>try simp only [go_sem,seval,hdk])
      refine AC.call (c_syntax L E u2 _ _ t (by repeat (first|exact A0|rw [A2 (by omega)])) (by omega)) ?_;rintro v H' c13 ⟨rfl,rfl⟩ hc13;simp only [go_sem,seval,ne0,A0,hbx,hb0,hT];repeat' ((with_reducible apply wr)<;>try simp only [go_sem,seval,ne0,A0,hbx,hb0,hT])
      refine F3 (B0v (by rfl) (by decide) (by clear hHH;cases o<;>rfl)) ?_;simp only [go_sem,seval,ne0,A0];repeat' ((with_reducible apply wr)<;>try simp only [go_sem,seval,ne0,A0])
      rw [E7 (rv4 rfl A0)];refine ⟨_,_,C7b (cc:=cc) l (D5 hfr htc) (fun i hi=>by have:=ho i hi;omega) hno (fun i hi=>?_) (fun j hj=>?_),rfl,rfl⟩
      ·have:=ho i hi;dsimp only
       repeat rw [A2 (by omega)]
       exact hbo i hi
      ·by_cases e1:j=t
       ·subst e1;dsimp only;rw [A2 (by omega),A0,A0]
       ·dsimp only
        repeat rw [A2 (by omega)]
        exact hbj j hj e1
     rw [if_neg hk] at hv;have hdk:decide (k<0)=false:=by simpa using hk
     obtain ⟨hok2,hi2⟩:=hnn (by omega);have hw2:IntKind.i64.wrap ((u2.i:Int)+1)=((u2.i+1:Nat):Int):=by rw [w64 (by omega) (by omega)];omega
     have hwk:IntKind.i64.wrap (1+k)=1+k:=w64 (by omega) (by omega);have hn2:(B1 u2).i<=L.length:=hi2;have ht2:=K4 (E:=E) (x:=1) (by decide) hn2;have hl32:l.length+1<=32:=by
      have hok1:okR u1=true:=by
       cases hz:okR u1 with
       | true=>rfl
       | false =>
        have:D6 L E u1 [111,110]=M7 L E u1:=by unfold D6 isR;rw [hz];rfl
        rw [<- hu2,this,Z1] at hok2;cases hok2
      have:=(F9 (L:=L) (E:=E) (s:=u) (n:=(l.length:Int)+1) (m:=32) (e:=9) (by decide) (by rw [hlq];exact hok1)).2.1;omega
     simp only [go_sem,seval,ne0,hdk];by_cases hk2:2<=k
     ·rw [if_pos hk2,if_pos hk2] at hv;have hd2:decide (k≥2)=true:=by simpa using hk2
      repeat' ((with_reducible apply wr)<;>try simp only [go_sem,seval,hdk,hd2,hw2,hwk,ne0,A0,A1])
      refine AC.call (c_name L E (B1 u2) _ _ t (by repeat (first|exact A0|rw [A2 (by omega)])) (by omega) (by omega)) ?_;rintro v H' c14 ⟨rfl,rfl⟩ hc14;simp only [go_sem,seval,ne0,A0,A1];repeat' ((with_reducible apply wr)<;>try simp only [go_sem,seval,ne0,A0,A1])
      cases hb:L1 L E g 1 (B2 L E (B1 u2) 1).2 with
      | none=>rw [hb] at hv;cases hv
      | some qb =>
       obtain ⟨bd,s6⟩:=qb;rw [hb] at hv;dsimp only at hv;have j6:=(II.all g).1 _ _ _ hb ht2;refine AC.call ((c_stm L E hL g).2.1 1 (B2 L E (B1 u2) 1).2 (bd,s6) (by decide) (by decide) hb ht2 _ _ t (by repeat (first|exact A0|rw [A2 (by omega)])) (by omega)) ?_;rintro v H' c15 ⟨rfl,rfl⟩ hc15;try dsimp only
       have ne0:=A0q t cc c1 c10 c15 (by omega);simp only [go_sem,seval,ne0,A0,A1,hbx];repeat' ((with_reducible apply wr)<;>try simp only [go_sem,seval,ne0,A0,A1,hbx])
       have hl4:(A4 (l.map Hd.v)).length=l.length * 4:=C2 (u:=4) (A1l _) |>.trans (by simp);refine F3 (F0 (cs:=A4 (l.map Hd.v)) (fun e=>by rw [hno e];exact ⟨rfl,rfl⟩) (fun i hi=>?_) hl4 (by omega) (by omega) (by omega)) ?_
       ·have:=ho i hi
        repeat rw [A2 (by omega)]
        exact hbo i hi
       have hdx:∀ X:Hp,H9 X o c1=X c1:=fun X=>E9 (fun i hi=>by have:=ho i hi;omega);have ne0:=A7z t cc c1 c10 c15 (c15+1) (by omega);simp only [go_sem,seval,ne0,A0,A1,hdx,hbx];repeat' ((with_reducible apply wr)<;>try simp only [go_sem,seval,ne0,A0,A1,hdx,hbx])
       refine ⟨(g,some (c15+1),l++[⟨1+k,(B2 L E (B1 u2) 1).1.text,bd,(B8 L E u1).pos⟩],s6),?_,inv ⟨by omega,by simp only;omega,j6,(fun h=>by cases h),(fun i hi=>by cases hi;omega),by simp only [A0A,A0H];omega,hv⟩,by simp only;omega⟩;intro j b hj;simp only [C0,A3x,A0A,A0H,A0W,C5] at hj;by_cases e1:j=c15+1
       ·subst e1;rw [A0] at hj;rw [A2 (by omega),A0, <- hj];rfl
       rw [A2 e1] at hj;by_cases e2:j=t
       ·subst e2;rw [A0] at hj;rw [A2 (by omega),A2 (by omega),E9 (fun i hi=>by have:=ho i hi;omega),A2 (by omega),A2 (by omega),A0];exact hj
       rw [A2 e2] at hj;by_cases e3:j=c1
       ·subst e3;rw [A0] at hj ⊢;exact hj
       rw [A2 e3] at hj ⊢;by_cases e4:j=cc
       ·subst e4;rw [A0] at hj;rw [A2 (by omega),E9 (fun i hi=>by have:=ho i hi;omega)]
        repeat rw [A2 (by omega)]
        rw [hb0];exact hj
       ·rw [A2 e4] at hj;have hjc:j<cc:=Classical.byContradiction fun h=>by rw [hfr j (by omega)] at hj;cases hj
        rw [A2 (by omega),E9 (fun i hi=>by have:=ho i hi;omega)]
        repeat rw [A2 (by omega)]
        rw [hbj j hjc e2];exact hj
     ·rw [if_neg hk2,if_neg hk2] at hv;have hd2:decide (k≥2)=false:=by simpa using hk2
      repeat' ((with_reducible apply wr)<;>try simp only [go_sem,seval,hdk,hd2,hw2,hwk,ne0,A0,A1])
      cases hb:L1 L E g 1 (B1 u2) with
      | none=>rw [hb] at hv;cases hv
      | some qb =>
       obtain ⟨bd,s6⟩:=qb;rw [hb] at hv;dsimp only at hv;have j6:=(II.all g).1 _ _ _ hb hn2;refine AC.call ((c_stm L E hL g).2.1 1 (B1 u2) (bd,s6) (by decide) (by decide) hb hn2 _ _ t (by repeat (first|exact A0|rw [A2 (by omega)])) (by omega)) ?_;rintro v H' c15 ⟨rfl,rfl⟩ hc15;try dsimp only
       have ne0:=A0q t cc c1 c10 c15 (by omega);simp only [go_sem,seval,ne0,A0,A1,hbx];repeat' ((with_reducible apply wr)<;>try simp only [go_sem,seval,ne0,A0,A1,hbx])
       have hl4:(A4 (l.map Hd.v)).length=l.length * 4:=C2 (u:=4) (A1l _) |>.trans (by simp);refine F3 (F0 (cs:=A4 (l.map Hd.v)) (fun e=>by rw [hno e];exact ⟨rfl,rfl⟩) (fun i hi=>?_) hl4 (by omega) (by omega) (by omega)) ?_
       ·have:=ho i hi
        repeat rw [A2 (by omega)]
        exact hbo i hi
       have hdx:∀ X:Hp,H9 X o c1=X c1:=fun X=>E9 (fun i hi=>by have:=ho i hi;omega);have ne0:=A7z t cc c1 c10 c15 (c15+1) (by omega);simp only [go_sem,seval,ne0,A0,A1,hdx,hbx];repeat' ((with_reducible apply wr)<;>try simp only [go_sem,seval,ne0,A0,A1,hdx,hbx])
       refine ⟨(g,some (c15+1),l++[⟨1+k,[],bd,(B8 L E u1).pos⟩],s6),?_,inv ⟨by omega,by simp only;omega,j6,(fun h=>by cases h),(fun i hi=>by cases hi;omega),by simp only [A0A,A0H];omega,hv⟩,by simp only;omega⟩;intro j b hj;simp only [C0,A3x,A0A,A0H,A0W,C5] at hj;by_cases e1:j=c15+1
       ·subst e1;rw [A0] at hj;rw [A2 (by omega),A0, <- hj];rfl
       rw [A2 e1] at hj;by_cases e2:j=t
       ·subst e2;rw [A0] at hj;rw [A2 (by omega),A2 (by omega),E9 (fun i hi=>by have:=ho i hi;omega),A2 (by omega),A2 (by omega),A0];exact hj
       rw [A2 e2] at hj;by_cases e3:j=c1
       ·subst e3;rw [A0] at hj ⊢;exact hj
       rw [A2 e3] at hj ⊢;by_cases e4:j=cc
       ·subst e4;rw [A0] at hj;rw [A2 (by omega),E9 (fun i hi=>by have:=ho i hi;omega)]
        repeat rw [A2 (by omega)]
        rw [hb0];exact hj
       ·rw [A2 e4] at hj;have hjc:j<cc:=Classical.byContradiction fun h=>by rw [hfr j (by omega)] at hj;cases hj
        rw [A2 (by omega),E9 (fun i hi=>by have:=ho i hi;omega)]
        repeat rw [A2 (by omega)]
        rw [hbj j hjc e2];exact hj
theorem v_ru {ρ : Ren} {v:Value} {a:DV} (h:VRel ρ (.agg [a,.snil]) v):VRel ρ (.agg [a,.lst []]) v:=by
 obtain ⟨bb,rfl,k1,k2⟩:=h.agg_inv;refine .agg _ _ k1 fun j x y hx hy=>?_
 match j with
 | 0=>cases hx;exact k2 0 _ y rfl hy
 | 1=>cases hx;exact (k2 1 _ y rfl hy).snil_lst
 | _+2=>cases hx
theorem C7a {K H':Hp} {cc:Nat} {o:Option Nat} {a:DV} (l:List Md) (hK:∀ i,cc<=i->K i=none) (ho:∀ i,o=some i->cc<=i) (hno:o=none->l=[]) (hb:∀ i,o=some i->H' i=some ⟨4,true,A4 (l.map Md.v)⟩) (h:∀ j,j<cc->H' j=K j) :
  GL H' [.agg [a,B3 o l.length]] K [.agg [a,E0 l]]:=by
 cases o with
 | none =>
  obtain rfl:=hno rfl;exact (Q8 hK h).trans (GL.view fun ρ vs hA=>P8 (fun v h=>v_ru h) vs hA)
 | some i =>
  have:=ho i rfl;exact GL.frzS (id:=i) (hb i rfl) rfl (fun j=>by
   by_cases hj:j<cc
   ·exact .inr ⟨by omega,(h j hj).symm⟩
   ·exact .inl (hK j (by omega))) (.cons _ _ _ _ (.agg _ _ (.cons _ _ _ _ (.same _) (.cons _ _ _ _ (P1 (u:=4) (by simp) (A6c l) ⟨[],by simp⟩) .nil))) .nil)
theorem rv2 {s:Sym.St} {x i u:Nat} {a b:DV} {o:Bool} (h:s.T x=.ptr i 0) (hb:s.H i=some ⟨u,o,[a,b]⟩):A4e s [.cell x 2 true]=some (.agg [a,b]):=by
 simp only [A4e,A2h,h,ldv,ldB,hb];rfl
theorem c_rules (L:List Tok) (E:Int) (hL:L.length<=1000000000) (hv:∀ x∈L,0<=x.value/\x.value<=9223372036854775807) (f:Nat) (s:Rd) (r:Ru × Rd) (h:A4a L E f s=some r) (hi:s.i<=L.length):RdC L E 37 [] s (r.1.v,r.2):=by
 intro H cc t ht htc;refine AC.body A9 isU37 (A0B rfl) fun hfr=>?_;show IW Tryz.prog 65 u37_1 ⟨B7 _,_,_⟩ (rt [.cell 2 2 true] _);unfold A4a at h;cases hd:T2 L E f [] s with
 | none=>rw [hd] at h;cases h
 | some q =>
 obtain ⟨dl,s1⟩:=q;rw [hd] at h;dsimp only at h;cases hm:R9 L E f [] s1 with
 | none=>rw [hm] at h;cases h
 | some q =>
 obtain ⟨ml,s2⟩:=q;rw [hm] at h;cases h;have ne0:=T8 t cc (cc+1) (by omega);repeat' ((with_reducible first|apply wr|refine cpc c_decls31 ?_|fail)<;>try simp only [go_sem,seval,ne0,A0,A1])
 refine AC.call (c_among L E s _ _ t (by repeat (first|exact ht|rw [A2 (by omega)])) (by omega) E1 (by decide)) ?_;rintro v H' c1 ⟨rfl,rfl⟩ hc1;simp only [go_sem,seval,ne0];repeat' ((with_reducible apply wr)<;>try simp only [go_sem,seval,ne0])
 refine B9 (fun q:Nat × Option Nat × List Dc × Rd=>[(0,.ptr t 0),(2,.ptr cc 0),(3,.ptr (cc+1) 0),(4,I64 (C4 L E q.2.2.2 E1))]) (fun q=>C0 (((H.upd cc ⟨0,true,[.snil,.snil]⟩).upd t (rdR L E q.2.2.2)).upd (cc+1) ⟨0,true,[B3 q.2.1 q.2.2.1.length,.snil]⟩) q.2.1 ⟨4,true,A4 (q.2.2.1.map Dc.v)⟩)
  (fun q c=>cc+2<=c/\q.1<=f/\q.2.2.2.i<=L.length/\(q.2.1=none->q.2.2.1=[])/\(∀ i,q.2.1=some i->cc+1<i/\i<c)/\q.2.2.1.length<=128/\T2 L E q.1 q.2.2.1 q.2.2.2=some (dl,s1)) (fun q=>q.1) (f,none,[],s)
  (by simp [C1,tm,Tm.upd]) (fun j b hj=>?_) ⟨by omega,A0I _,hi,fun _=>rfl,(fun i hi=>by cases hi),by simp,hd⟩ ?_
 ·simp only [C0,A9p] at hj;by_cases e1:j=cc+1
  ·subst e1;rw [A0] at hj ⊢;exact hj
  ·rw [A2 e1] at hj ⊢;by_cases e2:j=t
   ·subst e2;rw [A0] at hj;rw [A2 (by omega),ht];exact hj
   ·rw [A2 e2] at hj;exact hj
 clear hd;rintro ⟨g,o,l,u⟩ c ⟨hc,hg,hi5,hno,ho,hl1,hv0⟩;dsimp only at hc hg hi5 hno ho hl1 hv0 ⊢;cases g with
 | zero=>simp [T2] at hv0
 | succ g =>
 unfold T2 at hv0;dsimp only at hv0;have hkr : -1<=C4 L E u E1/\C4 L E u E1<8:=A2p L E u E1 0;have hw:IntKind.i64.wrap ((l.length:Int)+1)=(l.length:Int)+1:=w64 (by omega) (by omega);have hlen:A5h (B3 o l.length)=some (I64 l.length):=by
  cases o with
  | none=>rw [hno rfl];rfl
  | some b=>rfl
 by_cases hk:C4 L E u E1<0
 ·rw [if_pos hk] at hv0;have hdk:decide (C4 L E u E1≥0)=false:=by simp;omega
  have e1:l=dl:=congrArg Prod.fst (Option.some.inj hv0);have e2:u=s1:=congrArg Prod.snd (Option.some.inj hv0);subst e1 e2;repeat' ((with_reducible apply wr)<;>try simp only [go_sem,seval,hdk])
  clear hdk hkr hk hv0;refine IW.keep [0,2,3] [.ptr t 0,.ptr cc 0,.ptr (cc+1) 0] (C1s (Hb:=(H.upd cc ⟨0,true,[.snil,.snil]⟩).upd t (rdR L E u)) (ci:=cc+1) (u:=4) (pre:=[]) (suf:=[.snil]) (xs:=l.map Dc.v) (by simp [DV.one]) (fun h=>by rw [hno h];rfl) (fun i hi=>by have:=ho i hi;exact ⟨by omega,by rw [A2 (by omega),A2 (by omega)];exact hfr i (by omega)⟩) (by simp) (A1q _)) ?_;refine B9 (fun q:Nat × Option Nat × List Md × Rd=>[(0,.ptr t 0),(2,.ptr cc 0),(3,.ptr (cc+1) 0)]) (fun q=>C0 (((H.upd cc ⟨0,true,[.snil,.snil]⟩).upd t (rdR L E q.2.2.2)).upd (cc+1) ⟨0,true,[D4 l,B3 q.2.1 q.2.2.1.length]⟩) q.2.1 ⟨4,true,A4 (q.2.2.1.map Md.v)⟩)
   (fun q c=>cc+2<=c/\q.1<=f/\q.2.2.2.i<=L.length/\(q.2.1=none->q.2.2.1=[])/\(∀ i,q.2.1=some i->cc+1<i/\i<c)/\q.2.2.1.length<=16/\R9 L E q.1 q.2.2.1 q.2.2.2=some (ml,s2)) (fun q=>q.1) (f,none,[],u)
   (by simp [C1,tm,Tm.upd]) (fun j b hj=>hj) ⟨by omega,A0I _,hi5,fun _=>rfl,(fun i hi=>by cases hi),by simp,hm⟩ ?_
  clear hm hlen hw;clear hno ho hl1 hi5;rintro ⟨g,o,m,u⟩ c ⟨hc,hg,hi5,hno,ho,hl1,hv⟩;dsimp only at hc hg hi5 hno ho hl1 hv ⊢;cases g with
  | zero=>simp [R9] at hv
  | succ g =>
  unfold R9 at hv;dsimp only at hv;have hw:IntKind.i64.wrap ((m.length:Int)+1)=(m.length:Int)+1:=w64 (by omega) (by omega);have hlen:A5h (B3 o m.length)=some (I64 m.length):=by
   cases o with
   | none=>rw [hno rfl];rfl
   | some b=>rfl
  have hHt:C0 (((H.upd cc ⟨0,true,[.snil,.snil]⟩).upd t (rdR L E u)).upd (cc+1) ⟨0,true,[D4 l,B3 o m.length]⟩) o ⟨4,true,A4 (m.map Md.v)⟩ t=some (rdR L E u):=by rw [C7 (fun i hi=>by have:=ho i hi;omega),A2 (by omega),A0]
  have hbx:C0 (((H.upd cc ⟨0,true,[.snil,.snil]⟩).upd t (rdR L E u)).upd (cc+1) ⟨0,true,[D4 l,B3 o m.length]⟩) o ⟨4,true,A4 (m.map Md.v)⟩ (cc+1)=some ⟨0,true,[D4 l,B3 o m.length]⟩:=by rw [C7 (fun i hi=>by have:=ho i hi;omega),A0]
  have hbo:∀ i:Nat,o=some i->C0 (((H.upd cc ⟨0,true,[.snil,.snil]⟩).upd t (rdR L E u)).upd (cc+1) ⟨0,true,[D4 l,B3 o m.length]⟩) o ⟨4,true,A4 (m.map Md.v)⟩ i=some ⟨4,true,A4 (m.map Md.v)⟩:=fun i hi=>by subst hi;exact A0
  have hbj:∀ j:Nat,j<cc->¬ j=t->C0 (((H.upd cc ⟨0,true,[.snil,.snil]⟩).upd t (rdR L E u)).upd (cc+1) ⟨0,true,[D4 l,B3 o m.length]⟩) o ⟨4,true,A4 (m.map Md.v)⟩ j=H j:=fun j h1 h2=>by rw [C7 (fun i hi=>by have:=ho i hi;omega),A2 (by omega),A2 h2,A2 (by omega)]
  have hb0:C0 (((H.upd cc ⟨0,true,[.snil,.snil]⟩).upd t (rdR L E u)).upd (cc+1) ⟨0,true,[D4 l,B3 o m.length]⟩) o ⟨4,true,A4 (m.map Md.v)⟩ cc=some ⟨0,true,[.snil,.snil]⟩:=by rw [C7 (fun i hi=>by have:=ho i hi;omega),A2 (by omega),A2 (by omega),A0]
  have hbn:∀ j:Nat,c<=j->C0 (((H.upd cc ⟨0,true,[.snil,.snil]⟩).upd t (rdR L E u)).upd (cc+1) ⟨0,true,[D4 l,B3 o m.length]⟩) o ⟨4,true,A4 (m.map Md.v)⟩ j=none:=fun j h1=>by rw [C7 (fun i hi=>by have:=ho i hi;omega),A2 (by omega),A2 (by omega),A2 (by omega)];exact hfr j (by omega)
  have hT:(B3 o m.length).one=true:=by cases o<;>rfl
  generalize hHH:C0 (((H.upd cc ⟨0,true,[.snil,.snil]⟩).upd t (rdR L E u)).upd (cc+1) ⟨0,true,[D4 l,B3 o m.length]⟩) o ⟨4,true,A4 (m.map Md.v)⟩=HH at hHt hbx hbo hbj hb0 hbn ⊢;have fin:∀ (u2:Rd) (x:Blk),GL ((HH.upd t (rdR L E u2)).upd cc x) [.agg [D4 l,B3 o m.length]] (H.upd t (rdR L E u2)) [.agg [D4 l,E0 m]]:=fun u2 x =>
   C7a (cc:=cc) m (D5 hfr htc) (fun i hi=>by have:=ho i hi;omega) hno (fun i hi=>by have:=ho i hi;rw [A2 (by omega),A2 (by omega)];exact hbo i hi) (fun j hj=>by
    rw [A2 (by omega)];by_cases e1:j=t
    ·subst e1;rw [A0,A0]
    ·rw [A2 e1,A2 e1,hbj j hj e1])
  have fin0:∀ (x:Blk),GL (HH.upd cc x) [.agg [D4 l,B3 o m.length]] (H.upd t (rdR L E u)) [.agg [D4 l,E0 m]]:=fun x=>by
   have h1:=fin u x
   rwa [upd_same hHt] at h1
  repeat' ((with_reducible apply wr)<;>try simp only [go_sem,seval])
  refine AC.call (c_rdok L E u _ _ t hHt (by omega)) ?_;rintro v H' c2 ⟨rfl,rfl⟩ hc2;cases hok:okR u with
  | false =>
   rw [if_neg (by simp [hok])] at hv;have e1:m=ml:=congrArg Prod.fst (Option.some.inj hv);have e2:u=s2:=congrArg Prod.snd (Option.some.inj hv);subst e1 e2;have ne0:=T8 t cc (cc+1) (by omega);simp only [go_sem,seval,hok,hbx,ne0,hT,hb0];repeat' ((with_reducible apply wr)<;>try simp only [go_sem,seval,hok,hHt,hbx,ne0,hT])
   rw [hb0];refine F3 (B0v (by rfl) (by decide) (by clear hHH;cases o<;>rfl)) ?_;simp only [go_sem,seval,ne0,A0];repeat' ((with_reducible apply wr)<;>try simp only [go_sem,seval,ne0,A0])
   rw [E7 (rv2 rfl A0)];exact ⟨_,_,fin0 _,rfl,rfl⟩
  | true =>
   by_cases hlt:u.i<L.length
   ·rw [if_pos ⟨hok,hlt⟩] at hv;have hdl:decide ((u.i:Int)<(L.length:Int))=true:=by simpa using hlt
    simp only [go_sem,seval,hok,hHt,hdl];repeat' ((with_reducible apply wr)<;>try simp only [go_sem,seval,hok,hHt,hdl])
    refine AC.call (c_is L E u _ _ t hHt (by omega) _) ?_;rintro v H' c3 ⟨rfl,rfl⟩ hc3;cases hmo:isR L E u [109,111,100,101] with
    | false =>
     rw [if_pos hmo] at hv;have e1:m=ml:=congrArg Prod.fst (Option.some.inj hv);have e2:M7 L E u=s2:=congrArg Prod.snd (Option.some.inj hv);subst e1 e2;have ne0:=T8 t cc (cc+1) (by omega);simp only [go_sem,seval,hmo];repeat' ((with_reducible apply wr)<;>try simp only [go_sem,seval,hmo])
     refine AC.call (c_syntax L E u _ _ t hHt (by omega)) ?_;rintro v H' c4 ⟨rfl,rfl⟩ hc4;simp only [go_sem,seval,ne0,A0,hbx,hb0,hT];repeat' ((with_reducible apply wr)<;>try simp only [go_sem,seval,ne0,A0,hbx,hb0,hT])
     refine F3 (B0v (by rfl) (by decide) (by clear hHH;cases o<;>rfl)) ?_;simp only [go_sem,seval,ne0,A0];repeat' ((with_reducible apply wr)<;>try simp only [go_sem,seval,ne0,A0])
     rw [E7 (rv2 rfl A0)];exact ⟨_,_,fin _ _,rfl,rfl⟩
    | true =>
     rw [if_neg (by rw [hmo];decide)] at hv;simp only [go_sem,seval,hmo];repeat' ((with_reducible apply wr)<;>try simp only [go_sem,seval,hmo,hbx,hlen,hw])
     refine AC.call (c_limit L E u _ _ t hHt (by omega) _ _ _) ?_;rintro v H' c4 ⟨rfl,rfl⟩ hc4;have j1:(C8 L E u ((m.length:Int)+1) 16 9).i=u.i:=F6;have j2:=fun h=>F9 (L:=L) (E:=E) (s:=u) (n:=(m.length:Int)+1) (m:=16) (e:=9) (by decide) h;generalize C8 L E u ((m.length:Int)+1) 16 9=u1 at hv j1 j2 ⊢;simp only [go_sem,seval];repeat' ((with_reducible apply wr)<;>try simp only [go_sem,seval])
     refine AC.call (c_rdok L E u1 _ _ t A0 (by omega)) ?_;rintro v H' c5 ⟨rfl,rfl⟩ hc5;cases hok1:okR u1 with
     | false =>
      rw [if_neg (by rw [hok1];decide)] at hv;simp only [go_sem,seval,hok1];repeat' ((with_reducible apply wr)<;>try simp only [go_sem,seval,hok1])
      refine ⟨(g,o,m,u1),?_,inv ⟨by omega,by simp only;omega,by rw [j1];exact hi5,hno,(fun i hi=>by have:=ho i hi;omega),hl1,hv⟩,by simp only;omega⟩;intro j b hj;by_cases e2:j=t
      ·subst e2;rw [C7 (fun i hi=>by have:=ho i hi;omega),A2 (by omega),A0] at hj;rw [A0];exact hj
      ·rw [A2 e2, <- hHH];cases o with
       | none =>
        simp only [C0] at hj ⊢;by_cases e1:j=cc+1
        ·subst e1;rw [A0] at hj ⊢;exact hj
        ·rw [A2 e1,A2 e2] at hj ⊢;exact hj
       | some i =>
        simp only [C0] at hj ⊢;by_cases e0:j=i
        ·subst e0;rw [A0] at hj ⊢;exact hj
        rw [A2 e0] at hj ⊢;by_cases e1:j=cc+1
        ·subst e1;rw [A0] at hj ⊢;exact hj
        ·rw [A2 e1,A2 e2] at hj ⊢;exact hj
     | true =>
      rw [if_pos hok1] at hv;obtain ⟨-,j3,rfl⟩:=j2 hok1;cases hmd:A3g L E g u1 with
      | none=>rw [hmd] at hv;cases hv
      | some qm =>
       obtain ⟨md,u2⟩:=qm;rw [hmd] at hv;dsimp only at hv;have j6:=C6u hmd hi5;have ne0:=T8 t cc (cc+1) (by omega);simp only [go_sem,seval,hok1,ne0,A0,A1,hbx];repeat' ((with_reducible apply wr)<;>try simp only [go_sem,seval,hok1,ne0,A0,A1,hbx])
       refine AC.call (c_mode L E hL g u1 (md,u2) hmd hi5 _ _ t A0 (by omega)) ?_;rintro v H' c6 ⟨rfl,rfl⟩ hc6;dsimp only;have ne0:=A0q t cc (cc+1) c6 (c6+1) (by omega);simp only [go_sem,seval,ne0,A0,A1,hbx];repeat' ((with_reducible apply wr)<;>try simp only [go_sem,seval,ne0,A0,A1,hbx])
       refine ⟨⟨by rw [A2 (by omega)];exact hbn _ (by omega),by rw [A2 (by omega)];exact hbn _ (by omega)⟩,?_⟩;have hl4:(A4 (m.map Md.v)).length=m.length * 4:=C2 (u:=4) (A6c _) |>.trans (by simp);repeat' ((with_reducible apply wr)<;>try simp only [go_sem,seval,ne0,A0,A1,hbx])
       rw [F0 (cs:=A4 (m.map Md.v)) (fun e=>by rw [hno e];exact ⟨rfl,rfl⟩) (fun i hi=>by have:=ho i hi;rw [A2 (by omega),A2 (by omega)];exact hbo i hi) hl4 (by omega) (by omega) (by omega)];have hdx:∀ X:Hp,H9 X o (cc+1)=X (cc+1):=fun X=>E9 (fun i hi=>by have:=ho i hi;omega);have ne0:=A0q t cc (cc+1) (c5+4) c6 (by omega);simp only [go_sem,seval,ne0,A0,A1,hdx,hbx];repeat' ((with_reducible apply wr)<;>try simp only [go_sem,seval,ne0,A0,A1,hdx,hbx])
       refine ⟨(g,some c6,m++[md],u2),?_,inv ⟨by omega,by simp only;omega,j6,(fun h=>by cases h),(fun i hi=>by cases hi;omega),by simp only [A0A,A0H];omega,hv⟩,by simp only;omega⟩;intro j b hj;simp only [C0,A3x,A0A,A0H,A0W,C5] at hj;by_cases e1:j=cc+1
       ·subst e1;by_cases e3:cc+1=c6
        ·omega
        rw [A2 e3,A0] at hj;rw [A0];exact hj
       rw [A2 e1];by_cases e0:j=c6
       ·subst e0;rw [A0] at hj;rw [A0, <- hj];rfl
       rw [A2 e0] at hj ⊢;rw [A2 e1] at hj;by_cases e2:j=t
       ·subst e2;rw [A0] at hj;rw [E9 (fun i hi=>by have:=ho i hi;omega),A2 (by omega),A0];exact hj
       rw [A2 e2] at hj;by_cases e4:j=cc
       ·subst e4;rw [A0] at hj;rw [E9 (fun i hi=>by have:=ho i hi;omega)]
        repeat rw [A2 (by omega)]
        rw [hb0];exact hj
       ·rw [A2 e4] at hj;have hjc:j<cc:=Classical.byContradiction fun h=>by rw [hfr j (by omega)] at hj;cases hj
        rw [E9 (fun i hi=>by have:=ho i hi;omega)]
        repeat rw [A2 (by omega)]
        rw [hbj j hjc e2];exact hj
   ·rw [if_neg (by simp [hlt])] at hv;have hdl:decide ((u.i:Int)<(L.length:Int))=false:=by simpa using hlt
    have e1:m=ml:=congrArg Prod.fst (Option.some.inj hv);have e2:u=s2:=congrArg Prod.snd (Option.some.inj hv);subst e1 e2;have ne0:=T8 t cc (cc+1) (by omega);simp only [go_sem,seval,hok,hHt,hdl,hbx,ne0,hT,hb0];repeat' ((with_reducible apply wr)<;>try simp only [go_sem,seval,hok,hHt,hdl,hbx,ne0,hT])
    rw [hb0];refine F3 (B0v (by rfl) (by decide) (by clear hHH;cases o<;>rfl)) ?_;simp only [go_sem,seval,ne0,A0];repeat' ((with_reducible apply wr)<;>try simp only [go_sem,seval,ne0,A0])
    rw [E7 (rv2 rfl A0)];exact ⟨_,_,fin0 _,rfl,rfl⟩
 ·rw [if_neg hk] at hv0;have hdk:decide (C4 L E u E1≥0)=true:=by simp;omega
  have hHt:C0 (((H.upd cc ⟨0,true,[.snil,.snil]⟩).upd t (rdR L E u)).upd (cc+1) ⟨0,true,[B3 o l.length,.snil]⟩) o ⟨4,true,A4 (l.map Dc.v)⟩ t=some (rdR L E u):=by rw [C7 (fun i hi=>by have:=ho i hi;omega),A2 (by omega),A0]
  have hbx:C0 (((H.upd cc ⟨0,true,[.snil,.snil]⟩).upd t (rdR L E u)).upd (cc+1) ⟨0,true,[B3 o l.length,.snil]⟩) o ⟨4,true,A4 (l.map Dc.v)⟩ (cc+1)=some ⟨0,true,[B3 o l.length,.snil]⟩:=by rw [C7 (fun i hi=>by have:=ho i hi;omega),A0]
  have hbo:∀ i:Nat,o=some i->C0 (((H.upd cc ⟨0,true,[.snil,.snil]⟩).upd t (rdR L E u)).upd (cc+1) ⟨0,true,[B3 o l.length,.snil]⟩) o ⟨4,true,A4 (l.map Dc.v)⟩ i=some ⟨4,true,A4 (l.map Dc.v)⟩:=fun i hi=>by subst hi;exact A0
  have hbj:∀ j:Nat,j<cc->¬ j=t->C0 (((H.upd cc ⟨0,true,[.snil,.snil]⟩).upd t (rdR L E u)).upd (cc+1) ⟨0,true,[B3 o l.length,.snil]⟩) o ⟨4,true,A4 (l.map Dc.v)⟩ j=H j:=fun j h1 h2=>by rw [C7 (fun i hi=>by have:=ho i hi;omega),A2 (by omega),A2 h2,A2 (by omega)]
  have hb0:C0 (((H.upd cc ⟨0,true,[.snil,.snil]⟩).upd t (rdR L E u)).upd (cc+1) ⟨0,true,[B3 o l.length,.snil]⟩) o ⟨4,true,A4 (l.map Dc.v)⟩ cc=some ⟨0,true,[.snil,.snil]⟩:=by rw [C7 (fun i hi=>by have:=ho i hi;omega),A2 (by omega),A2 (by omega),A0]
  have hbn:∀ j:Nat,c<=j->C0 (((H.upd cc ⟨0,true,[.snil,.snil]⟩).upd t (rdR L E u)).upd (cc+1) ⟨0,true,[B3 o l.length,.snil]⟩) o ⟨4,true,A4 (l.map Dc.v)⟩ j=none:=fun j h1=>by rw [C7 (fun i hi=>by have:=ho i hi;omega),A2 (by omega),A2 (by omega),A2 (by omega)];exact hfr j (by omega)
  obtain ⟨hok0,hi0, -⟩:=G3 (show 0<=C4 L E u E1 by omega);generalize hHH:C0 (((H.upd cc ⟨0,true,[.snil,.snil]⟩).upd t (rdR L E u)).upd (cc+1) ⟨0,true,[B3 o l.length,.snil]⟩) o ⟨4,true,A4 (l.map Dc.v)⟩=HH at hHt hbx hbo hbj hb0 hbn ⊢;generalize hkk:C4 L E u E1=k at hv0 hk hdk hkr ⊢;repeat' ((with_reducible apply wr)<;>try simp only [go_sem,seval,hdk,hbx,hlen,hw])
  refine AC.call (c_limit L E u _ _ t hHt (by omega) _ _ _) ?_;rintro v H' c2 ⟨rfl,rfl⟩ hc2;have j1:(C8 L E u ((l.length:Int)+1) 128 9).i=u.i:=F6;have j2:=fun h=>F9 (L:=L) (E:=E) (s:=u) (n:=(l.length:Int)+1) (m:=128) (e:=9) (by decide) h;generalize C8 L E u ((l.length:Int)+1) 128 9=u1 at hv0 j1 j2 ⊢;simp only [go_sem,seval];repeat' ((with_reducible apply wr)<;>try simp only [go_sem,seval])
  refine AC.call (c_rdok L E u1 _ _ t A0 (by omega)) ?_;rintro v H' c3 ⟨rfl,rfl⟩ hc3;cases hok:okR u1 with
  | false =>
   rw [if_neg (by rw [hok];decide)] at hv0;simp only [go_sem,seval,hok];repeat' ((with_reducible first|apply wr|refine cpc c_decls31 ?_|fail)<;>try simp only [go_sem,seval,hok])
   refine AC.call (c_among L E u1 _ _ t A0 (by omega) E1 (by decide)) ?_;rintro v H' c4 ⟨rfl,rfl⟩ hc4;simp only [go_sem,seval];repeat' ((with_reducible apply wr)<;>try simp only [go_sem,seval])
   refine ⟨(g,o,l,u1),by simp [C1,tm,Tm.upd],?_,inv ⟨by omega,by simp only;omega,by rw [j1];exact hi5,hno,(fun i hi=>by have:=ho i hi;omega),hl1,hv0⟩,by simp only;omega⟩;intro j b hj;by_cases e2:j=t
   ·subst e2;rw [C7 (fun i hi=>by have:=ho i hi;omega),A2 (by omega),A0] at hj;rw [A0];exact hj
   ·rw [A2 e2, <- hHH];cases o with
    | none =>
     simp only [C0] at hj ⊢;by_cases e1:j=cc+1
     ·subst e1;rw [A0] at hj ⊢;exact hj
     ·rw [A2 e1,A2 e2] at hj ⊢;exact hj
    | some i =>
     simp only [C0] at hj ⊢;by_cases e0:j=i
     ·subst e0;rw [A0] at hj ⊢;exact hj
     rw [A2 e0] at hj ⊢;by_cases e1:j=cc+1
     ·subst e1;rw [A0] at hj ⊢;exact hj
     ·rw [A2 e1,A2 e2] at hj ⊢;exact hj
  | true =>
   rw [if_pos hok] at hv0;obtain ⟨-,j3,rfl⟩:=j2 hok;simp only [go_sem,seval,hok];have ne0:=T8 t cc (cc+1) (by omega);repeat' ((with_reducible apply wr)<;>try simp only [go_sem,seval,hok,ne0,A0,A1,hbx])
   refine AC.call (c_declaration L E u1 _ _ t A0 (by omega) hL hv k (by omega) (by omega) (by omega)) ?_;rintro v H' c4 ⟨rfl,rfl⟩ hc4;have ne0:=A0q t cc (cc+1) c4 (c4+1) (by omega);simp only [go_sem,seval,ne0,A0,A1,hbx];repeat' ((with_reducible apply wr)<;>try simp only [go_sem,seval,ne0,A0,A1,hbx])
   refine ⟨⟨by rw [A2 (by omega)];exact hbn _ (by omega),by rw [A2 (by omega)];exact hbn _ (by omega)⟩,?_⟩;have hl4:(A4 (l.map Dc.v)).length=l.length * 4:=C2 (u:=4) (A1q _) |>.trans (by simp);repeat' ((with_reducible apply wr)<;>try simp only [go_sem,seval,ne0,A0,A1,hbx])
   rw [F0 (cs:=A4 (l.map Dc.v)) (fun e=>by rw [hno e];exact ⟨rfl,rfl⟩) (fun i hi=>by have:=ho i hi;rw [A2 (by omega),A2 (by omega)];exact hbo i hi) hl4 (by omega) (by omega) (by omega)];have hdx:∀ X:Hp,H9 X o (cc+1)=X (cc+1):=fun X=>E9 (fun i hi=>by have:=ho i hi;omega);have ne0:=A0q t cc (cc+1) (c3+5) c4 (by omega);simp only [go_sem,seval,ne0,A0,A1,hdx,hbx];repeat' ((with_reducible first|apply wr|refine cpc c_decls31 ?_|fail)<;>try simp only [go_sem,seval,ne0,A0,A1,hdx,hbx])
   refine AC.call (c_among L E (R3 L E k u1).2 _ _ t (by rw [A2 (by omega),A2 (by omega),E9 (fun i hi=>by have:=ho i hi;omega),A2 (by omega),A0]) (by omega) E1 (by decide)) ?_;rintro v H' c5 ⟨rfl,rfl⟩ hc5;simp only [go_sem,seval];repeat' ((with_reducible apply wr)<;>try simp only [go_sem,seval])
   refine ⟨(g,some c4,l++[(R3 L E k u1).1],(R3 L E k u1).2),by simp [C1,tm,Tm.upd],?_,inv ⟨by omega,by simp only;omega,C7g (by omega),(fun h=>by cases h),(fun i hi=>by cases hi;omega),by simp only [A0A,A0H];omega,hv0⟩,by simp only;omega⟩;intro j b hj;simp only [C0,A3x,A0A,A0H,A0W,C5] at hj;by_cases e1:j=cc+1
   ·subst e1;by_cases e3:cc+1=c4
    ·omega
    rw [A2 e3,A0] at hj;rw [A0];exact hj
   rw [A2 e1];by_cases e0:j=c4
   ·subst e0;rw [A0] at hj;rw [A0, <- hj];rfl
   rw [A2 e0] at hj ⊢;rw [A2 e1] at hj;by_cases e2:j=t
   ·subst e2;rw [A0] at hj;rw [E9 (fun i hi=>by have:=ho i hi;omega),A2 (by omega),A0];exact hj
   rw [A2 e2] at hj;by_cases e4:j=cc
   ·subst e4;rw [A0] at hj;rw [E9 (fun i hi=>by have:=ho i hi;omega)]
    repeat rw [A2 (by omega)]
    rw [hb0];exact hj
   ·rw [A2 e4] at hj;have hjc:j<cc:=Classical.byContradiction fun h=>by rw [hfr j (by omega)] at hj;cases hj
    rw [E9 (fun i hi=>by have:=ho i hi;omega)]
    repeat rw [A2 (by omega)]
    rw [hbj j hjc e2];exact hj
theorem c_letter (c:UInt8):PC Tryz.prog 144 [.int .u8 c.toNat] (.bool (ltB c)):=by
 refine PC.of A9 isU144 (A0B rfl) (by simp [DV.nlL,DV.nl]) (by simp [DV.nlL,DV.nl]) ?_;show IW Tryz.prog 17 u144_1 ⟨B7 _,_,_⟩ (rt [.tmp 2] _);repeat' ((with_reducible first|refine wr ?_|refine wb2 ?_ ?_<;>(intro hb;try simp only [hb])|fail)<;>try simp only [go_sem,seval])
 all_goals (refine A6 (congrArg DV.bool ?_);rw [A1W];simp_all [ltB]<;>omega)
theorem c_digit (c:UInt8):PC Tryz.prog 156 [.int .u8 c.toNat] (.bool (dgB c)):=by
 refine PC.of A9 isU156 (A0B rfl) (by simp [DV.nlL,DV.nl]) (by simp [DV.nlL,DV.nl]) ?_;show IW Tryz.prog 9 u156_1 ⟨B7 _,_,_⟩ (rt [.tmp 2] _);repeat' ((with_reducible first|refine wr ?_|refine wb2 ?_ ?_<;>(intro hb;try simp only [hb])|fail)<;>try simp only [go_sem,seval])
 all_goals (refine A6 (congrArg DV.bool ?_);rw [A1W];simp_all [dgB]<;>omega)
theorem c_letterR (c:UInt8):PC Tryz.prog 108 [.int .u8 c.toNat] (.bool (ltB c)):=by
 refine PC.of A9 isU108 (A0B rfl) (by simp [DV.nlL,DV.nl]) (by simp [DV.nlL,DV.nl]) ?_;show IW Tryz.prog 17 u108_1 ⟨B7 _,_,_⟩ (rt [.tmp 2] _);repeat' ((with_reducible first|refine wr ?_|refine wb2 ?_ ?_<;>(intro hb;try simp only [hb])|fail)<;>try simp only [go_sem,seval])
 all_goals (refine A6 (congrArg DV.bool ?_);rw [A1W];simp_all [ltB]<;>omega)
theorem c_digitR (c:UInt8):PC Tryz.prog 110 [.int .u8 c.toNat] (.bool (dgB c)):=by
 refine PC.of A9 isU110 (A0B rfl) (by simp [DV.nlL,DV.nl]) (by simp [DV.nlL,DV.nl]) ?_;show IW Tryz.prog 9 u110_1 ⟨B7 _,_,_⟩ (rt [.tmp 2] _);repeat' ((with_reducible first|refine wr ?_|refine wb2 ?_ ?_<;>(intro hb;try simp only [hb])|fail)<;>try simp only [go_sem,seval])
 all_goals (refine A6 (congrArg DV.bool ?_);rw [A1W];simp_all [dgB]<;>omega)
theorem c_part (c:UInt8):PC Tryz.prog 146 [.int .u8 c.toNat] (.bool (ptB c)):=by
 refine PC.of A9 isU146 (A0B rfl) (by simp [DV.nlL,DV.nl]) (by simp [DV.nlL,DV.nl]) ?_;show IW Tryz.prog 13 u146_1 ⟨B7 _,_,_⟩ (rt [.tmp 2] _);repeat' ((with_reducible first|refine wr ?_|refine cpc (c_letter c) ?_|refine cpc (c_digit c) ?_|refine wb2 ?_ ?_<;>(intro hb;try simp only [hb])|fail)<;>try simp only [go_sem,seval])
 all_goals (refine A6 (congrArg DV.bool ?_);rw [A1W];simp_all [ptB]<;>omega)
theorem c_span {p:UInt8->Bool} {f:Nat} {a cs:List DV} (s:List UInt8) (hs:s.length<=9223372036854775807) (na:DV.nlL a=true) (ncs:DV.nlL cs=true) (hf:∀ x∈s,PC Tryz.prog f (a++[.int .u8 x.toNat]++cs) (.bool (p x))) :
  PC Tryz.prog 145 [.str s,.func f a cs] (I64 (D0 p s)):=by
 refine PC.of A9 isU145 (A0B rfl) (by simp [DV.nlL,DV.nl,na,ncs]) rfl ?_;show IW Tryz.prog 20 u145_1 ⟨B7 _,_,_⟩ (rt [.tmp 4] _);repeat' ((with_reducible apply wr)<;>try simp only [go_sem,seval])
 refine B9 (fun k:Nat=>[(0,.str s),(1,.func f a cs),(5,I64 k)]) (fun _=>nil) (fun k _=>k<=s.length/\k<=D0 p s) (fun k=>s.length-k) 0 (by simp [C1,tm,Tm.upd]) (Sub.nil _) (by simp) ?_;rintro k c ⟨hk,he⟩;by_cases hlt:k<s.length
 ·have hd:decide ((k:Int)<s.length)=true:=by simpa using hlt
  have hg:=A0C hlt;have hw:=w64 (n:=(k:Int)+1) (by omega) (by omega);have hst:=A5x hg he;have hc:=hf s[k] (A0M hlt);repeat' ((with_reducible first|refine wr ?_|refine cpc hc ?_|refine wb2 ?_ ?_<;>(intro hb;try simp only [hb])|fail)<;>try simp only [go_sem,seval,hd,hg,hw])
  ·exact ⟨k+1,rfl,Sub.refl _,inv ⟨by omega,hst.1 hb⟩,by omega⟩
  ·refine A6 ?_;rw [hst.2 hb]
 ·have hd:decide ((k:Int)<s.length)=false:=by simpa using hlt
  repeat' ((with_reducible apply wr)<;>try simp only [go_sem,seval,hd])
  refine A6 ?_;rw [B1j (by omega) he]
theorem c_spanPt (s:List UInt8) (hs:s.length<=9223372036854775807):PC Tryz.prog 145 [.str s,.func 146 [] []] (I64 (D0 ptB s)) :=
 c_span s hs rfl rfl fun x _=>c_part x
end Go.Proofs.YtnmkkggfgdfmeaaGreatDoor
end

/-
  HELPERS of the claim: part 5 of its texts.
-/
import Derived.Test.YthlpinppaclofaaGreatDoorSyad
noncomputable section
set_option maxHeartbeats 8000000
set_option maxRecDepth 100000
set_option linter.unusedSimpArgs false
set_option linter.unusedVariables false
namespace Go.Proofs.YthlpinppaclofaaGreatDoor
open Go.Eng (IC IOper DReg IFn G0)
open Go.Sym Go.Pb
abbrev PsC (L:List Tok) (E:Int) (f:Nat) (vs:List DV) (s:Rd) (q:Pb.St × Rd):Prop :=
 ∀ (H:Hp) (cc t:Nat),H t=some (paB L E s)->t<cc->AC Tryz.prog f (.ptr t 0 :: vs) H cc (fun v H' c' => ∃ x s',v=Pb.St.v x/\H'=H.upd t (paB L E s')/\Eqv s' q.2/\(okR q.2=true->x=q.1)/\PI L s')
abbrev PlC (L:List Tok) (E:Int) (f:Nat) (vs:List DV) (s:Rd) (q:List Pb.St × Rd):Prop :=
 ∀ (H:Hp) (cc t:Nat),H t=some (paB L E s)->t<cc->AC Tryz.prog f (.ptr t 0 :: vs) H cc (fun v H' c' => ∃ x s',v=G6 x/\H'=H.upd t (paB L E s')/\Eqv s' q.2/\(okR q.2=true->x=q.1)/\PI L s')
def elsM (L:List Tok) (E:Int) (f:Nat) (d:Int) (m:Rd):Option (List Pb.St × Rd):=if isR L E m [101,108,115,101]=true then U9 L E f d (B1 m) else some ([],m)
theorem A1o {L:List Tok} {E:Int} {m:Rd} {w:List UInt8} (k:okR (C2 L E m w)=true):okR m=true:=(A1m (exp_ok k).1).1
theorem expn_m {L:List Tok} {E:Int} {f:Nat} {m:Rd} {q:Ex × Rd} (h:E6 L E f m=some q) (k:okR q.2=true):okR m=true:=by
 cases ho:okR m with
 | true=>rfl
 | false=>obtain rfl:=expn_nok h ho;have:okR m=true:=k;rw [ho] at this;cases this
theorem blk_m {L:List Tok} {E:Int} {f:Nat} {d:Int} {m:Rd} {q:List Pb.St × Rd} (h:G1 L E f d m=some q) (k:okR q.2=true):okR m=true:=by
 cases ho:okR m with
 | true=>rfl
 | false=>obtain rfl:=blk_nok h ho;exact absurd k (by simp [ho])
theorem els_m {L:List Tok} {E:Int} {f:Nat} {d:Int} {m:Rd} {q:List Pb.St × Rd} (h:elsM L E f d m=some q) (k:okR q.2=true):okR m=true:=by
 unfold elsM at h;split at h
 ·rename_i hi;exact (A1m hi).1
 ·cases h;exact k
theorem c_pstmt (L:List Tok) (E:Int) (hL:L.length<=1000000000) (hK:∀ t∈L,E7 t) (f:Nat)
  (ib:∀ d s m r,0<=d->d<=9->Eqv s m->G1 L E f d m=some r->PI L s->PlC L E 198 [I64 d] s r)
  (io:∀ d s m r,0<=d->d<=8->Eqv s m->elsM L E f d m=some r->PI L s->PlC L E 222 [I64 (d+1)] s r)
  (d:Int) (s:Rd) (r:Pb.St × Rd) (hd0:0<=d) (hd:d<=8) (hbg:A3q L E s=true) (h:L9 L E (f+1) d s=some r) (hP:PI L s):PsC L E 211 [I64 d] s r:=by
 intro H cc t ht htc;obtain ⟨ho,hbk⟩:=(beg_amg hK).1 hbg;obtain ⟨hs1,hs2⟩:=stm_lk (E:=E) hK ho;have hri:=hP.i;unfold L9 at h;dsimp only at h;rw [S4 (by omega:¬ (8:Int)<d),if_neg (by rw [ho];decide)] at h;have hlt:s.i<L.length:=by
  rcases hbk with hk|hk
  ·exact (O9 hk).2.1
  ·exact (H3 (by decide) (J8 hk).2).2
 have hw1:IntKind.i64.wrap ((s.i:Int)+1)=((s.i+1:Nat):Int):=by rw [w6z (by omega)];omega
 have hwd:IntKind.i64.wrap (d+1)=d+1:=w6z (by omega);have hPn:=hP.nxt hlt;have hqn:=Eqv.refl (B1 s);refine AC.bodyT A9 rfl (Nat.le_of_ble_eq_true rfl) fun hfr=>?_;repeat' ((with_reducible first|refine wr ?_|refine A2 ?_ ?_|fail)<;>try simp only [go_sem,seval])
 refine AC.call (c_here L E s _ _ t (by rw [A3 (by omega)];exact ht) (by omega)) ?_;rintro v H' c1 ⟨rfl,rfl⟩ hc1;have ne0:=A4b t cc c1 (c1+1) (by omega);by_cases hk1:(A4 L E s).kind=1
 ·have e1:((A4 L E s).kind == 1)=true:=by simpa using hk1
  have hkk:F8 L E s 1=true:=by unfold F8;rw [ho,hk1];rfl
  have htk:A7 L E s 1=(A4 L E s,B1 s):=by unfold A7;rw [hkk,if_neg (by decide)]
  have hk:B4 L E s B3<0:=by
   by_cases hk:B4 L E s B3<0
   ·exact hk
   ·have:=(hs1 (by omega)).1;omega
  rw [if_pos hk,htk] at h;dsimp only at h;cases hz2:E6 L E f (C2 L E (B1 s) [61]) with
  | none=>rw [hz2] at h;cases h
  | some qhz2 =>
   obtain ⟨e,m2⟩:=qhz2;rw [hz2] at h;dsimp only at h;cases h;simp only [go_sem,seval,ne0,A0,A1];repeat' ((with_reducible first|refine wr ?_|refine A2 ?_ ?_|fail)<;>try simp only [go_sem,seval,e1,ht,hw1,ne0,A0,A1])
   refine AC.call (c_want L E (B1 s) _ _ t (by repeat (first|exact A0|rw [A3 (by omega)]|rw [D7 (by omega)])) (by omega) (by have:=hPn.i;omega) 5 [61]) ?_;rintro v H' c3 ⟨rfl,rfl⟩ hc3;have qc3:=hqn.want (L:=L) (E:=E) (k:=5) (w:=[61]) (fun s=>D6 hK (by decide +kernel));have bc3:=(hPn.want (E:=E) (k:=5) (w:=[61]) (by decide)).1;simp only [go_sem,seval,ne0,A0,A1];repeat' ((with_reducible first|refine wr ?_|refine A2 ?_ ?_|fail)<;>try simp only [go_sem,seval,ne0,A0,A1])
   refine AC.call (c_pexpr L E hL hK f (C5 L E (B1 s) 5 [61]) (C2 L E (B1 s) [61]) (e,m2) qc3 hz2 bc3.i _ _ t (by repeat (first|exact A0|rw [A3 (by omega)]|rw [D7 (by omega)])) (by omega)) ?_;rintro v H' c4 ⟨xc4,sc4,rfl,rfl,qc4,uc4,bc4⟩ hc4;dsimp only at qc4 uc4;have ne0:=S3 t cc c1 (c1+1) c4 (by omega);simp only [go_sem,seval,Ex.v_w,ne0,A0,A1];repeat' ((with_reducible first|refine wr ?_|refine A2 ?_ ?_|fail)<;>try simp only [go_sem,seval,ne0,A0,A1])
   refine AC.call (c_want L E sc4 _ _ t (by repeat (first|exact A0|rw [A3 (by omega)]|rw [D7 (by omega)])) (by omega) (by have:=bc4.i;omega) 5 [59]) ?_;rintro v H' c5 ⟨rfl,rfl⟩ hc5;have qc5:=qc4.want (L:=L) (E:=E) (k:=5) (w:=[59]) (fun s=>D6 hK (by decide +kernel));have bc5:=(bc4.want (E:=E) (k:=5) (w:=[59]) (by decide)).1;simp only [go_sem,seval,ne0,A0,A1];repeat' ((with_reducible first|refine wr ?_|refine A2 ?_ ?_|fail)<;>try simp only [go_sem,seval,ne0,A0,A1])
   rw [D4 (rv7 rfl A0)];refine ⟨_,_,W0 (cc:=cc) (K:=H.upd t (paB L E (C5 L E sc4 5 [59]))) (i:=c4) [xc4] (.inr ⟨rfl,rfl⟩) (.inr ⟨rfl,rfl⟩) (B7 hfr htc) (by omega) ?_ (fun j hj=>?_),.mk 1 (A4 L E s).text [] [xc4] [] [] (A4 L E s).pos,(C5 L E sc4 5 [59]),by rw [Pb.St.v_w];rfl,rfl,qc5,fun k=>?_,bc5⟩
   ·rw [A0i];dsimp only
    repeat (first|exact A0|rw [A3 (by omega)]|rw [D7 (by omega)])
   ·simp [Hp.upd,Hp.del,show ¬j=cc by omega,show ¬j=c1 by omega,show ¬j=c1+1 by omega,show ¬j=c4 by omega];try (split<;>rfl)
   ·rw [uc4 (A1o k)]
 have e1:((A4 L E s).kind == 1)=false:=by simpa using hk1
 have hk0:0<=B4 L E s B3:=by
  rcases hbk with hk|hk
  ·exact hk
  ·exact absurd (J8 hk).2 hk1
 obtain ⟨hk2,hlv,hk18⟩:=hs1 hk0;have hlk:=A6e B3 Q9 rfl (A4 L E s).text;rw [if_neg (by omega)] at h;generalize B4 L E s B3=k at h hlv hk0 hk18;rw [hlv] at hlk;clear hlv hs1 hs2 hbk;simp only [go_sem,seval,ne0,A0,A1];repeat' ((with_reducible first|refine wr ?_|refine cpc c_stms ?_|refine A2 ?_ ?_|fail)<;>try simp only [go_sem,seval,e1,ht,hw1,hlk,ne0,A0,A1])
 and_intros
 all_goals try ((repeat rw [A3 (by omega)]);exact hfr _ (by omega))
 by_cases k0:k=0
 ·rw [if_pos (.inl k0)] at h;cases hz6:E6 L E f (B1 s) with
  | none=>rw [hz6] at h;cases h
  | some qhz6 =>
   obtain ⟨e,m2⟩:=qhz6;rw [hz6] at h;dsimp only at h;cases hz7:G1 L E f (d+1) m2 with
   | none=>rw [hz7] at h;cases h
   | some qhz7 =>
    obtain ⟨tt,m3⟩:=qhz7;rw [hz7] at h;dsimp only at h;have h':(match elsM L E f d m3 with|none=>none|some (o,s4)=>some (Pb.St.mk 2 [] [] [e] tt o (A4 L E s).pos,s4))=some r:=by
     unfold elsM;cases hi:isR L E m3 [101,108,115,101] with
     | true=>rw [if_pos ⟨k0,hi⟩] at h;rw [if_pos rfl];exact h
     | false=>rw [if_neg (by simp [hi])] at h;rw [if_neg (by decide), <- h];subst k0;rfl
    clear h;have h:=h';clear h';cases hz8:elsM L E f d m3 with
    | none=>rw [hz8] at h;cases h
    | some qhz8 =>
     obtain ⟨oo,m4⟩:=qhz8;rw [hz8] at h;dsimp only at h;cases h;have f2:(2+k == 2)=true:=by simp;omega
     have f3:(2+k == 3)=false:=by simp;omega
     have f4:(2+k == 4)=false:=by simp;omega
     have f8:(2+k == 8)=false:=by simp;omega
     have f10:(2+k == 10)=false:=by simp;omega
     have f9:(2+k == 9)=false:=by simp;omega
     have f18:(2+k == 18)=false:=by simp;omega
     have f19:(2+k == 19)=false:=by simp;omega
     repeat' ((with_reducible first|refine wr ?_|refine A2 ?_ ?_|fail)<;>try simp only [go_sem,seval,f2,f3,f4,f8,f10,f9,f18,f19,hwd,ne0,A0,A1])
     refine AC.call (c_pexpr L E hL hK f (B1 s) (B1 s) (e,m2) hqn hz6 hPn.i _ _ t (by repeat (first|exact A0|rw [A3 (by omega)]|rw [D7 (by omega)])) (by omega)) ?_;rintro v H' c9 ⟨xc9,sc9,rfl,rfl,qc9,uc9,bc9⟩ hc9;dsimp only at qc9 uc9;have ne0:=S3 t cc c1 (c1+1) c9 (by omega);simp only [go_sem,seval,Ex.v_w,ne0,A0,A1];repeat' ((with_reducible first|refine wr ?_|refine A2 ?_ ?_|fail)<;>try simp only [go_sem,seval,hwd,ne0,A0,A1])
     refine AC.call (ib (d+1) sc9 m2 (tt,m3) (by omega) (by omega) qc9 hz7 bc9 _ _ t (by repeat (first|exact A0|rw [A3 (by omega)]|rw [D7 (by omega)])) (by omega)) ?_;rintro v H' c10 ⟨xc10,sc10,rfl,rfl,qc10,uc10,bc10⟩ hc10;dsimp only at qc10 uc10;simp only [go_sem,seval,ne0,A0,A1];repeat' ((with_reducible first|refine wr ?_|refine A2 ?_ ?_|fail)<;>try simp only [go_sem,seval,hwd,ne0,A0,A1])
     refine AC.call (io d sc10 m3 (oo,m4) (by omega) (by omega) qc10 hz8 bc10 _ _ t (by repeat (first|exact A0|rw [A3 (by omega)]|rw [D7 (by omega)])) (by omega)) ?_;rintro v H' c11 ⟨xc11,sc11,rfl,rfl,qc11,uc11,bc11⟩ hc11;dsimp only at qc11 uc11;simp only [go_sem,seval,ne0,A0,A1];repeat' ((with_reducible first|refine wr ?_|refine A2 ?_ ?_|fail)<;>try simp only [go_sem,seval,hwd,ne0,A0,A1])
     subst k0;rw [D4 (rv7 rfl A0)];refine ⟨_,_,W0 (cc:=cc) (K:=H.upd t (paB L E sc11)) (i:=c9) [xc9] (.inl rfl) (.inl rfl) (B7 hfr htc) (by omega) ?_ (fun j hj=>?_),.mk 2 [] [] [xc9] xc10 xc11 (A4 L E s).pos,sc11,by rw [Pb.St.v_w];rfl,rfl,qc11,fun k=>?_,bc11⟩
     ·rw [A0i];dsimp only
      repeat (first|exact A0|rw [A3 (by omega)]|rw [D7 (by omega)])
     ·simp [Hp.upd,Hp.del,show ¬j=cc by omega,show ¬j=c1 by omega,show ¬j=c1+1 by omega,show ¬j=c9 by omega];try (split<;>rfl)
     ·have k3:=els_m hz8 k;have k2:=blk_m hz7 k3;rw [uc11 k,uc10 k3,uc9 k2]
 by_cases k1:k=1
 ·rw [if_pos (.inr k1)] at h;cases hz12:E6 L E f (B1 s) with
  | none=>rw [hz12] at h;cases h
  | some qhz12 =>
   obtain ⟨e,m2⟩:=qhz12;rw [hz12] at h;dsimp only at h;cases hz13:G1 L E f (d+1) m2 with
   | none=>rw [hz13] at h;cases h
   | some qhz13 =>
    obtain ⟨tt,m3⟩:=qhz13;rw [hz13] at h;dsimp only at h;rw [if_neg (fun h=>k0 h.1)] at h;cases h;have f2:(2+k == 2)=false:=by simp;omega
    have f3:(2+k == 3)=true:=by simp;omega
    have f4:(2+k == 4)=false:=by simp;omega
    have f8:(2+k == 8)=false:=by simp;omega
    have f10:(2+k == 10)=false:=by simp;omega
    have f9:(2+k == 9)=false:=by simp;omega
    have f18:(2+k == 18)=false:=by simp;omega
    have f19:(2+k == 19)=false:=by simp;omega
    repeat' ((with_reducible first|refine wr ?_|refine A2 ?_ ?_|fail)<;>try simp only [go_sem,seval,f2,f3,f4,f8,f10,f9,f18,f19,hwd,ne0,A0,A1])
    refine AC.call (c_pexpr L E hL hK f (B1 s) (B1 s) (e,m2) hqn hz12 hPn.i _ _ t (by repeat (first|exact A0|rw [A3 (by omega)]|rw [D7 (by omega)])) (by omega)) ?_;rintro v H' c14 ⟨xc14,sc14,rfl,rfl,qc14,uc14,bc14⟩ hc14;dsimp only at qc14 uc14;have ne0:=S3 t cc c1 (c1+1) c14 (by omega);simp only [go_sem,seval,Ex.v_w,ne0,A0,A1];repeat' ((with_reducible first|refine wr ?_|refine A2 ?_ ?_|fail)<;>try simp only [go_sem,seval,hwd,ne0,A0,A1])
    refine AC.call (ib (d+1) sc14 m2 (tt,m3) (by omega) (by omega) qc14 hz13 bc14 _ _ t (by repeat (first|exact A0|rw [A3 (by omega)]|rw [D7 (by omega)])) (by omega)) ?_;rintro v H' c15 ⟨xc15,sc15,rfl,rfl,qc15,uc15,bc15⟩ hc15;dsimp only at qc15 uc15;simp only [go_sem,seval,ne0,A0,A1];repeat' ((with_reducible first|refine wr ?_|refine A2 ?_ ?_|fail)<;>try simp only [go_sem,seval,hwd,ne0,A0,A1])
    subst k1;rw [D4 (rv7 rfl A0)];refine ⟨_,_,W0 (cc:=cc) (K:=H.upd t (paB L E sc15)) (i:=c14) [xc14] (.inl rfl) (.inr ⟨rfl,rfl⟩) (B7 hfr htc) (by omega) ?_ (fun j hj=>?_),.mk 3 [] [] [xc14] xc15 [] (A4 L E s).pos,sc15,by rw [Pb.St.v_w];rfl,rfl,qc15,fun k=>?_,bc15⟩
    ·rw [A0i];dsimp only
     repeat (first|exact A0|rw [A3 (by omega)]|rw [D7 (by omega)])
    ·simp [Hp.upd,Hp.del,show ¬j=cc by omega,show ¬j=c1 by omega,show ¬j=c1+1 by omega,show ¬j=c14 by omega];try (split<;>rfl)
    ·have k2:=blk_m hz13 k;rw [uc15 k,uc14 k2];rfl
 rw [if_neg (by omega)] at h;unfold S8 at h;by_cases k4:2+k=4
 ·rw [if_pos k4] at h;cases hz16:E6 L E f (B1 s) with
  | none=>rw [hz16] at h;cases h
  | some qhz16 =>
   obtain ⟨e,m2⟩:=qhz16;rw [hz16] at h;dsimp only at h;cases h;have f2:(2+k == 2)=false:=by simp;omega
   have f3:(2+k == 3)=false:=by simp;omega
   have f4:(2+k == 4)=true:=by simp;omega
   have f8:(2+k == 8)=false:=by simp;omega
   have f10:(2+k == 10)=false:=by simp;omega
   have f9:(2+k == 9)=false:=by simp;omega
   have f18:(2+k == 18)=false:=by simp;omega
   have f19:(2+k == 19)=false:=by simp;omega
   repeat' ((with_reducible first|refine wr ?_|refine A2 ?_ ?_|fail)<;>try simp only [go_sem,seval,f2,f3,f4,f8,f10,f9,f18,f19,ne0,A0,A1])
   refine AC.call (c_pexpr L E hL hK f (B1 s) (B1 s) (e,m2) hqn hz16 hPn.i _ _ t (by repeat (first|exact A0|rw [A3 (by omega)]|rw [D7 (by omega)])) (by omega)) ?_;rintro v H' c17 ⟨xc17,sc17,rfl,rfl,qc17,uc17,bc17⟩ hc17;dsimp only at qc17 uc17;have ne0:=S3 t cc c1 (c1+1) c17 (by omega);simp only [go_sem,seval,Ex.v_w,ne0,A0,A1];repeat' ((with_reducible first|refine wr ?_|refine A2 ?_ ?_|fail)<;>try simp only [go_sem,seval,ne0,A0,A1])
   refine AC.call (c_want L E sc17 _ _ t (by repeat (first|exact A0|rw [A3 (by omega)]|rw [D7 (by omega)])) (by omega) (by have:=bc17.i;omega) 5 [59]) ?_;rintro v H' c18 ⟨rfl,rfl⟩ hc18;have qc18:=qc17.want (L:=L) (E:=E) (k:=5) (w:=[59]) (fun s=>D6 hK (by decide +kernel));have bc18:=(bc17.want (E:=E) (k:=5) (w:=[59]) (by decide)).1;simp only [go_sem,seval,ne0,A0,A1];repeat' ((with_reducible first|refine wr ?_|refine A2 ?_ ?_|fail)<;>try simp only [go_sem,seval,ne0,A0,A1])
   rw [D4 (rv7 rfl A0)];refine ⟨_,_,W0 (cc:=cc) (K:=H.upd t (paB L E (C5 L E sc17 5 [59]))) (i:=c17) [xc17] (.inr ⟨rfl,rfl⟩) (.inr ⟨rfl,rfl⟩) (B7 hfr htc) (by omega) ?_ (fun j hj=>?_),.mk (2+k) [] [] [xc17] [] [] (A4 L E s).pos,(C5 L E sc17 5 [59]),by rw [Pb.St.v_w];rfl,rfl,qc18,fun k=>?_,bc18⟩
   ·rw [A0i];dsimp only
    repeat (first|exact A0|rw [A3 (by omega)]|rw [D7 (by omega)])
   ·simp [Hp.upd,Hp.del,show ¬j=cc by omega,show ¬j=c1 by omega,show ¬j=c1+1 by omega,show ¬j=c17 by omega];try (split<;>rfl)
   ·rw [uc17 (A1o k)]
 rw [if_neg k4] at h;by_cases k18:2+k=18
 ·rw [if_pos k18] at h;cases hz19:E6 L E f (C2 L E (A7 L E (B1 s) 4).2 [44]) with
  | none=>rw [hz19] at h;cases h
  | some qhz19 =>
   obtain ⟨e,m2⟩:=qhz19;rw [hz19] at h;dsimp only at h;cases h;have f2:(2+k == 2)=false:=by simp;omega
   have f3:(2+k == 3)=false:=by simp;omega
   have f4:(2+k == 4)=false:=by simp;omega
   have f8:(2+k == 8)=false:=by simp;omega
   have f10:(2+k == 10)=false:=by simp;omega
   have f9:(2+k == 9)=false:=by simp;omega
   have f18:(2+k == 18)=true:=by simp;omega
   have f19:(2+k == 19)=false:=by simp;omega
   repeat' ((with_reducible first|refine wr ?_|refine A2 ?_ ?_|fail)<;>try simp only [go_sem,seval,f2,f3,f4,f8,f10,f9,f18,f19,ne0,A0,A1])
   refine AC.call (c_ptake L E (B1 s) _ _ t (by repeat (first|exact A0|rw [A3 (by omega)]|rw [D7 (by omega)])) (by omega) (by have:=hPn.i;omega) 4) ?_;rintro v H' c20 ⟨rfl,rfl⟩ hc20;obtain ⟨qc20,vc20⟩:=hqn.take (L:=L) (E:=E) (k:=4);have bc20:=(hPn.take (E:=E) (x:=4) (by decide)).1;simp only [go_sem,seval,ne0,A0,A1];repeat' ((with_reducible first|refine wr ?_|refine A2 ?_ ?_|fail)<;>try simp only [go_sem,seval,ne0,A0,A1])
   refine AC.call (c_want L E (A7 L E (B1 s) 4).2 _ _ t (by repeat (first|exact A0|rw [A3 (by omega)]|rw [D7 (by omega)])) (by omega) (by have:=bc20.i;omega) 5 [44]) ?_;rintro v H' c21 ⟨rfl,rfl⟩ hc21;have qc21:=qc20.want (L:=L) (E:=E) (k:=5) (w:=[44]) (fun s=>D6 hK (by decide +kernel));have bc21:=(bc20.want (E:=E) (k:=5) (w:=[44]) (by decide)).1;simp only [go_sem,seval,ne0,A0,A1];repeat' ((with_reducible first|refine wr ?_|refine A2 ?_ ?_|fail)<;>try simp only [go_sem,seval,ne0,A0,A1])
   refine AC.call (c_pexpr L E hL hK f (C5 L E (A7 L E (B1 s) 4).2 5 [44]) (C2 L E (A7 L E (B1 s) 4).2 [44]) (e,m2) qc21 hz19 bc21.i _ _ t (by repeat (first|exact A0|rw [A3 (by omega)]|rw [D7 (by omega)])) (by omega)) ?_;rintro v H' c22 ⟨xc22,sc22,rfl,rfl,qc22,uc22,bc22⟩ hc22;dsimp only at qc22 uc22;have ne0:=S3 t cc c1 (c1+1) c22 (by omega);simp only [go_sem,seval,Ex.v_w,ne0,A0,A1];repeat' ((with_reducible first|refine wr ?_|refine A2 ?_ ?_|fail)<;>try simp only [go_sem,seval,ne0,A0,A1])
   refine AC.call (c_want L E sc22 _ _ t (by repeat (first|exact A0|rw [A3 (by omega)]|rw [D7 (by omega)])) (by omega) (by have:=bc22.i;omega) 5 [59]) ?_;rintro v H' c23 ⟨rfl,rfl⟩ hc23;have qc23:=qc22.want (L:=L) (E:=E) (k:=5) (w:=[59]) (fun s=>D6 hK (by decide +kernel));have bc23:=(bc22.want (E:=E) (k:=5) (w:=[59]) (by decide)).1;simp only [go_sem,seval,ne0,A0,A1];repeat' ((with_reducible first|refine wr ?_|refine A2 ?_ ?_|fail)<;>try simp only [go_sem,seval,ne0,A0,A1])
   rw [D4 (rv7 rfl A0)];refine ⟨_,_,W0 (cc:=cc) (K:=H.upd t (paB L E (C5 L E sc22 5 [59]))) (i:=c22) [xc22] (.inr ⟨rfl,rfl⟩) (.inr ⟨rfl,rfl⟩) (B7 hfr htc) (by omega) ?_ (fun j hj=>?_),.mk (2+k) [] (A7 L E (B1 s) 4).1.text [xc22] [] [] (A4 L E s).pos,(C5 L E sc22 5 [59]),by rw [Pb.St.v_w];rfl,rfl,qc23,fun k=>?_,bc23⟩
   ·rw [A0i];dsimp only
    repeat (first|exact A0|rw [A3 (by omega)]|rw [D7 (by omega)])
   ·simp [Hp.upd,Hp.del,show ¬j=cc by omega,show ¬j=c1 by omega,show ¬j=c1+1 by omega,show ¬j=c22 by omega];try (split<;>rfl)
   ·rw [uc22 (A1o k)]
 rw [if_neg k18] at h;by_cases k19:2+k=19
 ·rw [if_pos k19] at h;cases h;have f2:(2+k == 2)=false:=by simp;omega
  have f3:(2+k == 3)=false:=by simp;omega
  have f4:(2+k == 4)=false:=by simp;omega
  have f8:(2+k == 8)=false:=by simp;omega
  have f10:(2+k == 10)=false:=by simp;omega
  have f9:(2+k == 9)=false:=by simp;omega
  have f18:(2+k == 18)=false:=by simp;omega
  have f19:(2+k == 19)=true:=by simp;omega
  repeat' ((with_reducible first|refine wr ?_|refine A2 ?_ ?_|fail)<;>try simp only [go_sem,seval,f2,f3,f4,f8,f10,f9,f18,f19,ne0,A0,A1])
  refine AC.call (c_want L E (B1 s) _ _ t (by repeat (first|exact A0|rw [A3 (by omega)]|rw [D7 (by omega)])) (by omega) (by have:=hPn.i;omega) 5 [59]) ?_;rintro v H' c24 ⟨rfl,rfl⟩ hc24;have qc24:=hqn.want (L:=L) (E:=E) (k:=5) (w:=[59]) (fun s=>D6 hK (by decide +kernel));have bc24:=(hPn.want (E:=E) (k:=5) (w:=[59]) (by decide)).1;simp only [go_sem,seval,ne0,A0,A1];repeat' ((with_reducible first|refine wr ?_|refine A2 ?_ ?_|fail)<;>try simp only [go_sem,seval,ne0,A0,A1])
  rw [D4 (rv7 rfl A0)];refine ⟨_,_,gl_st (cc:=cc) (K:=H.upd t (paB L E (C5 L E (B1 s) 5 [59]))) (.inr ⟨rfl,rfl⟩) (.inr ⟨rfl,rfl⟩) (.inr ⟨rfl,rfl⟩) (B7 hfr htc) (fun j hj=>?_),.mk (2+k) [] [] [] [] [] (A4 L E s).pos,(C5 L E (B1 s) 5 [59]),by rw [Pb.St.v_w];rfl,rfl,qc24,fun k=>?_,bc24⟩
  ·simp [Hp.upd,Hp.del,show ¬j=cc by omega,show ¬j=c1 by omega,show ¬j=c1+1 by omega];try (split<;>rfl)
  ·rfl
 rw [if_neg k19] at h;dsimp only at h;by_cases k8:2+k=8
 ·rw [if_pos (by omega)] at h;cases hz25:E6 L E f (A7 L E (B1 s) 1).2 with
  | none=>rw [hz25] at h;cases h
  | some qhz25 =>
   obtain ⟨e,m2⟩:=qhz25;rw [hz25] at h;dsimp only at h;rw [if_neg (by omega)] at h;cases h;have f2:(2+k == 2)=false:=by simp;omega
   have f3:(2+k == 3)=false:=by simp;omega
   have f4:(2+k == 4)=false:=by simp;omega
   have f8:(2+k == 8)=true:=by simp;omega
   have f10:(2+k == 10)=false:=by simp;omega
   have f9:(2+k == 9)=false:=by simp;omega
   have f18:(2+k == 18)=false:=by simp;omega
   have f19:(2+k == 19)=false:=by simp;omega
   repeat' ((with_reducible first|refine wr ?_|refine A2 ?_ ?_|fail)<;>try simp only [go_sem,seval,f2,f3,f4,f8,f10,f9,f18,f19,ne0,A0,A1])
   refine AC.call (c_ptake L E (B1 s) _ _ t (by repeat (first|exact A0|rw [A3 (by omega)]|rw [D7 (by omega)])) (by omega) (by have:=hPn.i;omega) 1) ?_;rintro v H' c26 ⟨rfl,rfl⟩ hc26;obtain ⟨qc26,vc26⟩:=hqn.take (L:=L) (E:=E) (k:=1);have bc26:=(hPn.take (E:=E) (x:=1) (by decide)).1;simp only [go_sem,seval,ne0,A0,A1];repeat' ((with_reducible first|refine wr ?_|refine A2 ?_ ?_|fail)<;>try simp only [go_sem,seval,ne0,A0,A1])
   refine AC.call (c_pexpr L E hL hK f (A7 L E (B1 s) 1).2 (A7 L E (B1 s) 1).2 (e,m2) qc26 hz25 bc26.i _ _ t (by repeat (first|exact A0|rw [A3 (by omega)]|rw [D7 (by omega)])) (by omega)) ?_;rintro v H' c27 ⟨xc27,sc27,rfl,rfl,qc27,uc27,bc27⟩ hc27;dsimp only at qc27 uc27;have ne0:=S3 t cc c1 (c1+1) c27 (by omega);simp only [go_sem,seval,Ex.v_w,ne0,A0,A1];repeat' ((with_reducible first|refine wr ?_|refine A2 ?_ ?_|fail)<;>try simp only [go_sem,seval,ne0,A0,A1])
   refine AC.call (c_want L E sc27 _ _ t (by repeat (first|exact A0|rw [A3 (by omega)]|rw [D7 (by omega)])) (by omega) (by have:=bc27.i;omega) 5 [59]) ?_;rintro v H' c28 ⟨rfl,rfl⟩ hc28;have qc28:=qc27.want (L:=L) (E:=E) (k:=5) (w:=[59]) (fun s=>D6 hK (by decide +kernel));have bc28:=(bc27.want (E:=E) (k:=5) (w:=[59]) (by decide)).1;simp only [go_sem,seval,ne0,A0,A1];repeat' ((with_reducible first|refine wr ?_|refine A2 ?_ ?_|fail)<;>try simp only [go_sem,seval,ne0,A0,A1])
   rw [D4 (rv7 rfl A0)];refine ⟨_,_,W0 (cc:=cc) (K:=H.upd t (paB L E (C5 L E sc27 5 [59]))) (i:=c27) [xc27] (.inr ⟨rfl,rfl⟩) (.inr ⟨rfl,rfl⟩) (B7 hfr htc) (by omega) ?_ (fun j hj=>?_),.mk (2+k) (A7 L E (B1 s) 1).1.text [] [xc27] [] [] (A4 L E s).pos,(C5 L E sc27 5 [59]),by rw [Pb.St.v_w];rfl,rfl,qc28,fun k=>?_,bc28⟩
   ·rw [A0i];dsimp only
    repeat (first|exact A0|rw [A3 (by omega)]|rw [D7 (by omega)])
   ·simp [Hp.upd,Hp.del,show ¬j=cc by omega,show ¬j=c1 by omega,show ¬j=c1+1 by omega,show ¬j=c27 by omega];try (split<;>rfl)
   ·rw [uc27 (A1o k)]
 by_cases k10:2+k=10
 ·rw [if_pos (by omega)] at h;cases hz29:E6 L E f (A7 L E (B1 s) 1).2 with
  | none=>rw [hz29] at h;cases h
  | some qhz29 =>
   obtain ⟨e,m2⟩:=qhz29;rw [hz29] at h;dsimp only at h;rw [if_neg (by omega)] at h;cases h;have f2:(2+k == 2)=false:=by simp;omega
   have f3:(2+k == 3)=false:=by simp;omega
   have f4:(2+k == 4)=false:=by simp;omega
   have f8:(2+k == 8)=false:=by simp;omega
   have f10:(2+k == 10)=true:=by simp;omega
   have f9:(2+k == 9)=false:=by simp;omega
   have f18:(2+k == 18)=false:=by simp;omega
   have f19:(2+k == 19)=false:=by simp;omega
   repeat' ((with_reducible first|refine wr ?_|refine A2 ?_ ?_|fail)<;>try simp only [go_sem,seval,f2,f3,f4,f8,f10,f9,f18,f19,ne0,A0,A1])
   refine AC.call (c_ptake L E (B1 s) _ _ t (by repeat (first|exact A0|rw [A3 (by omega)]|rw [D7 (by omega)])) (by omega) (by have:=hPn.i;omega) 1) ?_;rintro v H' c30 ⟨rfl,rfl⟩ hc30;obtain ⟨qc30,vc30⟩:=hqn.take (L:=L) (E:=E) (k:=1);have bc30:=(hPn.take (E:=E) (x:=1) (by decide)).1;simp only [go_sem,seval,ne0,A0,A1];repeat' ((with_reducible first|refine wr ?_|refine A2 ?_ ?_|fail)<;>try simp only [go_sem,seval,ne0,A0,A1])
   refine AC.call (c_pexpr L E hL hK f (A7 L E (B1 s) 1).2 (A7 L E (B1 s) 1).2 (e,m2) qc30 hz29 bc30.i _ _ t (by repeat (first|exact A0|rw [A3 (by omega)]|rw [D7 (by omega)])) (by omega)) ?_;rintro v H' c31 ⟨xc31,sc31,rfl,rfl,qc31,uc31,bc31⟩ hc31;dsimp only at qc31 uc31;have ne0:=S3 t cc c1 (c1+1) c31 (by omega);simp only [go_sem,seval,Ex.v_w,ne0,A0,A1];repeat' ((with_reducible first|refine wr ?_|refine A2 ?_ ?_|fail)<;>try simp only [go_sem,seval,ne0,A0,A1])
   refine AC.call (c_want L E sc31 _ _ t (by repeat (first|exact A0|rw [A3 (by omega)]|rw [D7 (by omega)])) (by omega) (by have:=bc31.i;omega) 5 [59]) ?_;rintro v H' c32 ⟨rfl,rfl⟩ hc32;have qc32:=qc31.want (L:=L) (E:=E) (k:=5) (w:=[59]) (fun s=>D6 hK (by decide +kernel));have bc32:=(bc31.want (E:=E) (k:=5) (w:=[59]) (by decide)).1;simp only [go_sem,seval,ne0,A0,A1];repeat' ((with_reducible first|refine wr ?_|refine A2 ?_ ?_|fail)<;>try simp only [go_sem,seval,ne0,A0,A1])
   rw [D4 (rv7 rfl A0)];refine ⟨_,_,W0 (cc:=cc) (K:=H.upd t (paB L E (C5 L E sc31 5 [59]))) (i:=c31) [xc31] (.inr ⟨rfl,rfl⟩) (.inr ⟨rfl,rfl⟩) (B7 hfr htc) (by omega) ?_ (fun j hj=>?_),.mk (2+k) (A7 L E (B1 s) 1).1.text [] [xc31] [] [] (A4 L E s).pos,(C5 L E sc31 5 [59]),by rw [Pb.St.v_w];rfl,rfl,qc32,fun k=>?_,bc32⟩
   ·rw [A0i];dsimp only
    repeat (first|exact A0|rw [A3 (by omega)]|rw [D7 (by omega)])
   ·simp [Hp.upd,Hp.del,show ¬j=cc by omega,show ¬j=c1 by omega,show ¬j=c1+1 by omega,show ¬j=c31 by omega];try (split<;>rfl)
   ·rw [uc31 (A1o k)]
 by_cases k9:2+k=9
 ·rw [if_pos (by omega)] at h;cases hz33:E6 L E f (A7 L E (B1 s) 1).2 with
  | none=>rw [hz33] at h;cases h
  | some qhz33 =>
   obtain ⟨e,m2⟩:=qhz33;rw [hz33] at h;dsimp only at h;rw [if_pos k9] at h;cases hz34:E6 L E f (C2 L E m2 [44]) with
   | none=>rw [hz34] at h;cases h
   | some qhz34 =>
    obtain ⟨e2,m3⟩:=qhz34;rw [hz34] at h;dsimp only at h;cases h;have f2:(2+k == 2)=false:=by simp;omega
    have f3:(2+k == 3)=false:=by simp;omega
    have f4:(2+k == 4)=false:=by simp;omega
    have f8:(2+k == 8)=false:=by simp;omega
    have f10:(2+k == 10)=false:=by simp;omega
    have f9:(2+k == 9)=true:=by simp;omega
    have f18:(2+k == 18)=false:=by simp;omega
    have f19:(2+k == 19)=false:=by simp;omega
    repeat' ((with_reducible first|refine wr ?_|refine A2 ?_ ?_|fail)<;>try simp only [go_sem,seval,f2,f3,f4,f8,f10,f9,f18,f19,ne0,A0,A1])
    refine AC.call (c_ptake L E (B1 s) _ _ t (by repeat (first|exact A0|rw [A3 (by omega)]|rw [D7 (by omega)])) (by omega) (by have:=hPn.i;omega) 1) ?_;rintro v H' c35 ⟨rfl,rfl⟩ hc35;obtain ⟨qc35,vc35⟩:=hqn.take (L:=L) (E:=E) (k:=1);have bc35:=(hPn.take (E:=E) (x:=1) (by decide)).1;simp only [go_sem,seval,ne0,A0,A1];repeat' ((with_reducible first|refine wr ?_|refine A2 ?_ ?_|fail)<;>try simp only [go_sem,seval,ne0,A0,A1])
    refine AC.call (c_pexpr L E hL hK f (A7 L E (B1 s) 1).2 (A7 L E (B1 s) 1).2 (e,m2) qc35 hz33 bc35.i _ _ t (by repeat (first|exact A0|rw [A3 (by omega)]|rw [D7 (by omega)])) (by omega)) ?_;rintro v H' c36 ⟨xc36,sc36,rfl,rfl,qc36,uc36,bc36⟩ hc36;dsimp only at qc36 uc36;have ne0:=S3 t cc c1 (c1+1) c36 (by omega);simp only [go_sem,seval,Ex.v_w,ne0,A0,A1];repeat' ((with_reducible first|refine wr ?_|refine A2 ?_ ?_|fail)<;>try simp only [go_sem,seval,ne0,A0,A1])
    refine AC.call (c_want L E sc36 _ _ t (by repeat (first|exact A0|rw [A3 (by omega)]|rw [D7 (by omega)])) (by omega) (by have:=bc36.i;omega) 5 [44]) ?_;rintro v H' c37 ⟨rfl,rfl⟩ hc37;have qc37:=qc36.want (L:=L) (E:=E) (k:=5) (w:=[44]) (fun s=>D6 hK (by decide +kernel));have bc37:=(bc36.want (E:=E) (k:=5) (w:=[44]) (by decide)).1;simp only [go_sem,seval,ne0,A0,A1];repeat' ((with_reducible first|refine wr ?_|refine A2 ?_ ?_|fail)<;>try simp only [go_sem,seval,ne0,A0,A1])
    refine AC.call (c_pexpr L E hL hK f (C5 L E sc36 5 [44]) (C2 L E m2 [44]) (e2,m3) qc37 hz34 bc37.i _ _ t (by repeat (first|exact A0|rw [A3 (by omega)]|rw [D7 (by omega)])) (by omega)) ?_;rintro v H' c38 ⟨xc38,sc38,rfl,rfl,qc38,uc38,bc38⟩ hc38;dsimp only at qc38 uc38;have ne0:=nes6 t cc c1 (c1+1) c36 (c37+4) (by omega);simp only [go_sem,seval,Ex.v_w,ne0,A0,A1];repeat' ((with_reducible first|refine wr ?_|refine A2 ?_ ?_|fail)<;>try simp only [go_sem,seval,ne0,A0,A1])
    refine ⟨?_,?_⟩
    ·and_intros
     all_goals ((repeat rw [A3 (by omega)]);exact hfr _ (by omega))
    have ne0:=nes7 t cc c1 (c1+1) c36 (c37+4) c38 (by omega);try simp only [go_sem,seval,U7,D7,A0f,ne0,A0,A1]
    repeat' ((with_reducible first|refine wr ?_|refine A2 ?_ ?_|fail)<;>try simp only [go_sem,seval,U7,D7,A0f,ne0,A0,A1])
    refine K5 (D0 (by rfl) (by omega) (by omega)) ?_;try simp only [go_sem,seval,D7,A0f,ne0,A0,A1]
    repeat' ((with_reducible first|refine wr ?_|refine A2 ?_ ?_|fail)<;>try simp only [go_sem,seval,D7,A0f,ne0,A0,A1])
    refine AC.call (c_want L E sc38 _ _ t (by repeat (first|exact A0|rw [A3 (by omega)]|rw [D7 (by omega)])) (by omega) (by have:=bc38.i;omega) 5 [59]) ?_;rintro v H' c39 ⟨rfl,rfl⟩ hc39;have qc39:=qc38.want (L:=L) (E:=E) (k:=5) (w:=[59]) (fun s=>D6 hK (by decide +kernel));have bc39:=(bc38.want (E:=E) (k:=5) (w:=[59]) (by decide)).1;simp only [go_sem,seval,ne0,A0,A1];repeat' ((with_reducible first|refine wr ?_|refine A2 ?_ ?_|fail)<;>try simp only [go_sem,seval,ne0,A0,A1])
    rw [D4 (rv7 rfl A0)];refine ⟨_,_,W0 (cc:=cc) (K:=H.upd t (paB L E (C5 L E sc38 5 [59]))) (i:=c38) [xc36,xc38] (.inr ⟨rfl,rfl⟩) (.inr ⟨rfl,rfl⟩) (B7 hfr htc) (by omega) ?_ (fun j hj=>?_),.mk (2+k) (A7 L E (B1 s) 1).1.text [] [xc36,xc38] [] [] (A4 L E s).pos,(C5 L E sc38 5 [59]),by rw [Pb.St.v_w];rfl,rfl,qc39,fun k=>?_,bc39⟩
    ·rw [ex_c2];dsimp only
     repeat (first|exact A0|rw [A3 (by omega)]|rw [D7 (by omega)])
    ·simp [Hp.upd,Hp.del,show ¬j=cc by omega,show ¬j=c1 by omega,show ¬j=c1+1 by omega,show ¬j=c36 by omega,show ¬j=c37+4 by omega,show ¬j=c38 by omega];try (split<;>rfl)
    ·have k2:=A1o k;have k3:=A1o (expn_m hz34 k2);rw [uc38 k2,uc36 k3]
 rw [if_neg (by omega)] at h;cases h;have f2:(2+k == 2)=false:=by simp;omega
 have f3:(2+k == 3)=false:=by simp;omega
 have f4:(2+k == 4)=false:=by simp;omega
 have f8:(2+k == 8)=false:=by simp;omega
 have f10:(2+k == 10)=false:=by simp;omega
 have f9:(2+k == 9)=false:=by simp;omega
 have f18:(2+k == 18)=false:=by simp;omega
 have f19:(2+k == 19)=false:=by simp;omega
 repeat' ((with_reducible first|refine wr ?_|refine A2 ?_ ?_|fail)<;>try simp only [go_sem,seval,f2,f3,f4,f8,f10,f9,f18,f19,ne0,A0,A1])
 refine AC.call (c_ptake L E (B1 s) _ _ t (by repeat (first|exact A0|rw [A3 (by omega)]|rw [D7 (by omega)])) (by omega) (by have:=hPn.i;omega) 1) ?_;rintro v H' c40 ⟨rfl,rfl⟩ hc40;obtain ⟨qc40,vc40⟩:=hqn.take (L:=L) (E:=E) (k:=1);have bc40:=(hPn.take (E:=E) (x:=1) (by decide)).1;simp only [go_sem,seval,ne0,A0,A1];repeat' ((with_reducible first|refine wr ?_|refine A2 ?_ ?_|fail)<;>try simp only [go_sem,seval,ne0,A0,A1])
 refine AC.call (c_want L E (A7 L E (B1 s) 1).2 _ _ t (by repeat (first|exact A0|rw [A3 (by omega)]|rw [D7 (by omega)])) (by omega) (by have:=bc40.i;omega) 5 [59]) ?_;rintro v H' c41 ⟨rfl,rfl⟩ hc41;have qc41:=qc40.want (L:=L) (E:=E) (k:=5) (w:=[59]) (fun s=>D6 hK (by decide +kernel));have bc41:=(bc40.want (E:=E) (k:=5) (w:=[59]) (by decide)).1;simp only [go_sem,seval,ne0,A0,A1];repeat' ((with_reducible first|refine wr ?_|refine A2 ?_ ?_|fail)<;>try simp only [go_sem,seval,ne0,A0,A1])
 rw [D4 (rv7 rfl A0)];refine ⟨_,_,gl_st (cc:=cc) (K:=H.upd t (paB L E (C5 L E (A7 L E (B1 s) 1).2 5 [59]))) (.inr ⟨rfl,rfl⟩) (.inr ⟨rfl,rfl⟩) (.inr ⟨rfl,rfl⟩) (B7 hfr htc) (fun j hj=>?_),.mk (2+k) (A7 L E (B1 s) 1).1.text [] [] [] [] (A4 L E s).pos,(C5 L E (A7 L E (B1 s) 1).2 5 [59]),by rw [Pb.St.v_w];rfl,rfl,qc41,fun k=>?_,bc41⟩
 ·simp [Hp.upd,Hp.del,show ¬j=cc by omega,show ¬j=c1 by omega,show ¬j=c1+1 by omega];try (split<;>rfl)
 ·rfl
theorem c_pother (L:List Tok) (E:Int) (hL:L.length<=1000000000) (hK:∀ t∈L,E7 t) (f:Nat)
  (ib:∀ g,g<f->∀ d s m r,0<=d->d<=9->Eqv s m->G1 L E g d m=some r->PI L s->PlC L E 198 [I64 d] s r)
  (is:∀ g,g<f->∀ d s r,0<=d->d<=8->A3q L E s=true->L9 L E g d s=some r->PI L s->PsC L E 211 [I64 d] s r)
  (d:Int) (s m:Rd) (r:List Pb.St × Rd) (hd0:0<=d) (hd:d<=8) (hq:Eqv s m) (h:elsM L E f d m=some r) (hP:PI L s):PlC L E 222 [I64 (d+1)] s r:=by
 intro H cc t ht htc;have hri:=hP.i;refine AC.bodyT A9 rfl (Nat.le_of_ble_eq_true rfl) fun hfr=>?_;have hio:=c_pisO L E s H (cc+1) t cc (hfr _ (Nat.le_refl _)) ht (by omega) 2 [[101,108,115,101]] (by simp);unfold elsM at h;rw [O0 hK (by decide +kernel), <- hq.isP] at h;repeat' ((with_reducible first|refine wr ?_|refine A2 ?_ ?_|fail)<;>try simp only [go_sem,seval])
 refine AC.call hio ?_;rintro v H c1 ⟨rfl,rfl⟩ hc1;cases he:isP L E s 2 [[101,108,115,101]] with
 | false =>
  rw [he,if_neg (by decide)] at h;cases h;simp only [go_sem,seval,he];repeat' ((with_reducible first|refine wr ?_|refine A2 ?_ ?_|fail)<;>try simp only [go_sem,seval,he])
  exact ⟨_,_,GL.view fun ρ vs hA=>J1 (fun v h=>h.snil_lst) vs hA,[],s,rfl,(upd_same ht).symm,hq,fun _=>rfl,hP⟩
 | true =>
  obtain ⟨ho,hlt, -⟩:=M6 (by decide) he;obtain rfl:s=m:=hq.s (by rw [<- hq.ok,ho]);rw [he,if_pos rfl] at h;have hP1:=hP.nxt hlt;have hw1:IntKind.i64.wrap ((s.i:Int)+1)=((s.i+1:Nat):Int):=by rw [w6z (by omega)];omega
  have hio2:=c_pisO L E (B1 s) (H.upd t (paB L E (B1 s))) (c1+1) t c1 (by rw [A3 (by omega)];exact hfr _ (by omega)) A0 (by omega) 2 [[105,102]] (by simp);cases f with
  | zero=>simp [U9] at h
  | succ f =>
  unfold U9 at h;rw [O0 hK (by decide +kernel)] at h;simp only [go_sem,seval,he];repeat' ((with_reducible first|refine wr ?_|refine A2 ?_ ?_|fail)<;>try simp only [go_sem,seval,he,ht,hw1,A0,A1])
  refine AC.call hio2 ?_;rintro v H' c2 ⟨rfl,rfl⟩ hc2;cases hf:isP L E (B1 s) 2 [[105,102]] with
  | false =>
   rw [hf,if_neg (by decide)] at h;simp only [go_sem,seval,hf];repeat' ((with_reducible first|refine wr ?_|refine A2 ?_ ?_|fail)<;>try simp only [go_sem,seval,hf])
   refine AC.call (ib f (by omega) (d+1) _ _ r (by omega) (by omega) (.refl _) h hP1 _ _ t A0 (by omega)) ?_;rintro v H' c3 ⟨x,s3,rfl,rfl,q1,q2,q3⟩ hc3;simp only [go_sem,seval,A1];repeat' ((with_reducible first|refine wr ?_|refine A2 ?_ ?_|fail)<;>try simp only [go_sem,seval,A1])
   exact ⟨_,_,GL.refl _ _,x,s3,rfl,rfl,q1,q2,q3⟩
  | true =>
   rw [hf,if_pos rfl] at h;cases hs:L9 L E f (d+1) (B1 s) with
   | none=>rw [hs] at h;cases h
   | some q =>
   obtain ⟨x0,m3⟩:=q;rw [hs] at h;cases h;by_cases h8:d+1>8
   ·have hd8:decide (d+1>8)=true:=by simpa using h8
    have hm3:okR m3=false/\Eqv (pfl L E (B1 s) 50) m3:=by
     cases f with
     | zero=>simp [L9] at hs
     | succ f =>
      unfold L9 at hs;dsimp only at hs;have hl:B5 L E (B1 s) (d+1) 8 50=pfl L E (B1 s) 50:=by rw [P5,if_pos h8]
      have hnk:okR (pfl L E (B1 s) 50)=false:=by unfold pfl;exact J5 (by decide)
      rw [hl,if_pos hnk] at hs;cases hs;exact ⟨hnk,.refl _⟩
    simp only [go_sem,seval,hf];repeat' ((with_reducible first|refine wr ?_|refine A2 ?_ ?_|fail)<;>try simp only [go_sem,seval,hf,hd8])
    refine AC.call (c_pfail L E (B1 s) _ _ t A0 (by omega) 50) ?_;rintro v H' c3 ⟨rfl,rfl⟩ hc3;simp only [go_sem,seval,A1];repeat' ((with_reducible first|refine wr ?_|refine A2 ?_ ?_|fail)<;>try simp only [go_sem,seval,A1])
    exact ⟨_,_,GL.view fun ρ vs hA=>J1 (fun v h=>h.snil_lst) vs hA,[],_,rfl,rfl,hm3.2,fun k=>(by simp [hm3.1] at k),hP1.fl⟩
   ·have hd8:decide (d+1>8)=false:=by simpa using h8
    have hbg:A3q L E (B1 s)=true:=by
     obtain ⟨g1,g2,g3⟩:=M6 (by decide) hf;unfold A3q;rw [g1,g3,isP_tx hf];decide +kernel
    simp only [go_sem,seval,hf];repeat' ((with_reducible first|refine wr ?_|refine A2 ?_ ?_|fail)<;>try simp only [go_sem,seval,hf,hd8])
    refine AC.call (is f (by omega) (d+1) (B1 s) _ (by omega) (by omega) hbg hs hP1 _ _ t A0 (by omega)) ?_;rintro v H' c3 ⟨x,s3,rfl,rfl,q1,q2,q3⟩ hc3;simp only [go_sem,seval,A1,Pb.St.v_w];repeat' ((with_reducible first|refine wr ?_|refine A2 ?_ ?_|fail)<;>try simp only [go_sem,seval,A1])
    refine ⟨_,_,gl_frS (cc:=cc) (K:=H.upd t (paB L E s3)) [x] (B7 hfr htc) (by omega) (by rw [st_c1];exact A0) (fun j hj=>by rw [A3 (by omega)]),[x],s3,rfl,rfl,q1,fun k=>(by rw [q2 k]),q3⟩
theorem c_pblock (L:List Tok) (E:Int) (hL:L.length<=1000000000) (hK:∀ t∈L,E7 t) (f:Nat)
  (is:∀ g,g<=f->∀ d s r,0<=d->d<=8->A3q L E s=true->L9 L E g d s=some r->PI L s->PsC L E 211 [I64 d] s r)
  (d:Int) (s m:Rd) (r:List Pb.St × Rd) (hd0:0<=d) (hd:d<=9) (hq:Eqv s m) (h:G1 L E (f+1) d m=some r) (hP:PI L s):PlC L E 198 [I64 d] s r:=by
 intro H cc t ht htc;have hri:=hP.i;refine AC.bodyT A9 rfl (Nat.le_of_ble_eq_true rfl) fun hfr=>?_;unfold G1 at h;repeat' ((with_reducible first|refine wr ?_|refine A2 ?_ ?_|fail)<;>try simp only [go_sem,seval])
 refine AC.call (c_want L E s _ _ t ht (by omega) (by omega) 5 [123]) ?_;rintro v H' c1 ⟨rfl,rfl⟩ hc1;have q0:=hq.want (L:=L) (E:=E) (k:=5) (w:=[123]) (fun s=>D6 hK (by decide +kernel));have b0:=(hP.want (E:=E) (k:=5) (w:=[123]) (by decide)).1;simp only [go_sem,seval];repeat' ((with_reducible first|refine wr ?_|refine A2 ?_ ?_|fail)<;>try simp only [go_sem,seval])
 refine F3 (fun q:Nat × List Pb.St × Rd × Option Nat × List Pb.St × Rd=>[(0,.ptr t 0),(1,I64 d),(5,B6 q.2.2.2.1 q.2.2.2.2.1.length)]) (fun q=>C8 (H.upd t (paB L E q.2.2.2.2.2)) q.2.2.2.1 ⟨7,true,A6 (q.2.2.2.2.1.map Pb.St.v)⟩)
  (fun q c=>cc<=c/\q.1<=f/\(q.2.2.2.1=none->q.2.2.2.2.1=[])/\(∀ i,q.2.2.2.1=some i->cc<=i/\i<c)/\q.2.2.2.2.1.length<=64/\P0 L E q.1 d q.2.1 q.2.2.1=some r/\Eqv q.2.2.2.2.2 q.2.2.1/\(okR q.2.2.1=true->q.2.2.2.2.1=q.2.1)/\PI L q.2.2.2.2.2) (fun q=>q.1) (f,[],C2 L E m [123],none,[],C5 L E s 5 [123])
  (by simp [D5,tm,Tm.upd,B6]) (Sub.refl _) ⟨hc1,Nat.le_refl _,fun _=>rfl,(fun i hi=>by cases hi),by simp,h,q0,fun _=>rfl,b0⟩ ?_
 clear h q0 b0 hri;rintro ⟨g,l,m,o,xs,u⟩ c ⟨hc,hg,hno,ho,hl1,hv,hq,hxs,hP⟩;dsimp only at hc hg hno ho hl1 hv hq hxs hP ⊢;have hri:=hP.i;have hHt:C8 (H.upd t (paB L E u)) o ⟨7,true,A6 (xs.map Pb.St.v)⟩ t=some (paB L E u):=by rw [E4 (fun i hi=>by have:=ho i hi;omega),A0]
 have hfin:∀ (z:Rd) (j:Nat),j<cc->((C8 (H.upd t (paB L E u)) o ⟨7,true,A6 (xs.map Pb.St.v)⟩).upd t (paB L E z)) j=(H.upd t (paB L E z)) j:=fun z j hj=>by
  by_cases ej:j=t
  ·subst ej;rw [A0,A0]
  ·rw [A3 ej,A3 ej,E4 (fun i hi=>by have:=ho i hi;omega),A3 ej]
 have hbo:∀ (z:Rd) (i:Nat),o=some i->((C8 (H.upd t (paB L E u)) o ⟨7,true,A6 (xs.map Pb.St.v)⟩).upd t (paB L E z)) i=some ⟨7,true,A6 (xs.map Pb.St.v)⟩:=fun z i hi=>by
  have:=ho i hi;rw [A3 (by omega)];subst hi;exact A0
 have hsub:∀ z,Sub (C8 (H.upd t (paB L E z)) o ⟨7,true,A6 (xs.map Pb.St.v)⟩) ((C8 (H.upd t (paB L E u)) o ⟨7,true,A6 (xs.map Pb.St.v)⟩).upd t (paB L E z)):=fun z j b hj=>by
  by_cases e:j=t
  ·subst e;rw [E4 (fun i hi=>by have:=ho i hi;omega),A0] at hj;rw [A0];exact hj
  ·rw [A3 e];cases o with
   | none=>simp only [C8] at hj ⊢;rw [A3 e] at hj ⊢;exact hj
   | some i =>
    simp only [C8] at hj ⊢;by_cases e2:j=i
    ·subst e2;rw [A0] at hj ⊢;exact hj
    ·rw [A3 e2,A3 e] at hj ⊢;exact hj
 cases g with
 | zero=>simp [P0] at hv
 | succ g =>
 unfold P0 at hv;repeat' ((with_reducible first|refine wr ?_|refine A2 ?_ ?_|fail)<;>try simp only [go_sem,seval])
 refine AC.call (c_begins L E u _ _ t hHt (by omega)) ?_;rintro v H' c2 ⟨rfl,rfl⟩ hc2;have hba:=beg_amg (E:=E) hK (s:=u);cases hb:A3q L E u with
 | false =>
  have hres:Eqv (C5 L E u 5 [125]) r.2/\(okR r.2=true->xs=r.1):=by
   by_cases h1:okR m=true/\isR L E m [125]=false
   ·rw [if_pos h1] at hv;obtain rfl:=hq.s h1.1;have hn:¬ (0<=B4 L E u B3\/F8 L E u 1=true):=fun hh=>by
     have:=hba.2 ⟨h1.1,hh⟩;rw [hb] at this;cases this
    rw [if_pos ⟨by omega,by cases hk:F8 L E u 1 with|false=>rfl|true=>exact absurd (.inr hk) hn⟩] at hv;cases hv;have hw:C5 L E u 5 [125]=L8 L E u:=by
     rw [C5, <- D6 hK (by decide +kernel),if_pos h1.2];rfl
    rw [hw];exact ⟨.refl _,fun k=>(by rw [A2q] at k;cases k)⟩
   ·rw [if_neg h1] at hv;cases hv;exact ⟨hq.want (fun s=>D6 hK (by decide +kernel)),fun k=>hxs (A1o k)⟩
  have b1:=(hP.want (E:=E) (k:=5) (w:=[125]) (by decide)).1;simp only [go_sem,seval,hb];repeat' ((with_reducible first|refine wr ?_|refine A2 ?_ ?_|fail)<;>try simp only [go_sem,seval,hb])
  refine AC.call (c_want L E u _ _ t hHt (by omega) (by omega) 5 [125]) ?_;rintro v H' c3 ⟨rfl,rfl⟩ hc3;simp only [go_sem,seval];repeat' ((with_reducible first|refine wr ?_|refine A2 ?_ ?_|fail)<;>try simp only [go_sem,seval])
  exact ⟨_,_,gl_todoS (cc:=cc) xs (B7 hfr htc) (fun i hi=>(ho i hi).1) hno (hbo _) (hfin _),xs,_,rfl,rfl,hres.1,hres.2,b1⟩
 | true =>
  obtain ⟨hok,hbk⟩:=hba.1 hb;obtain rfl:u=m:=hq.s (by rw [<- hq.ok,hok]);obtain rfl:xs=l:=hxs hok;have hnb:isR L E u [125]=false:=by
   rw [D6 hK (by decide +kernel)];have hk5:((A4 L E u).kind == 5)=false:=by
    rcases hbk with hk|hk
    ·have:=((stm_lk (E:=E) hK hok).1 hk).1;simp [this]
    ·have:=(J8 hk).2;simp [this]
   unfold isP;rw [hok,hk5];rfl
  rw [if_pos ⟨hok,hnb⟩,if_neg (fun hh=>by
   rcases hbk with hk|hk
   ·omega
   ·rw [hh.2] at hk;cases hk)] at hv
  have hlen:lenR (B6 o xs.length)=some (I64 xs.length):=by
   cases o with
   | none=>rw [hno rfl];rfl
   | some b=>rfl
  cases hs:L9 L E g d (B5 L E u ((xs.length:Int)+1) 64 9) with
  | none=>rw [hs] at hv;cases hv
  | some q =>
  obtain ⟨x0,m1⟩:=q;rw [hs] at hv;dsimp only at hv;by_cases h64:xs.length=64
  ·have hd64:((xs.length:Int) == 64)=true:=by simp;omega
   have hl:B5 L E u ((xs.length:Int)+1) 64 9=pfl L E u 9:=by rw [P5,if_pos (by omega)]
   have hnk:okR (pfl L E u 9)=false:=by unfold pfl;exact J5 (by decide)
   rw [hl] at hs;cases st_nok2 hs hnk;simp only [go_sem,seval,hb];repeat' ((with_reducible first|refine wr ?_|refine A2 ?_ ?_|fail)<;>try simp only [go_sem,seval,hb,hlen,hd64])
   refine AC.call (c_pfail L E u _ _ t hHt (by omega) 9) ?_;rintro v H' c3 ⟨rfl,rfl⟩ hc3;simp only [go_sem,seval];repeat' ((with_reducible first|refine wr ?_|refine A2 ?_ ?_|fail)<;>try simp only [go_sem,seval])
   refine ⟨(g,xs++[St0],pfl L E u 9,o,xs,pfl L E u 9),by simp [D5,tm,Tm.upd],?_,inv ⟨by omega,by simp only;omega,hno,(fun i hi=>⟨(ho i hi).1,by have:=(ho i hi).2;omega⟩),hl1,hv,.refl _,fun k=>(by rw [hnk] at k;cases k),hP.fl⟩,by simp only;omega⟩;exact hsub _
  have hd64:((xs.length:Int) == 64)=false:=by simp;omega
  rw [S4 (by omega)] at hs;by_cases h8:d>8
  ·have hd8:decide (d>8)=true:=by simpa using h8
   have hnk:okR (pfl L E u 50)=false:=by unfold pfl;exact J5 (by decide)
   have hm1:m1=pfl L E u 50:=by
    cases g with
    | zero=>simp [L9] at hs
    | succ g =>
     unfold L9 at hs;dsimp only at hs;have hl:B5 L E u d 8 50=pfl L E u 50:=by rw [P5,if_pos h8]
     rw [hl,if_pos hnk] at hs;cases hs;rfl
   subst hm1;simp only [go_sem,seval,hb];repeat' ((with_reducible first|refine wr ?_|refine A2 ?_ ?_|fail)<;>try simp only [go_sem,seval,hb,hlen,hd64,hd8])
   refine AC.call (c_pfail L E u _ _ t hHt (by omega) 50) ?_;rintro v H' c3 ⟨rfl,rfl⟩ hc3;simp only [go_sem,seval];repeat' ((with_reducible first|refine wr ?_|refine A2 ?_ ?_|fail)<;>try simp only [go_sem,seval])
   refine ⟨(g,xs++[x0],pfl L E u 50,o,xs,pfl L E u 50),by simp [D5,tm,Tm.upd],?_,inv ⟨by omega,by simp only;omega,hno,(fun i hi=>⟨(ho i hi).1,by have:=(ho i hi).2;omega⟩),hl1,hv,.refl _,fun k=>(by rw [hnk] at k;cases k),hP.fl⟩,by simp only;omega⟩;exact hsub _
  have hd8:decide (d>8)=false:=by simpa using h8
  simp only [go_sem,seval,hb];repeat' ((with_reducible first|refine wr ?_|refine A2 ?_ ?_|fail)<;>try simp only [go_sem,seval,hb,hlen,hd64,hd8])
  refine AC.call (is g (by omega) d u _ hd0 (by omega) hb hs hP _ _ t hHt (by omega)) ?_;rintro v H' c3 ⟨x,s3,rfl,rfl,q1,q2,q3⟩ hc3;dsimp only at q1 q2;have ne0:=R1 t c3 (c3+1) (by omega);simp only [go_sem,seval,ne0,A1,Pb.St.v_w];repeat' ((with_reducible first|refine wr ?_|refine A2 ?_ ?_|fail)<;>try simp only [go_sem,seval,ne0])
  refine D3 (H9 (cs:=A6 (xs.map Pb.St.v)) (fun e=>by rw [hno e];exact ⟨rfl,rfl⟩) (fun i hi=>?_) (by rw [D1 (u:=7) (st_unit _)];simp) (by omega) (by omega) (by omega)) ?_
  ·have:=ho i hi;rw [A3 (by omega)];exact hbo _ i hi
  simp only [go_sem,seval,ne0];repeat' ((with_reducible first|refine wr ?_|refine A2 ?_ ?_|fail)<;>try simp only [go_sem,seval,ne0])
  refine ⟨(g,xs++[x0],m1,some (c3+1),xs++[x],s3),by simp only [List.length_append,List.length_singleton];rfl,?_,inv ⟨by omega,by simp only;omega,(fun h=>by cases h),(fun i hi=>by cases hi;omega),by simp only [List.length_append,List.length_singleton];omega,hv,q1,fun k=>(by simp only [q2 k]),q3⟩,by simp only;omega⟩;intro jj b hj;simp only [C8] at hj;by_cases e1:jj=c3+1
  ·subst e1;rw [A0] at hj ⊢;rw [<- hj,List.map_append,I0,st_c1]
  ·rw [A3 e1] at hj ⊢;by_cases e2:jj=t
   ·subst e2;rw [A0] at hj;rw [I3 (fun i hi=>by have:=ho i hi;omega),A3 (by omega),A0];exact hj
   ·rw [A3 e2] at hj;have hjc:jj<cc:=Classical.byContradiction fun h=>by rw [hfr jj (by omega)] at hj;cases hj
    rw [I3 (fun i hi=>by have:=ho i hi;omega),A3 (by omega),A3 e2,E4 (fun i hi=>by have:=ho i hi;omega),A3 e2];exact hj
theorem c_pst (L:List Tok) (E:Int) (hL:L.length<=1000000000) (hK:∀ t∈L,E7 t):∀ f:Nat,
  (∀ d s m r,0<=d->d<=9->Eqv s m->G1 L E f d m=some r->PI L s->PlC L E 198 [I64 d] s r) /\
  (∀ d s r,0<=d->d<=8->A3q L E s=true->L9 L E f d s=some r->PI L s->PsC L E 211 [I64 d] s r):=by
 intro f
 induction f using Nat.strongRecOn with
 | _ f ih =>
  cases f with
  | zero=>exact ⟨fun d s m r _ _ _ h=>by simp [G1] at h,fun d s r _ _ _ h=>by simp [L9] at h⟩
  | succ f =>
   exact ⟨fun d s m r h1 h2 hq h hP=>c_pblock L E hL hK f (fun g hg=>(ih g (by omega)).2) d s m r h1 h2 hq h hP,
    fun d s r h1 h2 hb h hP=>c_pstmt L E hL hK f (ih f (by omega)).1 (fun d s m r h1 h2 hq h hP=>c_pother L E hL hK f (fun g hg=>(ih g (by omega)).1) (fun g hg=>(ih g (by omega)).2) d s m r h1 h2 hq h hP) d s r h1 h2 hb h hP⟩
end Go.Proofs.YthlpinppaclofaaGreatDoor
set_option maxHeartbeats 4000000
namespace Go.Proofs.YthlpinppaclofaaGreatDoor
open Go.Eng (IC IOper DReg IFn G0)
open Go.Sym Go.Pb
theorem v_md {ρ : Ren} {v:Value} {a b e:DV} (h:VRel ρ (.agg [a,b,.snil,e]) v):VRel ρ (.agg [a,b,.lst [],e]) v:=by
 obtain ⟨bb,rfl,k1,k2⟩:=h.agg_inv;refine .agg _ _ k1 fun j x y hx hy=>?_
 match j with
 | 0=>cases hx;exact k2 0 _ y rfl hy
 | 1=>cases hx;exact k2 1 _ y rfl hy
 | 2=>cases hx;exact (k2 2 _ y rfl hy).snil_lst
 | 3=>cases hx;exact k2 3 _ y rfl hy
 | _+4=>cases hx
theorem gl_md {K H':Hp} {cc:Nat} {o:Option Nat} {a b e:DV} (l:List Hd) (hK:∀ i,cc<=i->K i=none) (ho:∀ i,o=some i->cc<=i) (hno:o=none->l=[]) (hb:∀ i,o=some i->H' i=some ⟨4,true,A6 (l.map Hd.v)⟩) (h:∀ j,j<cc->H' j=K j) :
  GL H' [.agg [a,b,B6 o l.length,e]] K [.agg [a,b,A4d l,e]]:=by
 cases o with
 | none =>
  obtain rfl:=hno rfl;exact (I7 hK h).trans (GL.view fun ρ vs hA=>J1 (fun v h=>v_md h) vs hA)
 | some i =>
  have:=ho i rfl;exact GL.frzS (id:=i) (hb i rfl) rfl (fun j=>by
   by_cases hj:j<cc
   ·exact .inr ⟨by omega,(h j hj).symm⟩
   ·exact .inl (hK j (by omega))) (.cons _ _ _ _ (.agg _ _ (.cons _ _ _ _ (.same _) (.cons _ _ _ _ (.same _) (.cons _ _ _ _ (I8 (u:=4) (by simp) (hd_unit l) ⟨[],by simp⟩) (.cons _ _ _ _ (.same _) .nil))))) .nil)
end Go.Proofs.YthlpinppaclofaaGreatDoor
set_option maxHeartbeats 8000000
namespace Go.Proofs.YthlpinppaclofaaGreatDoor
open Go.Eng (IC IOper DReg IFn G0)
open Go.Sym Go.Pb
theorem want_exp {L:List Tok} {E:Int} {s:Rd} {k:Int} {w:List UInt8} (h:isR L E s w=isP L E s k [w]):C5 L E s k w=C2 L E s w:=by unfold C5 C2;rw [h];rfl
theorem U1 {L:List Tok} {E:Int} (hK:∀ t∈L,E7 t) {s:Rd} {w:List UInt8} (h:E2 w=false):C5 L E s 5 w=C2 L E s w:=want_exp (D6 hK h)
theorem c_pdecl (L:List Tok) (E:Int) (s:Rd) (H:Hp) (cc t:Nat) (ht:H t=some (paB L E s)) (htc:t<cc) (hL:L.length<=1000000000) (hv:∀ x∈L,0<=x.value/\x.value<=9223372036854775807) (hK:∀ t∈L,E7 t) (hd:isP L E s 2 C4=true) :
  AC Tryz.prog 126 [.ptr t 0] H cc (fun v H' c'=>v=(A0z L E (B4 L E s C4) s).1.v/\H'=H.upd t (paB L E (A0z L E (B4 L E s C4) s).2)):=by
 obtain ⟨hok,hi,hk2⟩:=M6 (by decide) hd;have hkd:B4 L E s C4=J9 (A4 L E s).text 0 C4:=R9 (Y7 hK s (by decide +kernel)) (by rw [hok,hk2];rfl) 0;have hk0:0<=B4 L E s C4:=by
  have:=A2e (Y7 (E:=E) hK s (l:=C4) (by decide +kernel));rw [hd] at this;exact of_decide_eq_true this.symm
 have hk8:B4 L E s C4<8:=(amg_lt L E s C4 0).2;have htk:A7 L E s 2=(A4 L E s,B1 s):=by
  have hkk:F8 L E s 2=true:=by unfold F8;rw [hok,hk2];rfl
  unfold A7;rw [hkk,if_neg (by decide)]
 have hix:=c_Idx (A4 L E s).text C4 (by decide);rw [<- hkd] at hix;generalize B4 L E s C4=k at *;have hwk:IntKind.i64.wrap (1+k)=1+k:=w6z (by omega);have hn:(B1 s).i<=L.length:=hi;have hti:=A5p (E:=E) (x:=1) (by decide) hn;refine AC.bodyT A9 rfl (Nat.le_of_ble_eq_true rfl) fun hfr=>?_;repeat' ((with_reducible first|refine wr ?_|refine A2 ?_ ?_|fail)<;>try simp only [go_sem,seval])
 refine AC.call (c_ptake L E s _ _ t (by rw [A3 (by omega)];exact ht) (by omega) (by omega) 2) ?_;rintro v H' c1 ⟨rfl,rfl⟩ hc1;rw [htk];have ne0:=A4b t cc c1 (c1+1+8) (by omega);simp only [go_sem,seval,ne0,A0,A1];repeat' ((with_reducible first|refine wr ?_|refine cpc c_pdecls ?_|refine cpc hix ?_|refine A2 ?_ ?_|fail)<;>try simp only [go_sem,seval,hwk,ne0,A0,A1])
 refine ⟨by and_intros<;>((repeat rw [A3 (by omega)]);exact hfr _ (by omega)),?_⟩;repeat' ((with_reducible first|refine wr ?_|refine cpc c_pdecls ?_|refine cpc hix ?_|refine A2 ?_ ?_|fail)<;>try simp only [go_sem,seval,hwk,ne0,A0,A1])
 refine ⟨by and_intros<;>((repeat rw [A3 (by omega)]);exact hfr _ (by omega)),?_⟩;repeat' ((with_reducible first|refine wr ?_|refine cpc c_pdecls ?_|refine cpc hix ?_|refine A2 ?_ ?_|fail)<;>try simp only [go_sem,seval,hwk,ne0,A0,A1])
 refine AC.call (c_ptake L E (B1 s) _ _ t (by repeat (first|exact A0|rw [A3 (by omega)])) (by omega) (by omega) 1) ?_;rintro v H' c2 ⟨rfl,rfl⟩ hc2;have hval:∀ z,0<=(A7 L E z 3).1.value/\(A7 L E z 3).1.value<=9223372036854775807:=fun z=>by
  unfold A7;split
  ·exact ⟨Int.le_refl 0,(by decide:(0:Int)<=9223372036854775807)⟩
  ·show 0<=(A4 L E z).value/\(A4 L E z).value<=9223372036854775807;unfold A4;rw [List.getD_eq_getElem?_getD];cases hg:L[z.i]? with
   | none=>exact ⟨Int.le_refl 0,(by decide:(0:Int)<=9223372036854775807)⟩
   | some x=>exact hv x (List.mem_of_getElem? hg)
 obtain ⟨D,hD⟩:∃ D,D=A0z L E k s:=⟨_,rfl⟩;rw [<- hD];unfold A0z at hD;dsimp only at hD;generalize (A4 L E s).pos=p at hD ⊢;generalize (A7 L E (B1 s) 1).2=s2 at hD hti ⊢;by_cases h6:k+1<=6
 ·rw [if_pos h6] at hD;have f7:(1+k == 7)=false:=by simp;omega
  have f8:(1+k == 8)=false:=by simp;omega
  have hw2:IntKind.i64.wrap ((s2.i:Int)+1)=((s2.i+1:Nat):Int):=by rw [w6z (by omega)];omega
  by_cases h5:k=5
  ·have f6:(1+k == 6)=true:=by simp;omega
   have hm:(k+1 == 6)=true:=by simp;omega
   rw [hm,Bool.true_and] at hD;have hm2:isR L E s2 [45]=isP L E s2 5 [[45]]:=D6 hK (by decide +kernel);rw [hm2] at hD;simp only [go_sem,seval,ne0,A0,A1];repeat' ((with_reducible first|refine wr ?_|refine A2 ?_ ?_|fail)<;>try simp only [go_sem,seval,f6,f7,f8,ne0,A0,A1])
   refine AC.call (c_pisO L E s2 _ _ t c2 (by (repeat rw [A3 (by omega)]);exact hfr _ (by omega)) (by repeat (first|exact A0|rw [A3 (by omega)])) (by omega) 5 [[45]] (by simp)) ?_;rintro v H' c3 ⟨rfl,rfl⟩ hc3;cases hq:isP L E s2 5 [[45]] with
   | true =>
    rw [hq,if_pos rfl,if_pos rfl] at hD;have hn2:(B1 s2).i<=L.length:=(M6 (by decide) hq).2.1;have hv2:=hval (B1 s2);have hneg:IntKind.i64.wrap (0-(A7 L E (B1 s2) 3).1.value) = -(A7 L E (B1 s2) 3).1.value:=by rw [w6z (by omega)];omega
    simp only [go_sem,seval,hq,hw2,ne0,A0,A1];repeat' ((with_reducible first|refine wr ?_|refine A2 ?_ ?_|fail)<;>try simp only [go_sem,seval,hw2,ne0,A0,A1])
    have h4i:=A5p (E:=E) (x:=3) (by decide) hn2;subst hD;refine AC.call (c_ptake L E (B1 s2) _ _ t (by repeat (first|exact A0|rw [A3 (by omega)])) (by omega) (by omega) 3) ?_;rintro v H' c4 ⟨rfl,rfl⟩ hc4;try dsimp only
    simp only [go_sem,seval,hneg,ne0,A0,A1];repeat' ((with_reducible first|refine wr ?_|refine A2 ?_ ?_|fail)<;>try simp only [go_sem,seval,hneg,ne0,A0,A1])
    refine AC.call (c_want L E (A7 L E (B1 s2) 3).2 _ _ t (by repeat (first|exact A0|rw [A3 (by omega)])) (by omega) (by omega) 5 [59]) ?_;rintro v H' c9 ⟨rfl,rfl⟩ hc9;rw [U1 hK (by decide +kernel)];simp only [go_sem,seval,ne0,A0,A1];repeat' ((with_reducible first|refine wr ?_|refine A2 ?_ ?_|fail)<;>try simp only [go_sem,seval,ne0,A0,A1])
    rw [D4 (rv4 rfl A0)];refine ⟨_,_,I7 (cc:=cc) (B7 hfr htc) (fun j hj=>?_),rfl,rfl⟩;simp [Hp.upd,show ¬j=cc by omega,show ¬j=c1 by omega,show ¬j=c1+1+8 by omega];try (split<;>rfl)
   | false =>
    rw [hq,if_neg (by decide),if_neg (by decide)] at hD;simp only [go_sem,seval,hq,ne0,A0,A1];repeat' ((with_reducible first|refine wr ?_|refine A2 ?_ ?_|fail)<;>try simp only [go_sem,seval,ne0,A0,A1])
    have h4i:=A5p (E:=E) (x:=3) (by decide) hti;subst hD;refine AC.call (c_ptake L E s2 _ _ t (by repeat (first|exact A0|rw [A3 (by omega)])) (by omega) (by omega) 3) ?_;rintro v H' c4 ⟨rfl,rfl⟩ hc4;try dsimp only
    simp only [go_sem,seval,ne0,A0,A1];repeat' ((with_reducible first|refine wr ?_|refine A2 ?_ ?_|fail)<;>try simp only [go_sem,seval,ne0,A0,A1])
    refine AC.call (c_want L E (A7 L E s2 3).2 _ _ t (by repeat (first|exact A0|rw [A3 (by omega)])) (by omega) (by omega) 5 [59]) ?_;rintro v H' c9 ⟨rfl,rfl⟩ hc9;rw [U1 hK (by decide +kernel)];simp only [go_sem,seval,ne0,A0,A1];repeat' ((with_reducible first|refine wr ?_|refine A2 ?_ ?_|fail)<;>try simp only [go_sem,seval,ne0,A0,A1])
    rw [D4 (rv4 rfl A0)];refine ⟨_,_,I7 (cc:=cc) (B7 hfr htc) (fun j hj=>?_),rfl,rfl⟩;simp [Hp.upd,show ¬j=cc by omega,show ¬j=c1 by omega,show ¬j=c1+1+8 by omega];try (split<;>rfl)
  ·have hm:(k+1 == 6)=false:=by simp;omega
   have f6:(1+k == 6)=false:=by simp;omega
   rw [hm,Bool.false_and,if_neg (by decide)] at hD;simp only [go_sem,seval,ne0,A0,A1];repeat' ((with_reducible first|refine wr ?_|refine A2 ?_ ?_|fail)<;>try simp only [go_sem,seval,f6,f7,f8,ne0,A0,A1])
   have h4i:=A5p (E:=E) (x:=3) (by decide) hti;subst hD;refine AC.call (c_ptake L E s2 _ _ t (by repeat (first|exact A0|rw [A3 (by omega)])) (by omega) (by omega) 3) ?_;rintro v H' c4 ⟨rfl,rfl⟩ hc4;try dsimp only
   simp only [go_sem,seval,ne0,A0,A1];repeat' ((with_reducible first|refine wr ?_|refine A2 ?_ ?_|fail)<;>try simp only [go_sem,seval,ne0,A0,A1])
   refine AC.call (c_want L E (A7 L E s2 3).2 _ _ t (by repeat (first|exact A0|rw [A3 (by omega)])) (by omega) (by omega) 5 [59]) ?_;rintro v H' c9 ⟨rfl,rfl⟩ hc9;rw [U1 hK (by decide +kernel)];simp only [go_sem,seval,ne0,A0,A1];repeat' ((with_reducible first|refine wr ?_|refine A2 ?_ ?_|fail)<;>try simp only [go_sem,seval,ne0,A0,A1])
   rw [D4 (rv4 rfl A0)];refine ⟨_,_,I7 (cc:=cc) (B7 hfr htc) (fun j hj=>?_),rfl,rfl⟩;simp [Hp.upd,show ¬j=cc by omega,show ¬j=c1 by omega,show ¬j=c1+1+8 by omega];try (split<;>rfl)
 ·rw [if_neg h6] at hD;have f:((1+k == 7)=true)\/((1+k == 7)=false/\(1+k == 8)=true):=by
   by_cases hh:k=6
   ·left;simp;omega
   ·right;constructor<;>simp<;>omega
  subst hD;rcases f with f7|⟨f7,f8⟩
  ·simp only [go_sem,seval,ne0,A0,A1];repeat' ((with_reducible first|refine wr ?_|refine A2 ?_ ?_|fail)<;>try simp only [go_sem,seval,f7,ne0,A0,A1])
   refine AC.call (c_want L E s2 _ _ t (by repeat (first|exact A0|rw [A3 (by omega)])) (by omega) (by omega) 5 [59]) ?_;rintro v H' c9 ⟨rfl,rfl⟩ hc9;rw [U1 hK (by decide +kernel)];simp only [go_sem,seval,ne0,A0,A1];repeat' ((with_reducible first|refine wr ?_|refine A2 ?_ ?_|fail)<;>try simp only [go_sem,seval,ne0,A0,A1])
   rw [D4 (rv4 rfl A0)];refine ⟨_,_,I7 (cc:=cc) (B7 hfr htc) (fun j hj=>?_),rfl,rfl⟩;simp [Hp.upd,show ¬j=cc by omega,show ¬j=c1 by omega,show ¬j=c1+1+8 by omega];try (split<;>rfl)
  ·simp only [go_sem,seval,ne0,A0,A1];repeat' ((with_reducible first|refine wr ?_|refine A2 ?_ ?_|fail)<;>try simp only [go_sem,seval,f7,f8,ne0,A0,A1])
   refine AC.call (c_want L E s2 _ _ t (by repeat (first|exact A0|rw [A3 (by omega)])) (by omega) (by omega) 5 [59]) ?_;rintro v H' c9 ⟨rfl,rfl⟩ hc9;rw [U1 hK (by decide +kernel)];simp only [go_sem,seval,ne0,A0,A1];repeat' ((with_reducible first|refine wr ?_|refine A2 ?_ ?_|fail)<;>try simp only [go_sem,seval,ne0,A0,A1])
   rw [D4 (rv4 rfl A0)];refine ⟨_,_,I7 (cc:=cc) (B7 hfr htc) (fun j hj=>?_),rfl,rfl⟩;simp [Hp.upd,show ¬j=cc by omega,show ¬j=c1 by omega,show ¬j=c1+1+8 by omega];try (split<;>rfl)
def hdM (L:List Tok) (E:Int) (f:Nat) (s:Rd):Option (Hd × Rd) :=
 let p:=(A4 L E s).pos
 let s2:=B1 s
 let k:=B4 L E s2 C7
 if k<0 then some (⟨0,[],[],p⟩,L8 L E s2) else
 let s3:=B1 s2
 let n:=if 2<=k then (A7 L E s3 1).1.text else []
 let s4:=if 2<=k then (A7 L E s3 1).2 else s3
 match G1 L E f 1 s4 with
 | none=>none
 | some (b,s5)=>some (⟨1+k,n,b,p⟩,s5)
theorem c_phand (L:List Tok) (E:Int) (hL:L.length<=1000000000) (hK:∀ t∈L,E7 t) (f:Nat) (s:Rd) (q:Hd × Rd) (h:hdM L E f s=some q) (hP:PI L s) (hon:isP L E s 2 [[111,110]]=true) :
  ∀ (H:Hp) (cc t:Nat),H t=some (paB L E s)->t<cc->AC Tryz.prog 172 [.ptr t 0] H cc (fun v H' c' => ∃ x s',v=Hd.v x/\H'=H.upd t (paB L E s')/\Eqv s' q.2/\(okR q.2=true->x=q.1)/\PI L s'):=by
 intro H cc t ht htc;obtain ⟨hok,hi,hk2⟩:=M6 (by decide) hon;have htk:A7 L E s 2=(A4 L E s,B1 s):=by
  have hkk:F8 L E s 2=true:=by unfold F8;rw [hok,hk2];rfl
  unfold A7;rw [hkk,if_neg (by decide)]
 have hP1:=hP.nxt hi;have hri:=hP1.i;have hri0:=hP.i;unfold hdM at h;dsimp only at h;have hpa:=A2e (Y7 (E:=E) hK (B1 s) (l:=C7) (by decide +kernel));have hkr:B4 L E (B1 s) C7<6:=(amg_lt L E (B1 s) C7 0).2;have hkx:0<=B4 L E (B1 s) C7->B4 L E (B1 s) C7=J9 (A4 L E (B1 s)).text 0 C7/\(A4 L E (B1 s)).kind=2/\(B1 s).i<L.length:=fun hh=>by
  rw [decide_eq_true hh] at hpa;obtain ⟨g1,g2,g3⟩:=M6 (by decide) hpa;exact ⟨R9 (Y7 hK (B1 s) (by decide +kernel)) (by rw [g1,g3];rfl) 0,g3,g2⟩
 have hix:=c_Idx (A4 L E (B1 s)).text C7 (by decide);refine AC.bodyT A9 rfl (Nat.le_of_ble_eq_true rfl) fun hfr=>?_;repeat' ((with_reducible first|refine wr ?_|refine A2 ?_ ?_|fail)<;>try simp only [go_sem,seval])
 refine AC.call (c_ptake L E s _ _ t (by rw [A3 (by omega)];exact ht) (by omega) (by omega) 2) ?_;rintro v H' c1 ⟨rfl,rfl⟩ hc1;rw [htk];have ne0:=R1 t cc c1 (by omega);simp only [go_sem,seval,ne0,A0,A1];repeat' ((with_reducible first|refine wr ?_|refine cpc c_ptrigs ?_|refine A2 ?_ ?_|fail)<;>try simp only [go_sem,seval,ne0,A0,A1])
 refine AC.call (c_pis L E (B1 s) _ _ t (by repeat (first|exact A0|rw [A3 (by omega)])) (by omega) 2 C7 (by decide)) ?_;rintro v H' c2 ⟨rfl,rfl⟩ hc2;by_cases hk:B4 L E (B1 s) C7<0
 ·rw [if_pos hk] at h;cases h;have hpf:isP L E (B1 s) 2 C7=false:=by rw [hpa];exact decide_eq_false (by omega)
  simp only [go_sem,seval,hpf,ne0,A0,A1];repeat' ((with_reducible first|refine wr ?_|refine cpc c_ptrigs ?_|refine A2 ?_ ?_|fail)<;>try simp only [go_sem,seval,ne0,A0,A1])
  refine AC.call (c_pfail L E (B1 s) _ _ t (by repeat (first|exact A0|rw [A3 (by omega)])) (by omega) 4) ?_;rintro v H' c3 ⟨rfl,rfl⟩ hc3;simp only [go_sem,seval,ne0,A0,A1];repeat' ((with_reducible first|refine wr ?_|refine A2 ?_ ?_|fail)<;>try simp only [go_sem,seval,ne0,A0,A1])
  rw [D4 (rv4 rfl A0)];refine ⟨_,_,(I7 (cc:=cc) (K:=H.upd t (paB L E (pfl L E (B1 s) 4))) (B7 hfr htc) (fun j hj=>?_)).trans (GL.view fun ρ vs hA=>J1 (fun v h=>v_md h) vs hA),⟨0,[],[],(A4 L E s).pos⟩,_,rfl,rfl,.refl _,fun k=>?_,hP1.fl⟩
  ·simp [Hp.upd,show ¬j=cc by omega,show ¬j=c1 by omega];try (split<;>rfl)
  ·exact absurd k (by rw [A2q];decide)
 rw [if_neg hk] at h;obtain ⟨hk1,hkd2,hi2⟩:=hkx (by omega);rw [<- hk1] at hix;have hpt:isP L E (B1 s) 2 C7=true:=by rw [hpa];exact decide_eq_true (by omega)
 have htk2:A7 L E (B1 s) 2=(A4 L E (B1 s),B1 (B1 s)):=by
  have hkk:F8 L E (B1 s) 2=true:=by unfold F8;rw [(M6 (by decide) hpt).1,hkd2];rfl
  unfold A7;rw [hkk,if_neg (by decide)]
 have hP2:=hP1.nxt hi2;have hri2:=hP2.i;generalize B4 L E (B1 s) C7=k at *;have hwk:IntKind.i64.wrap (1+k)=1+k:=w6z (by omega);simp only [go_sem,seval,hpt,ne0,A0,A1];repeat' ((with_reducible first|refine wr ?_|refine cpc c_ptrigs ?_|refine A2 ?_ ?_|fail)<;>try simp only [go_sem,seval,ne0,A0,A1])
 refine AC.call (c_ptake L E (B1 s) _ _ t (by repeat (first|exact A0|rw [A3 (by omega)])) (by omega) (by omega) 2) ?_;rintro v H' c3 ⟨rfl,rfl⟩ hc3;rw [htk2];by_cases hk2':2<=k
 ·rw [if_pos hk2',if_pos hk2'] at h;have hd3:decide (1+k≥3)=true:=by simp;omega
  simp only [go_sem,seval,hwk,ne0,A0,A1];repeat' ((with_reducible first|refine wr ?_|refine cpc hix ?_|refine A2 ?_ ?_|fail)<;>try simp only [go_sem,seval,hwk,hd3,ne0,A0,A1])
  refine AC.call (c_ptake L E (B1 (B1 s)) _ _ t (by repeat (first|exact A0|rw [A3 (by omega)])) (by omega) (by omega) 1) ?_;rintro v H' c4 ⟨rfl,rfl⟩ hc4;have hP3:=(hP2.take (E:=E) (x:=1) (by decide)).1;cases hb:G1 L E f 1 (A7 L E (B1 (B1 s)) 1).2 with
  | none=>rw [hb] at h;cases h
  | some qb =>
   obtain ⟨bd,m5⟩:=qb;rw [hb] at h;dsimp only at h;cases h;simp only [go_sem,seval,ne0,A0,A1];repeat' ((with_reducible first|refine wr ?_|refine A2 ?_ ?_|fail)<;>try simp only [go_sem,seval,ne0,A0,A1])
   refine AC.call ((c_pst L E hL hK f).1 1 _ _ (bd,m5) (by decide) (by decide) (.refl _) hb hP3 _ _ t (by repeat (first|exact A0|rw [A3 (by omega)])) (by omega)) ?_;rintro v H' c5 ⟨x,s5,rfl,rfl,q1,q2,q3⟩ hc5;dsimp only at q1 q2;simp only [go_sem,seval,ne0,A0,A1];repeat' ((with_reducible first|refine wr ?_|refine A2 ?_ ?_|fail)<;>try simp only [go_sem,seval,ne0,A0,A1])
   rw [D4 (rv4 rfl A0)];refine ⟨_,_,I7 (cc:=cc) (K:=H.upd t (paB L E s5)) (B7 hfr htc) (fun j hj=>?_),⟨1+k,(A7 L E (B1 (B1 s)) 1).1.text,x,(A4 L E s).pos⟩,s5,rfl,rfl,q1,fun k=>(by rw [q2 k]),q3⟩;simp [Hp.upd,show ¬j=cc by omega,show ¬j=c1 by omega];try (split<;>rfl)
 ·rw [if_neg hk2',if_neg hk2'] at h;have hd3:decide (1+k≥3)=false:=by simp;omega
  cases hb:G1 L E f 1 (B1 (B1 s)) with
  | none=>rw [hb] at h;cases h
  | some qb =>
   obtain ⟨bd,m5⟩:=qb;rw [hb] at h;dsimp only at h;cases h;simp only [go_sem,seval,hwk,ne0,A0,A1];repeat' ((with_reducible first|refine wr ?_|refine cpc hix ?_|refine A2 ?_ ?_|fail)<;>try simp only [go_sem,seval,hwk,hd3,ne0,A0,A1])
   refine AC.call ((c_pst L E hL hK f).1 1 _ _ (bd,m5) (by decide) (by decide) (.refl _) hb hP2 _ _ t (by repeat (first|exact A0|rw [A3 (by omega)])) (by omega)) ?_;rintro v H' c5 ⟨x,s5,rfl,rfl,q1,q2,q3⟩ hc5;dsimp only at q1 q2;simp only [go_sem,seval,ne0,A0,A1];repeat' ((with_reducible first|refine wr ?_|refine A2 ?_ ?_|fail)<;>try simp only [go_sem,seval,ne0,A0,A1])
   rw [D4 (rv4 rfl A0)];refine ⟨_,_,I7 (cc:=cc) (K:=H.upd t (paB L E s5)) (B7 hfr htc) (fun j hj=>?_),⟨1+k,[],x,(A4 L E s).pos⟩,s5,rfl,rfl,q1,fun k=>(by rw [q2 k]),q3⟩;simp [Hp.upd,show ¬j=cc by omega,show ¬j=c1 by omega];try (split<;>rfl)
theorem mlp_nok {L:List Tok} {E:Int} {g:Nat} {l:List Hd} {s:Rd} {r:List Hd × Rd} (h:O4 L E g l s=some r) (ho:okR s=false):r.2=s:=by
 cases g with
 | zero=>simp [O4] at h
 | succ g =>
  unfold O4 at h;dsimp only at h;rw [ho,if_neg (by simp),A0h ho] at h;cases h;rfl
theorem exp_at {L:List Tok} {E:Int} {s:Rd} {w:List UInt8} (h:isR L E s w=true):C2 L E s w=B1 s:=by unfold C2;rw [h,if_neg (by decide)]
theorem mlp_step {L:List Tok} {E:Int} {g:Nat} {l:List Hd} {u:Rd} {r:List Hd × Rd} (hok:okR u=true) (hnb:isR L E u [125]=false) (hon:isR L E u [111,110]=true) (hl:l.length+1<=32) (h:O4 L E (g+1) l u=some r) :
  ∃ q,hdM L E g u=some q/\(okR q.2=true->O4 L E g (l++[q.1]) q.2=some r)/\(okR q.2=false->r.2=q.2):=by
 unfold O4 at h;dsimp only at h;rw [if_pos ⟨hok,hnb⟩,if_neg (by simp [hon]),S4 (by omega),exp_at hon] at h;unfold hdM;dsimp only;by_cases hk:B4 L E (B1 u) C7<0
 ·rw [if_pos hk] at h ⊢;cases h;exact ⟨_,rfl,fun k=>(by rw [A2q] at k;cases k),fun _=>rfl⟩
 ·rw [if_neg hk] at h ⊢;generalize (if 2<=B4 L E (B1 u) C7 then (A7 L E (B1 (B1 u)) 1).2 else B1 (B1 u))=s4 at h ⊢;cases hb:G1 L E g 1 s4 with
  | none=>rw [hb] at h;cases h
  | some qb =>
   obtain ⟨bd,m5⟩:=qb;rw [hb] at h;dsimp only at h ⊢;exact ⟨_,rfl,fun _=>h,fun k=>mlp_nok h k⟩
theorem c_pmode (L:List Tok) (E:Int) (hL:L.length<=1000000000) (hK:∀ t∈L,E7 t) (f:Nat) (s:Rd) (r:Md × Rd) (h:A4c L E f s=some r) (hP:PI L s) (hmo:isP L E s 2 [[109,111,100,101]]=true) :
  ∀ (H:Hp) (cc t:Nat),H t=some (paB L E s)->t<cc->AC Tryz.prog 127 [.ptr t 0] H cc (fun v H' c' => ∃ x s',v=Md.v x/\H'=H.upd t (paB L E s')/\Eqv s' r.2/\(okR r.2=true->x=r.1)/\PI L s'):=by
 intro H cc t ht htc;obtain ⟨hok0,hi0,hk2⟩:=M6 (by decide) hmo;have htk:A7 L E s 2=(A4 L E s,B1 s):=by
  have hkk:F8 L E s 2=true:=by unfold F8;rw [hok0,hk2];rfl
  unfold A7;rw [hkk,if_neg (by decide)]
 have hP1:=hP.nxt hi0;unfold A4c at h;dsimp only at h;have hmoR:isR L E s [109,111,100,101]=true:=by rw [O0 hK (by decide +kernel)];exact hmo
 rw [exp_at hmoR] at h;have hri0:=hP.i;have hri1:=hP1.i;have b2:=(hP1.take (E:=E) (x:=1) (by decide)).1;generalize hs1:B1 s=s1 at h b2 hP1 hri1 htk;have b3:=(b2.take (E:=E) (x:=3) (by decide)).1;have b4:=(b3.want (E:=E) (k:=5) (w:=[123]) (by decide)).1;rw [U1 hK (by decide +kernel)] at b4;refine AC.bodyT A9 rfl (Nat.le_of_ble_eq_true rfl) fun hfr=>?_;repeat' ((with_reducible first|refine wr ?_|refine A2 ?_ ?_|fail)<;>try simp only [go_sem,seval])
 refine AC.call (c_ptake L E s _ _ t (by rw [A3 (by omega)];exact ht) (by omega) (by omega) 2) ?_;rintro v H' c1 ⟨rfl,rfl⟩ hc1;rw [htk];have ne0:=R1 t cc c1 (by omega);simp only [go_sem,seval,ne0,A0,A1];repeat' ((with_reducible first|refine wr ?_|refine A2 ?_ ?_|fail)<;>try simp only [go_sem,seval,ne0,A0,A1])
 refine AC.call (c_ptake L E s1 _ _ t (by repeat (first|exact A0|rw [A3 (by omega)])) (by omega) (by omega) 1) ?_;rintro v H' c3 ⟨rfl,rfl⟩ hc3;simp only [go_sem,seval,ne0,A0,A1];repeat' ((with_reducible first|refine wr ?_|refine A2 ?_ ?_|fail)<;>try simp only [go_sem,seval,ne0,A0,A1])
 generalize (A7 L E s1 1).1.text=n at h ⊢;generalize (A7 L E s1 1).2=s2 at h b2 b3 b4 ⊢;have hri2:=b2.i;refine AC.call (c_ptake L E s2 _ _ t (by repeat (first|exact A0|rw [A3 (by omega)])) (by omega) (by omega) 3) ?_;rintro v H' c4 ⟨rfl,rfl⟩ hc4;simp only [go_sem,seval,ne0,A0,A1];repeat' ((with_reducible first|refine wr ?_|refine A2 ?_ ?_|fail)<;>try simp only [go_sem,seval,ne0,A0,A1])
 have hri3:=b3.i;refine AC.call (c_want L E (A7 L E s2 3).2 _ _ t (by repeat (first|exact A0|rw [A3 (by omega)])) (by omega) (by omega) 5 [123]) ?_;rintro v H' c5 ⟨rfl,rfl⟩ hc5;rw [U1 hK (by decide +kernel)];generalize (A7 L E s2 3).1.value=z at h ⊢;generalize C2 L E (A7 L E s2 3).2 [123]=s3 at h b4 ⊢;generalize (A4 L E s).pos=p at h ⊢;cases hm:O4 L E f [] s3 with
 | none=>rw [hm] at h;cases h
 | some q =>
  obtain ⟨hl,s4⟩:=q;rw [hm] at h;dsimp only at h;cases h;simp only [go_sem,seval,ne0,A0,A1];repeat' ((with_reducible first|refine wr ?_|refine A2 ?_ ?_|fail)<;>try simp only [go_sem,seval,ne0,A0,A1])
  refine F3 (fun _:Nat × Option Nat × List Hd × Rd=>[(0,.ptr t 0),(2,.ptr cc 0),(3,.ptr c1 0)]) (fun q=>C8 (((H.upd cc ⟨0,true,[.str [],I64 0,.snil,I64 0]⟩).upd c1 ⟨0,true,[.str n,I64 z,B6 q.2.1 q.2.2.1.length,I64 p]⟩).upd t (paB L E q.2.2.2)) q.2.1 ⟨4,true,A6 (q.2.2.1.map Hd.v)⟩)
   (fun q c=>c1+1<=c/\q.1<=f/\(q.2.1=none->q.2.2.1=[])/\(∀ i,q.2.1=some i->c1<i/\i<c)/\q.2.2.1.length<=32/\PI L q.2.2.2/\((okR q.2.2.2=true/\O4 L E q.1 q.2.2.1 q.2.2.2=some (hl,s4))\/(okR q.2.2.2=false/\Eqv q.2.2.2 s4))) (fun q=>q.1) (f,none,[],s3)
   (by simp [D5,tm,Tm.upd]) (fun j b hj=>?_) ⟨by omega,Nat.le_refl _,fun _=>rfl,(fun i hi=>by cases hi),by simp,b4,by
    cases ho:okR s3 with
    | true=>exact .inl ⟨rfl,hm⟩
    | false=>exact .inr ⟨rfl,by have:=mlp_nok hm ho;dsimp only at this;rw [this];exact .refl _⟩⟩ ?_
  ·simp only [C8,A5o] at hj;by_cases e1:j=t
   ·subst e1;rw [A0] at hj ⊢;exact hj
   ·rw [A3 e1] at hj ⊢;by_cases e2:j=c1
    ·subst e2;rw [A0] at hj ⊢;exact hj
    ·rw [A3 e2] at hj ⊢;simp only [A3 e1,A3 e2];exact hj
  clear hm b2 b3 b4;rintro ⟨g,o,l,u⟩ c ⟨hc,hg,hno,ho,hl1,hPu,hv⟩;dsimp only at hc hg hno ho hl1 hPu hv ⊢;have hriu:=hPu.i;have hHt:C8 (((H.upd cc ⟨0,true,[.str [],I64 0,.snil,I64 0]⟩).upd c1 ⟨0,true,[.str n,I64 z,B6 o l.length,I64 p]⟩).upd t (paB L E u)) o ⟨4,true,A6 (l.map Hd.v)⟩ t=some (paB L E u):=by rw [E4 (fun i hi=>by have:=ho i hi;omega),A0]
  have hbx:(C8 (((H.upd cc ⟨0,true,[.str [],I64 0,.snil,I64 0]⟩).upd c1 ⟨0,true,[.str n,I64 z,B6 o l.length,I64 p]⟩).upd t (paB L E u)) o ⟨4,true,A6 (l.map Hd.v)⟩) c1=some ⟨0,true,[.str n,I64 z,B6 o l.length,I64 p]⟩:=by rw [E4 (fun i hi=>by have:=ho i hi;omega),A3 (by omega),A0]
  have hbo:∀ i:Nat,o=some i->(C8 (((H.upd cc ⟨0,true,[.str [],I64 0,.snil,I64 0]⟩).upd c1 ⟨0,true,[.str n,I64 z,B6 o l.length,I64 p]⟩).upd t (paB L E u)) o ⟨4,true,A6 (l.map Hd.v)⟩) i=some ⟨4,true,A6 (l.map Hd.v)⟩:=fun i hi=>by subst hi;exact A0
  have hbj:∀ j:Nat,j<cc->¬ j=t->(C8 (((H.upd cc ⟨0,true,[.str [],I64 0,.snil,I64 0]⟩).upd c1 ⟨0,true,[.str n,I64 z,B6 o l.length,I64 p]⟩).upd t (paB L E u)) o ⟨4,true,A6 (l.map Hd.v)⟩) j=H j:=fun j h1 h2=>by rw [E4 (fun i hi=>by have:=ho i hi;omega),A3 h2,A3 (by omega),A3 (by omega)]
  have hb0:(C8 (((H.upd cc ⟨0,true,[.str [],I64 0,.snil,I64 0]⟩).upd c1 ⟨0,true,[.str n,I64 z,B6 o l.length,I64 p]⟩).upd t (paB L E u)) o ⟨4,true,A6 (l.map Hd.v)⟩) cc=some ⟨0,true,[.str [],I64 0,.snil,I64 0]⟩:=by rw [E4 (fun i hi=>by have:=ho i hi;omega),A3 (by omega),A3 (by omega),A0]
  have hbn:∀ j:Nat,c<=j->(C8 (((H.upd cc ⟨0,true,[.str [],I64 0,.snil,I64 0]⟩).upd c1 ⟨0,true,[.str n,I64 z,B6 o l.length,I64 p]⟩).upd t (paB L E u)) o ⟨4,true,A6 (l.map Hd.v)⟩) j=none:=fun j h1=>by rw [E4 (fun i hi=>by have:=ho i hi;omega),A3 (by omega),A3 (by omega),A3 (by omega)];exact hfr _ (by omega)
  have hT:(B6 o l.length).one=true:=by cases o<;>rfl
  have hlen:lenR (B6 o l.length)=some (I64 l.length):=by
   cases o with
   | none=>rw [hno rfl];rfl
   | some b=>rfl
  generalize hHH:C8 (((H.upd cc ⟨0,true,[.str [],I64 0,.snil,I64 0]⟩).upd c1 ⟨0,true,[.str n,I64 z,B6 o l.length,I64 p]⟩).upd t (paB L E u)) o ⟨4,true,A6 (l.map Hd.v)⟩=HH at hHt hbx hbo hbj hb0 hbn ⊢;have fin:∀ (u2:Rd) (e:DV) (x:Blk) (q1 q2:DV),GL ((HH.upd t (paB L E u2)).upd cc x) [.agg [q1,q2,B6 o l.length,e]] (H.upd t (paB L E u2)) [.agg [q1,q2,A4d l,e]]:=fun u2 e x q1 q2 =>
   gl_md (cc:=cc) l (B7 hfr htc) (fun i hi=>by have:=ho i hi;omega) hno (fun i hi=>by have:=ho i hi;rw [A3 (by omega),A3 (by omega)];exact hbo i hi) (fun j hj=>by
    rw [A3 (by omega)];by_cases e1:j=t
    ·subst e1;rw [A0,A0]
    ·rw [A3 e1,A3 e1,hbj j hj e1])
  repeat' ((with_reducible first|refine wr ?_|refine A2 ?_ ?_|fail)<;>try simp only [go_sem,seval])
  refine AC.call (c_pisO L E u HH _ t c (hbn c (Nat.le_refl _)) hHt (by omega) 2 [[111,110]] (by simp)) ?_;rintro v H' c6 ⟨rfl,rfl⟩ hc6;have hend:isP L E u 2 [[111,110]]=false->Eqv (C5 L E u 5 [125]) s4/\(okR s4=true->l=hl):=fun hon=>by
   rcases hv with ⟨hok,hv⟩|⟨hok,hv⟩
   ·cases g with
    | zero=>simp [O4] at hv
    | succ g =>
     unfold O4 at hv;dsimp only at hv;by_cases hb:isR L E u [125]=false
     ·rw [if_pos ⟨hok,hb⟩,if_pos (by rw [O0 hK (by decide +kernel)];exact hon)] at hv;cases hv;have hw:C5 L E u 5 [125]=L8 L E u:=by rw [C5, <- D6 hK (by decide +kernel),if_pos hb];rfl
      rw [hw];exact ⟨.refl _,fun _=>rfl⟩
     ·rw [if_neg (fun hh=>hb hh.2)] at hv;cases hv;rw [U1 hK (by decide +kernel)];exact ⟨.refl _,fun _=>rfl⟩
   ·rw [A2h hok];exact ⟨hv,fun k=>by rw [<- hv.ok,hok] at k;cases k⟩
  cases hon:isP L E u 2 [[111,110]] with
  | false =>
   obtain ⟨r1,r2⟩:=hend hon;have b7:=(hPu.want (E:=E) (k:=5) (w:=[125]) (by decide)).1;simp only [go_sem,seval,hon];repeat' ((with_reducible first|refine wr ?_|refine A2 ?_ ?_|fail)<;>try simp only [go_sem,seval,hon])
   refine AC.call (c_want L E u _ _ t hHt (by omega) (by omega) 5 [125]) ?_;rintro v H' c7 ⟨rfl,rfl⟩ hc7;simp only [go_sem,seval,ne0,A0,hbx,hb0,hT];repeat' ((with_reducible first|refine wr ?_|refine A2 ?_ ?_|fail)<;>try simp only [go_sem,seval,ne0,A0,hbx,hb0,hT])
   refine D3 (b_st (by rfl) (by decide) (by clear hHH;cases o<;>rfl)) ?_;simp only [go_sem,seval,ne0,A0];repeat' ((with_reducible first|refine wr ?_|refine A2 ?_ ?_|fail)<;>try simp only [go_sem,seval,ne0,A0])
   rw [D4 (rv4 rfl A0)];exact ⟨_,_,fin _ _ _ _ _,⟨n,z,l,p⟩,_,rfl,rfl,r1,fun k=>(by rw [r2 k]),b7⟩
  | true =>
   obtain ⟨hok,hlt,hkd2⟩:=M6 (by decide) hon;have hv:O4 L E g l u=some (hl,s4):=by
    rcases hv with ⟨-,hv⟩|⟨hn, -⟩
    ·exact hv
    ·rw [hok] at hn;cases hn
   have hnb:isR L E u [125]=false:=by
    rw [D6 hK (by decide +kernel)];unfold isP;rw [hkd2];simp
   have honR:isR L E u [111,110]=true:=by rw [O0 hK (by decide +kernel)];exact hon
   cases g with
   | zero=>simp [O4] at hv
   | succ g =>
   by_cases h32:l.length=32
   ·have hd32:((l.length:Int) == 32)=true:=by simp;omega
    have hs4:s4=pfl L E u 9:=by
     unfold O4 at hv;dsimp only at hv;have hl9:B5 L E u ((l.length:Int)+1) 32 9=pfl L E u 9:=by rw [P5,if_pos (by omega)]
     have hnk:okR (pfl L E u 9)=false:=by unfold pfl;exact J5 (by decide)
     rw [if_pos ⟨hok,hnb⟩,if_neg (by simp [honR]),hl9,A0h hnk,B4,U8 hnk,if_pos (by decide),A1y hnk] at hv;cases hv;rfl
    have hnk:okR (pfl L E u 9)=false:=by unfold pfl;exact J5 (by decide)
    simp only [go_sem,seval,hon];repeat' ((with_reducible first|refine wr ?_|refine A2 ?_ ?_|fail)<;>try simp only [go_sem,seval,hon,hbx,hlen,hd32])
    refine AC.call (c_pfail L E u _ _ t hHt (by omega) 9) ?_;rintro v H' c7 ⟨rfl,rfl⟩ hc7;have b7:=hPu.fl (E:=E) (e:=9);have hri7:=b7.i;simp only [go_sem,seval];repeat' ((with_reducible first|refine wr ?_|refine A2 ?_ ?_|fail)<;>try simp only [go_sem,seval])
    refine AC.call (c_want L E (pfl L E u 9) _ _ t A0 (by omega) (by omega) 5 [125]) ?_;rintro v H' c8 ⟨rfl,rfl⟩ hc8;rw [A2h hnk,A1];simp only [go_sem,seval,ne0,A0,hbx,hb0,hT];repeat' ((with_reducible first|refine wr ?_|refine A2 ?_ ?_|fail)<;>try simp only [go_sem,seval,ne0,A0,hbx,hb0,hT])
    refine D3 (b_st (by rfl) (by decide) (by clear hHH;cases o<;>rfl)) ?_;simp only [go_sem,seval,ne0,A0];repeat' ((with_reducible first|refine wr ?_|refine A2 ?_ ?_|fail)<;>try simp only [go_sem,seval,ne0,A0])
    rw [D4 (rv4 rfl A0)];refine ⟨_,_,fin _ _ _ _ _,⟨n,z,l,p⟩,_,rfl,rfl,by rw [hs4];exact .refl _,fun k=>?_,b7⟩;rw [hs4,hnk] at k;cases k
   have hd32:((l.length:Int) == 32)=false:=by simp;omega
   obtain ⟨q,hq1,hq2,hq3⟩:=mlp_step hok hnb honR (by omega) hv;simp only [go_sem,seval,hon];repeat' ((with_reducible first|refine wr ?_|refine A2 ?_ ?_|fail)<;>try simp only [go_sem,seval,hon,hbx,hlen,hd32])
   refine AC.call (c_phand L E hL hK g u q hq1 hPu hon _ _ t hHt (by omega)) ?_;rintro v H' c7 ⟨x,s5,rfl,rfl,y1,y2,y3⟩ hc7;have ne0:=S3 t cc c1 (c6+4) c7 (by omega);simp only [go_sem,seval,ne0,A0,A1,hbx];repeat' ((with_reducible first|refine wr ?_|refine A2 ?_ ?_|fail)<;>try simp only [go_sem,seval,ne0,A0,A1,hbx])
   refine ⟨⟨by rw [A3 (by omega)];exact hbn _ (by omega),by rw [A3 (by omega)];exact hbn _ (by omega)⟩,?_⟩;have hl4:(A6 (l.map Hd.v)).length=l.length * 4:=D1 (u:=4) (hd_unit _) |>.trans (by simp);refine K5 (H9 (cs:=A6 (l.map Hd.v)) (fun e=>by rw [hno e];exact ⟨rfl,rfl⟩) (fun i hi=>?_) hl4 (by omega) (by omega) (by omega)) ?_
   ·have:=ho i hi
    repeat rw [A3 (by omega)]
    exact hbo i hi
   have hdx:∀ X:Hp,U7 X o c1=X c1:=fun X=>I3 (fun i hi=>by have:=ho i hi;omega);simp only [go_sem,seval,ne0,A0,A1,hdx,hbx];repeat' ((with_reducible first|refine wr ?_|refine A2 ?_ ?_|fail)<;>try simp only [go_sem,seval,ne0,A0,A1,hdx,hbx])
   refine ⟨(g,some c7,l++[x],s5),?_,inv ⟨by omega,by simp only;omega,(fun h=>by cases h),(fun i hi=>by cases hi;omega),by simp only [List.length_append,List.length_singleton];omega,y3,?_⟩,by simp only;omega⟩
   ·intro j b hj;simp only [C8,A2o,List.length_append,List.length_singleton,List.map_append,I0] at hj;by_cases e1:j=c7
    ·subst e1;rw [A0] at hj;rw [A3 (by omega),A0, <- hj];rfl
    rw [A3 e1] at hj;by_cases e2:j=t
    ·subst e2;rw [A0] at hj;rw [A3 (by omega),A3 (by omega),I3 (fun i hi=>by have:=ho i hi;omega),A3 (by omega),A0];exact hj
    rw [A3 e2] at hj;by_cases e3:j=c1
    ·subst e3;rw [A0] at hj ⊢;exact hj
    rw [A3 e3] at hj ⊢;by_cases e4:j=cc
    ·subst e4;rw [A0] at hj;rw [A3 (by omega),I3 (fun i hi=>by have:=ho i hi;omega)]
     repeat rw [A3 (by omega)]
     rw [hb0];exact hj
    ·rw [A3 e4] at hj;have hjc:j<cc:=Classical.byContradiction fun h=>by rw [hfr j (by omega)] at hj;cases hj
     rw [A3 (by omega),I3 (fun i hi=>by have:=ho i hi;omega)]
     repeat rw [A3 (by omega)]
     rw [hbj j hjc e2];exact hj
   ·dsimp only;cases k:okR q.2 with
    | true =>
     have e5:=y1.s k;rw [y2 k,e5];exact .inl ⟨k,hq2 k⟩
    | false =>
     have e5:=hq3 k;dsimp only at e5;rw [e5];exact .inr ⟨by rw [y1.ok,k],y1⟩
end Go.Proofs.YthlpinppaclofaaGreatDoor
set_option maxHeartbeats 4000000
namespace Go.Proofs.YthlpinppaclofaaGreatDoor
open Go.Eng (IC IOper DReg IFn G0)
open Go.Sym Go.Pb
theorem v_ru {ρ : Ren} {v:Value} {a:DV} (h:VRel ρ (.agg [a,.snil]) v):VRel ρ (.agg [a,.lst []]) v:=by
 obtain ⟨bb,rfl,k1,k2⟩:=h.agg_inv;refine .agg _ _ k1 fun j x y hx hy=>?_
 match j with
 | 0=>cases hx;exact k2 0 _ y rfl hy
 | 1=>cases hx;exact (k2 1 _ y rfl hy).snil_lst
 | _+2=>cases hx
theorem gl_ru {K H':Hp} {cc:Nat} {o:Option Nat} {a:DV} (l:List Md) (hK:∀ i,cc<=i->K i=none) (ho:∀ i,o=some i->cc<=i) (hno:o=none->l=[]) (hb:∀ i,o=some i->H' i=some ⟨4,true,A6 (l.map Md.v)⟩) (h:∀ j,j<cc->H' j=K j) :
  GL H' [.agg [a,B6 o l.length]] K [.agg [a,A6d l]]:=by
 cases o with
 | none =>
  obtain rfl:=hno rfl;exact (I7 hK h).trans (GL.view fun ρ vs hA=>J1 (fun v h=>v_ru h) vs hA)
 | some i =>
  have:=ho i rfl;exact GL.frzS (id:=i) (hb i rfl) rfl (fun j=>by
   by_cases hj:j<cc
   ·exact .inr ⟨by omega,(h j hj).symm⟩
   ·exact .inl (hK j (by omega))) (.cons _ _ _ _ (.agg _ _ (.cons _ _ _ _ (.same _) (.cons _ _ _ _ (I8 (u:=4) (by simp) (md_unit l) ⟨[],by simp⟩) .nil))) .nil)
theorem rv2 {s:Sym.St} {x i u:Nat} {a b:DV} {o:Bool} (h:s.T x=.ptr i 0) (hb:s.H i=some ⟨u,o,[a,b]⟩):V5 s [.cell x 2 true]=some (.agg [a,b]):=by
 simp only [V5,Z0,h,ldv,ldB,hb];rfl
end Go.Proofs.YthlpinppaclofaaGreatDoor
set_option maxHeartbeats 8000000
namespace Go.Proofs.YthlpinppaclofaaGreatDoor
open Go.Eng (IC IOper DReg IFn G0)
open Go.Sym Go.Pb
theorem A2a {L:List Tok} {E:Int} {g:Nat} {l:List Md} {s:Rd} {r:List Md × Rd} (h:O2 L E g l s=some r) (ho:okR s=false):r=(l,s):=by
 cases g with
 | zero=>simp [O2] at h
 | succ g =>
  unfold O2 at h;dsimp only at h;rw [ho,if_neg (by simp)] at h;cases h;rfl
theorem rld_nok {L:List Tok} {E:Int} {g:Nat} {l:List Dc} {s:Rd} {r:List Dc × Rd} (h:S1 L E g l s=some r) (ho:okR s=false):r=(l,s):=by
 cases g with
 | zero=>simp [S1] at h
 | succ g =>
  unfold S1 at h;dsimp only at h;rw [B4,U8 ho,if_pos (by decide)] at h;cases h;rfl
theorem pi_exp {L:List Tok} {E:Int} (hK:∀ t∈L,E7 t) {s:Rd} {w:List UInt8} (hw:E2 w=false) (h:PI L s):PI L (C2 L E s w):=by
 rw [<- U1 hK hw];exact (h.want (by decide)).1
theorem pi_dcl {L:List Tok} {E:Int} (hK:∀ t∈L,E7 t) {s:Rd} {k:Int} (h:PI L s) (hi:s.i<L.length):PI L (A0z L E k s).2:=by
 unfold A0z;dsimp only;have h1:=((h.nxt hi).take (E:=E) (x:=1) (by decide)).1;generalize (A7 L E (B1 s) 1).2=s2 at h1 ⊢;split
 ·have h2:PI L (if (k+1 == 6 && isR L E s2 [45])=true then B1 s2 else s2):=by
   split
   ·rename_i hh;simp only [Bool.and_eq_true] at hh;exact h1.nxt (A1m hh.2).2
   ·exact h1
  exact pi_exp hK (by decide +kernel) ((h2.take (E:=E) (x:=3) (by decide)).1)
 ·exact pi_exp hK (by decide +kernel) h1
theorem c_prules (L:List Tok) (E:Int) (hL:L.length<=1000000000) (hv0:∀ x∈L,0<=x.value/\x.value<=9223372036854775807) (hK:∀ t∈L,E7 t) (f:Nat) (s:Rd) (r:Ru × Rd) (h:A3y L E f s=some r) (hP:PI L s) :
  ∀ (H:Hp) (cc t:Nat),H t=some (paB L E s)->t<cc->AC Tryz.prog 73 [.ptr t 0] H cc (fun v H' c' => ∃ x s',v=Ru.v x/\H'=H.upd t (paB L E s')/\Eqv s' r.2/\(okR r.2=true->x=r.1)/\PI L s'):=by
 intro H cc t ht htc;refine AC.bodyT A9 rfl (Nat.le_of_ble_eq_true rfl) fun hfr=>?_;unfold A3y at h;cases hd:S1 L E f [] s with
 | none=>rw [hd] at h;cases h
 | some q =>
 obtain ⟨dl,s1⟩:=q;rw [hd] at h;dsimp only at h;cases hm:O2 L E f [] s1 with
 | none=>rw [hm] at h;cases h
 | some q =>
 obtain ⟨ml,s2⟩:=q;rw [hm] at h;cases h;have tail:∀ (o:Option Nat) (l:List Dc) (u:Rd) (c:Nat),cc+2<=c->(o=none->l=[])->(∀ i,o=some i->cc+1<i/\i<c)->PI L u->((okR u=true/\l=dl/\u=s1)\/(okR u=false/\Eqv u s1)) ->
   IW Tryz.prog 39 (pz Tryz.prog 73 (.o (.o (.o (.i .h))))) ⟨tm [(0,.ptr t 0),(2,.ptr cc 0),(3,.ptr (cc+1) 0)],C8 (((H.upd cc ⟨0,true,[.snil,.snil]⟩).upd t (paB L E u)).upd (cc+1) ⟨0,true,[B6 o l.length,.snil]⟩) o ⟨4,true,A6 (l.map Dc.v)⟩,c⟩ (rt [.cell 2 2 true] fun v H' c' => ∃ v2 H2,GL H' [v] H2 [v2]/\∃ x s',v2=Ru.v x/\H2=H.upd t (paB L E s')/\Eqv s' s2/\(okR s2=true->x=⟨dl,ml⟩)/\PI L s'):=by
  intro o l u c hc hno ho hPu hv;refine IW.keep [0,2,3] [.ptr t 0,.ptr cc 0,.ptr (cc+1) 0] (g_fin (Hb:=(H.upd cc ⟨0,true,[.snil,.snil]⟩).upd t (paB L E u)) (ci:=cc+1) (u:=4) (pre:=[]) (suf:=[.snil]) (xs:=l.map Dc.v) (by simp [DV.one]) (fun h=>by rw [hno h];rfl) (fun i hi=>by have:=ho i hi;exact ⟨by omega,by rw [A3 (by omega),A3 (by omega)];exact hfr i (by omega)⟩) (by simp) (dc_unit _)) ?_;repeat' ((with_reducible first|refine wr ?_|refine A2 ?_ ?_|fail)<;>try simp only [go_sem,seval])
  refine F3 (fun q:Nat × Option Nat × List Md × Rd=>[(0,.ptr t 0),(2,.ptr cc 0),(3,.ptr (cc+1) 0)]) (fun q=>C8 (((H.upd cc ⟨0,true,[.snil,.snil]⟩).upd t (paB L E q.2.2.2)).upd (cc+1) ⟨0,true,[V6 l,B6 q.2.1 q.2.2.1.length]⟩) q.2.1 ⟨4,true,A6 (q.2.2.1.map Md.v)⟩)
   (fun q c=>cc+2<=c/\q.1<=f/\(q.2.1=none->q.2.2.1=[])/\(∀ i,q.2.1=some i->cc+1<i/\i<c)/\q.2.2.1.length<=16/\PI L q.2.2.2/\((okR q.2.2.2=true/\l=dl/\O2 L E q.1 q.2.2.1 q.2.2.2=some (ml,s2))\/(okR q.2.2.2=false/\Eqv q.2.2.2 s2))) (fun q=>q.1) (f,none,[],u)
   (by simp [D5,tm,Tm.upd]) (fun j b hj=>hj) ⟨by omega,Nat.le_refl _,fun _=>rfl,(fun i hi=>by cases hi),by simp,hPu,by
    rcases hv with ⟨g1,g2,g3⟩|⟨g1,g2⟩
    ·exact .inl ⟨g1,g2,by dsimp only;rw [g3];exact hm⟩
    ·have:=A2a hm (by rw [<- g2.ok];exact g1);cases this;exact .inr ⟨g1,g2⟩⟩ ?_
  clear hv hno ho hPu;rintro ⟨g,o,m,u⟩ c ⟨hc,hg,hno,ho,hl1,hPu,hv⟩;dsimp only at hc hg hno ho hl1 hPu hv ⊢;have hriu:=hPu.i;have hlen:lenR (B6 o m.length)=some (I64 m.length):=by
   cases o with
   | none=>rw [hno rfl];rfl
   | some b=>rfl
  have hHt:C8 (((H.upd cc ⟨0,true,[.snil,.snil]⟩).upd t (paB L E u)).upd (cc+1) ⟨0,true,[V6 l,B6 o m.length]⟩) o ⟨4,true,A6 (m.map Md.v)⟩ t=some (paB L E u):=by rw [E4 (fun i hi=>by have:=ho i hi;omega),A3 (by omega),A0]
  have hbx:C8 (((H.upd cc ⟨0,true,[.snil,.snil]⟩).upd t (paB L E u)).upd (cc+1) ⟨0,true,[V6 l,B6 o m.length]⟩) o ⟨4,true,A6 (m.map Md.v)⟩ (cc+1)=some ⟨0,true,[V6 l,B6 o m.length]⟩:=by rw [E4 (fun i hi=>by have:=ho i hi;omega),A0]
  have hbo:∀ i:Nat,o=some i->C8 (((H.upd cc ⟨0,true,[.snil,.snil]⟩).upd t (paB L E u)).upd (cc+1) ⟨0,true,[V6 l,B6 o m.length]⟩) o ⟨4,true,A6 (m.map Md.v)⟩ i=some ⟨4,true,A6 (m.map Md.v)⟩:=fun i hi=>by subst hi;exact A0
  have hbj:∀ j:Nat,j<cc->¬ j=t->C8 (((H.upd cc ⟨0,true,[.snil,.snil]⟩).upd t (paB L E u)).upd (cc+1) ⟨0,true,[V6 l,B6 o m.length]⟩) o ⟨4,true,A6 (m.map Md.v)⟩ j=H j:=fun j h1 h2=>by rw [E4 (fun i hi=>by have:=ho i hi;omega),A3 (by omega),A3 h2,A3 (by omega)]
  have hb0:C8 (((H.upd cc ⟨0,true,[.snil,.snil]⟩).upd t (paB L E u)).upd (cc+1) ⟨0,true,[V6 l,B6 o m.length]⟩) o ⟨4,true,A6 (m.map Md.v)⟩ cc=some ⟨0,true,[.snil,.snil]⟩:=by rw [E4 (fun i hi=>by have:=ho i hi;omega),A3 (by omega),A3 (by omega),A0]
  have hbn:∀ j:Nat,c<=j->C8 (((H.upd cc ⟨0,true,[.snil,.snil]⟩).upd t (paB L E u)).upd (cc+1) ⟨0,true,[V6 l,B6 o m.length]⟩) o ⟨4,true,A6 (m.map Md.v)⟩ j=none:=fun j h1=>by rw [E4 (fun i hi=>by have:=ho i hi;omega),A3 (by omega),A3 (by omega),A3 (by omega)];exact hfr _ (by omega)
  have hT:(B6 o m.length).one=true:=by cases o<;>rfl
  generalize hHH:C8 (((H.upd cc ⟨0,true,[.snil,.snil]⟩).upd t (paB L E u)).upd (cc+1) ⟨0,true,[V6 l,B6 o m.length]⟩) o ⟨4,true,A6 (m.map Md.v)⟩=HH at hHt hbx hbo hbj hb0 hbn ⊢;have fin:∀ (u2:Rd) (x:Blk),GL ((HH.upd t (paB L E u2)).upd cc x) [.agg [V6 l,B6 o m.length]] (H.upd t (paB L E u2)) [.agg [V6 l,A6d m]]:=fun u2 x =>
   gl_ru (cc:=cc) m (B7 hfr htc) (fun i hi=>by have:=ho i hi;omega) hno (fun i hi=>by have:=ho i hi;rw [A3 (by omega),A3 (by omega)];exact hbo i hi) (fun j hj=>by
    rw [A3 (by omega)];by_cases e1:j=t
    ·subst e1;rw [A0,A0]
    ·rw [A3 e1,A3 e1,hbj j hj e1])
  have ne0:=R1 t cc (cc+1) (by omega);repeat' ((with_reducible first|refine wr ?_|refine A2 ?_ ?_|fail)<;>try simp only [go_sem,seval])
  refine AC.call (c_pisO L E u HH _ t c (hbn c (Nat.le_refl _)) hHt (by omega) 2 [[109,111,100,101]] (by simp)) ?_;rintro v H' c2 ⟨rfl,rfl⟩ hc2;cases hmo:isP L E u 2 [[109,111,100,101]] with
  | false =>
   have hres:Eqv (if u.i<L.length then pfl L E u 4 else u) s2/\(okR s2=true->(⟨l,m⟩:Ru)=⟨dl,ml⟩):=by
    rcases hv with ⟨hok,g1,hv⟩|⟨hok,hv⟩
    ·cases g with
     | zero=>simp [O2] at hv
     | succ g =>
      unfold O2 at hv;dsimp only at hv;by_cases hlt:u.i<L.length
      ·rw [if_pos ⟨hok,hlt⟩,if_pos (by rw [O0 hK (by decide +kernel)];exact hmo)] at hv;cases hv;rw [if_pos hlt,g1];exact ⟨.refl _,fun _=>rfl⟩
      ·rw [if_neg (fun hh=>hlt hh.2)] at hv;cases hv;rw [if_neg hlt,g1];exact ⟨.refl _,fun _=>rfl⟩
    ·rw [show (if u.i<L.length then pfl L E u 4 else u)=u by rw [P3 hok];split<;>rfl];exact ⟨hv,fun k=>by rw [<- hv.ok,hok] at k;cases k⟩
   have b3:PI L (if u.i<L.length then pfl L E u 4 else u):=by
    split
    ·exact hPu.fl
    ·exact hPu
   simp only [go_sem,seval,hmo];repeat' ((with_reducible first|refine wr ?_|refine A2 ?_ ?_|fail)<;>try simp only [go_sem,seval,hmo])
   refine AC.call (c_pend L E u _ _ t hHt (by omega)) ?_;rintro v H' c3 ⟨rfl,rfl⟩ hc3;generalize (if u.i<L.length then pfl L E u 4 else u)=u3 at hres b3 ⊢;simp only [go_sem,seval,ne0,A0,hbx,hb0,hT];repeat' ((with_reducible first|refine wr ?_|refine A2 ?_ ?_|fail)<;>try simp only [go_sem,seval,ne0,A0,hbx,hb0,hT])
   refine D3 (b_st (by rfl) (by decide) (by clear hHH;cases o<;>rfl)) ?_;simp only [go_sem,seval,ne0,A0];repeat' ((with_reducible first|refine wr ?_|refine A2 ?_ ?_|fail)<;>try simp only [go_sem,seval,ne0,A0])
   rw [D4 (rv2 rfl A0)];exact ⟨_,_,fin _ _,⟨l,m⟩,u3,rfl,rfl,hres.1,hres.2,b3⟩
  | true =>
   obtain ⟨hok,hlt,hkd2⟩:=M6 (by decide) hmo;obtain ⟨hdl,hv⟩:l=dl/\O2 L E g m u=some (ml,s2):=by
    rcases hv with ⟨-,g1,hv⟩|⟨hn, -⟩
    ·exact ⟨g1,hv⟩
    ·rw [hok] at hn;cases hn
   have hmoR:isR L E u [109,111,100,101]=true:=by rw [O0 hK (by decide +kernel)];exact hmo
   cases g with
   | zero=>simp [O2] at hv
   | succ g =>
   unfold O2 at hv;dsimp only at hv;rw [if_pos ⟨hok,hlt⟩,if_neg (by simp [hmoR])] at hv;by_cases h16:m.length=16
   ·have hd16:((m.length:Int) == 16)=true:=by simp;omega
    have hl9:B5 L E u ((m.length:Int)+1) 16 9=pfl L E u 9:=by rw [P5,if_pos (by omega)]
    have hnk:okR (pfl L E u 9)=false:=by unfold pfl;exact J5 (by decide)
    rw [hl9,if_neg (by rw [hnk];decide)] at hv;have e1:m=ml:=(congrArg Prod.fst (A2a hv hnk)).symm;have e2:pfl L E u 9=s2:=(congrArg Prod.snd (A2a hv hnk)).symm;subst e1 e2;have b3:=hPu.fl (E:=E) (e:=9);simp only [go_sem,seval,hmo];repeat' ((with_reducible first|refine wr ?_|refine A2 ?_ ?_|fail)<;>try simp only [go_sem,seval,hmo,hbx,hlen,hd16])
    refine AC.call (c_pfail L E u _ _ t hHt (by omega) 9) ?_;rintro v H' c3 ⟨rfl,rfl⟩ hc3;simp only [go_sem,seval];repeat' ((with_reducible first|refine wr ?_|refine A2 ?_ ?_|fail)<;>try simp only [go_sem,seval])
    refine AC.call (c_pend L E (pfl L E u 9) _ _ t A0 (by omega)) ?_;rintro v H' c4 ⟨rfl,rfl⟩ hc4;rw [show (if (pfl L E u 9).i<L.length then pfl L E (pfl L E u 9) 4 else pfl L E u 9)=pfl L E u 9 by rw [P3 hnk];split<;>rfl,A1];simp only [go_sem,seval,ne0,A0,hbx,hb0,hT];repeat' ((with_reducible first|refine wr ?_|refine A2 ?_ ?_|fail)<;>try simp only [go_sem,seval,ne0,A0,hbx,hb0,hT])
    refine D3 (b_st (by rfl) (by decide) (by clear hHH;cases o<;>rfl)) ?_;simp only [go_sem,seval,ne0,A0];repeat' ((with_reducible first|refine wr ?_|refine A2 ?_ ?_|fail)<;>try simp only [go_sem,seval,ne0,A0])
    rw [D4 (rv2 rfl A0)];exact ⟨_,_,fin _ _,⟨l,m⟩,_,rfl,rfl,.refl _,fun k=>(by rw [hnk] at k;cases k),b3⟩
   have hd16:((m.length:Int) == 16)=false:=by simp;omega
   rw [S4 (by omega),if_pos hok] at hv;cases hmd:A4c L E g u with
   | none=>rw [hmd] at hv;cases hv
   | some qm =>
   obtain ⟨md,u2⟩:=qm;rw [hmd] at hv;dsimp only at hv;simp only [go_sem,seval,hmo];repeat' ((with_reducible first|refine wr ?_|refine A2 ?_ ?_|fail)<;>try simp only [go_sem,seval,hmo,hbx,hlen,hd16])
   refine AC.call (c_pmode L E hL hK g u (md,u2) hmd hPu hmo _ _ t hHt (by omega)) ?_;rintro v H' c3 ⟨x,s5,rfl,rfl,y1,y2,y3⟩ hc3;dsimp only at y1 y2;have ne0:=S3 t cc (cc+1) (c2+4) c3 (by omega);simp only [go_sem,seval,ne0,A0,A1,hbx];repeat' ((with_reducible first|refine wr ?_|refine A2 ?_ ?_|fail)<;>try simp only [go_sem,seval,ne0,A0,A1,hbx])
   refine ⟨⟨by rw [A3 (by omega)];exact hbn _ (by omega),by rw [A3 (by omega)];exact hbn _ (by omega)⟩,?_⟩;have hl4:(A6 (m.map Md.v)).length=m.length * 4:=D1 (u:=4) (md_unit _) |>.trans (by simp);refine K5 (H9 (cs:=A6 (m.map Md.v)) (fun e=>by rw [hno e];exact ⟨rfl,rfl⟩) (fun i hi=>by have:=ho i hi;rw [A3 (by omega),A3 (by omega)];exact hbo i hi) hl4 (by omega) (by omega) (by omega)) ?_;have hdx:∀ X:Hp,U7 X o (cc+1)=X (cc+1):=fun X=>I3 (fun i hi=>by have:=ho i hi;omega);simp only [go_sem,seval,ne0,A0,A1,hdx,hbx];repeat' ((with_reducible first|refine wr ?_|refine A2 ?_ ?_|fail)<;>try simp only [go_sem,seval,ne0,A0,A1,hdx,hbx])
   refine ⟨(g,some c3,m++[x],s5),?_,inv ⟨by omega,by simp only;omega,(fun h=>by cases h),(fun i hi=>by cases hi;omega),by simp only [List.length_append,List.length_singleton];omega,y3,?_⟩,by simp only;omega⟩
   ·intro j b hj;simp only [C8,A2o,List.length_append,List.length_singleton,List.map_append,I0] at hj;by_cases e1:j=cc+1
    ·subst e1;by_cases e3:cc+1=c3
     ·omega
     rw [A3 e3,A0] at hj;rw [A0];exact hj
    rw [A3 e1];by_cases e0:j=c3
    ·subst e0;rw [A0] at hj;rw [A0, <- hj];rfl
    rw [A3 e0] at hj ⊢;rw [A3 e1] at hj;by_cases e2:j=t
    ·subst e2;rw [A0] at hj;rw [I3 (fun i hi=>by have:=ho i hi;omega),A3 (by omega),A0];exact hj
    rw [A3 e2] at hj;by_cases e4:j=cc
    ·subst e4;rw [A0] at hj;rw [I3 (fun i hi=>by have:=ho i hi;omega)]
     repeat rw [A3 (by omega)]
     rw [hb0];exact hj
    ·rw [A3 e4] at hj;have hjc:j<cc:=Classical.byContradiction fun h=>by rw [hfr j (by omega)] at hj;cases hj
     rw [I3 (fun i hi=>by have:=ho i hi;omega)]
     repeat rw [A3 (by omega)]
     rw [hbj j hjc e2];exact hj
   ·dsimp only;cases k:okR u2 with
    | true =>
     rw [y2 k,y1.s k];exact .inl ⟨k,hdl,hv⟩
    | false =>
     cases A2a hv k;exact .inr ⟨by rw [y1.ok,k],y1⟩
 have ne0:=R1 t cc (cc+1) (by omega);repeat' ((with_reducible first|refine wr ?_|refine A2 ?_ ?_|fail)<;>try simp only [go_sem,seval,ne0,A0,A1])
 refine F3 (fun q:Nat × Option Nat × List Dc × Rd=>[(0,.ptr t 0),(2,.ptr cc 0),(3,.ptr (cc+1) 0)]) (fun q=>C8 (((H.upd cc ⟨0,true,[.snil,.snil]⟩).upd t (paB L E q.2.2.2)).upd (cc+1) ⟨0,true,[B6 q.2.1 q.2.2.1.length,.snil]⟩) q.2.1 ⟨4,true,A6 (q.2.2.1.map Dc.v)⟩)
  (fun q c=>cc+2<=c/\q.1<=f/\(q.2.1=none->q.2.2.1=[])/\(∀ i,q.2.1=some i->cc+1<i/\i<c)/\q.2.2.1.length<=128/\PI L q.2.2.2/\S1 L E q.1 q.2.2.1 q.2.2.2=some (dl,s1)) (fun q=>q.1) (f,none,[],s)
  (by simp [D5,tm,Tm.upd]) (fun j b hj=>?_) ⟨by omega,Nat.le_refl _,fun _=>rfl,(fun i hi=>by cases hi),by simp,hP,hd⟩ ?_
 ·simp only [C8,A5o] at hj;by_cases e1:j=cc+1
  ·subst e1;rw [A0] at hj ⊢;exact hj
  ·rw [A3 e1] at hj ⊢;by_cases e2:j=t
   ·subst e2;rw [A0] at hj;rw [A3 (by omega),ht];exact hj
   ·rw [A3 e2] at hj;exact hj
 clear hd;rintro ⟨g,o,l,u⟩ c ⟨hc,hg,hno,ho,hl1,hPu,hv⟩;dsimp only at hc hg hno ho hl1 hPu hv ⊢;cases g with
 | zero=>simp [S1] at hv
 | succ g =>
 unfold S1 at hv;dsimp only at hv;have hriu:=hPu.i;have hlen:lenR (B6 o l.length)=some (I64 l.length):=by
  cases o with
  | none=>rw [hno rfl];rfl
  | some b=>rfl
 have hHt:C8 (((H.upd cc ⟨0,true,[.snil,.snil]⟩).upd t (paB L E u)).upd (cc+1) ⟨0,true,[B6 o l.length,.snil]⟩) o ⟨4,true,A6 (l.map Dc.v)⟩ t=some (paB L E u):=by rw [E4 (fun i hi=>by have:=ho i hi;omega),A3 (by omega),A0]
 have hbx:C8 (((H.upd cc ⟨0,true,[.snil,.snil]⟩).upd t (paB L E u)).upd (cc+1) ⟨0,true,[B6 o l.length,.snil]⟩) o ⟨4,true,A6 (l.map Dc.v)⟩ (cc+1)=some ⟨0,true,[B6 o l.length,.snil]⟩:=by rw [E4 (fun i hi=>by have:=ho i hi;omega),A0]
 have hbo:∀ i:Nat,o=some i->C8 (((H.upd cc ⟨0,true,[.snil,.snil]⟩).upd t (paB L E u)).upd (cc+1) ⟨0,true,[B6 o l.length,.snil]⟩) o ⟨4,true,A6 (l.map Dc.v)⟩ i=some ⟨4,true,A6 (l.map Dc.v)⟩:=fun i hi=>by subst hi;exact A0
 have hbj:∀ j:Nat,j<cc->¬ j=t->C8 (((H.upd cc ⟨0,true,[.snil,.snil]⟩).upd t (paB L E u)).upd (cc+1) ⟨0,true,[B6 o l.length,.snil]⟩) o ⟨4,true,A6 (l.map Dc.v)⟩ j=H j:=fun j h1 h2=>by rw [E4 (fun i hi=>by have:=ho i hi;omega),A3 (by omega),A3 h2,A3 (by omega)]
 have hb0:C8 (((H.upd cc ⟨0,true,[.snil,.snil]⟩).upd t (paB L E u)).upd (cc+1) ⟨0,true,[B6 o l.length,.snil]⟩) o ⟨4,true,A6 (l.map Dc.v)⟩ cc=some ⟨0,true,[.snil,.snil]⟩:=by rw [E4 (fun i hi=>by have:=ho i hi;omega),A3 (by omega),A3 (by omega),A0]
 have hbn:∀ j:Nat,c<=j->C8 (((H.upd cc ⟨0,true,[.snil,.snil]⟩).upd t (paB L E u)).upd (cc+1) ⟨0,true,[B6 o l.length,.snil]⟩) o ⟨4,true,A6 (l.map Dc.v)⟩ j=none:=fun j h1=>by rw [E4 (fun i hi=>by have:=ho i hi;omega),A3 (by omega),A3 (by omega),A3 (by omega)];exact hfr _ (by omega)
 have hsub:∀ z,Sub (C8 (((H.upd cc ⟨0,true,[.snil,.snil]⟩).upd t (paB L E z)).upd (cc+1) ⟨0,true,[B6 o l.length,.snil]⟩) o ⟨4,true,A6 (l.map Dc.v)⟩) ((C8 (((H.upd cc ⟨0,true,[.snil,.snil]⟩).upd t (paB L E u)).upd (cc+1) ⟨0,true,[B6 o l.length,.snil]⟩) o ⟨4,true,A6 (l.map Dc.v)⟩).upd t (paB L E z)):=fun z j b hj=>by
  by_cases e2:j=t
  ·subst e2;rw [E4 (fun i hi=>by have:=ho i hi;omega),A3 (by omega),A0] at hj;rw [A0];exact hj
  ·rw [A3 e2];cases o with
   | none =>
    simp only [C8] at hj ⊢;by_cases e1:j=cc+1
    ·subst e1;rw [A0] at hj ⊢;exact hj
    ·rw [A3 e1,A3 e2] at hj ⊢;exact hj
   | some i =>
    simp only [C8] at hj ⊢;by_cases e0:j=i
    ·subst e0;rw [A0] at hj ⊢;exact hj
    rw [A3 e0] at hj ⊢;by_cases e1:j=cc+1
    ·subst e1;rw [A0] at hj ⊢;exact hj
    ·rw [A3 e1,A3 e2] at hj ⊢;exact hj
 have htail:=tail o l;generalize hHH:C8 (((H.upd cc ⟨0,true,[.snil,.snil]⟩).upd t (paB L E u)).upd (cc+1) ⟨0,true,[B6 o l.length,.snil]⟩) o ⟨4,true,A6 (l.map Dc.v)⟩=HH at hHt hbx hbo hbj hb0 hbn hsub ⊢;have hpa:=A2e (Y7 (E:=E) hK u (l:=C4) (by decide +kernel));repeat' ((with_reducible first|refine wr ?_|refine cpc c_pdecls ?_|refine A2 ?_ ?_|fail)<;>try simp only [go_sem,seval])
 refine AC.call (c_pis L E u _ _ t hHt (by omega) 2 C4 (by decide)) ?_;rintro v H' c2 ⟨rfl,rfl⟩ hc2;by_cases hk:B4 L E u C4<0
 ·have hpf:isP L E u 2 C4=false:=by rw [hpa];exact decide_eq_false (by omega)
  rw [if_pos hk] at hv;have e1:l=dl:=congrArg Prod.fst (Option.some.inj hv);have e2:u=s1:=congrArg Prod.snd (Option.some.inj hv);subst e1 e2;simp only [go_sem,seval,hpf];repeat' ((with_reducible first|refine E1 (p:=IW _ _ (pz Tryz.prog 73 (.o (.o (.o (.i .h))))) _ _) ?_|refine wr ?_|refine A2 ?_ ?_|fail)<;>try simp only [go_sem,seval,hpf])
  rw [<- hHH];refine IW.stage (by simp [D5,tm,Tm.upd]) (htail u c2 (by omega) hno (fun i hi=>by have:=ho i hi;omega) hPu ?_);cases ho:okR u with
  | true=>exact .inl ⟨rfl,rfl,rfl⟩
  | false=>exact .inr ⟨rfl,.refl _⟩
 have hpt:isP L E u 2 C4=true:=by rw [hpa];exact decide_eq_true (by omega)
 obtain ⟨hok,hlt, -⟩:=M6 (by decide) hpt;rw [if_neg hk] at hv;by_cases h128:l.length=128
 ·have hd128:((l.length:Int) == 128)=true:=by simp;omega
  have hl9:B5 L E u ((l.length:Int)+1) 128 9=pfl L E u 9:=by rw [P5,if_pos (by omega)]
  have hnk:okR (pfl L E u 9)=false:=by unfold pfl;exact J5 (by decide)
  rw [hl9,if_neg (by rw [hnk];decide)] at hv;have e1:l=dl:=(congrArg Prod.fst (rld_nok hv hnk)).symm;have e2:pfl L E u 9=s1:=(congrArg Prod.snd (rld_nok hv hnk)).symm;subst e1 e2;simp only [go_sem,seval,hpt];repeat' ((with_reducible first|refine wr ?_|refine A2 ?_ ?_|fail)<;>try simp only [go_sem,seval,hpt,hbx,hlen,hd128])
  refine AC.call (c_pfail L E u _ _ t hHt (by omega) 9) ?_;rintro v H' c3 ⟨rfl,rfl⟩ hc3;simp only [go_sem,seval];repeat' ((with_reducible first|refine E1 (p:=IW _ _ (pz Tryz.prog 73 (.o (.o (.o (.i .h))))) _ _) ?_|refine wr ?_|refine A2 ?_ ?_|fail)<;>try simp only [go_sem,seval])
  exact IW.weaken (N6 (by simp [D5,tm,Tm.upd])) (hsub _) (htail (pfl L E u 9) c3 (by omega) hno (fun i hi=>by have:=ho i hi;omega) hPu.fl (.inr ⟨hnk,.refl _⟩))
 have hd128:((l.length:Int) == 128)=false:=by simp;omega
 rw [S4 (by omega),if_pos hok] at hv;simp only [go_sem,seval,hpt];repeat' ((with_reducible first|refine wr ?_|refine A2 ?_ ?_|fail)<;>try simp only [go_sem,seval,hpt,hbx,hlen,hd128])
 refine AC.call (c_pdecl L E u _ _ t hHt (by omega) hL hv0 hK hpt) ?_;rintro v H' c3 ⟨rfl,rfl⟩ hc3;have y3:=pi_dcl (E:=E) (k:=B4 L E u C4) hK hPu hlt;generalize A0z L E (B4 L E u C4) u=Q at hv y3 ⊢;obtain ⟨dc,u2⟩:=Q;dsimp only at hv y3 ⊢;have ne0:=S3 t cc (cc+1) (c2+4) c3 (by omega);simp only [go_sem,seval,ne0,A0,A1,hbx];repeat' ((with_reducible first|refine wr ?_|refine A2 ?_ ?_|fail)<;>try simp only [go_sem,seval,ne0,A0,A1,hbx])
 refine ⟨⟨by rw [A3 (by omega)];exact hbn _ (by omega),by rw [A3 (by omega)];exact hbn _ (by omega)⟩,?_⟩;have hl4:(A6 (l.map Dc.v)).length=l.length * 4:=D1 (u:=4) (dc_unit _) |>.trans (by simp);refine K5 (H9 (cs:=A6 (l.map Dc.v)) (fun e=>by rw [hno e];exact ⟨rfl,rfl⟩) (fun i hi=>by have:=ho i hi;rw [A3 (by omega),A3 (by omega)];exact hbo i hi) hl4 (by omega) (by omega) (by omega)) ?_;have hdx:∀ X:Hp,U7 X o (cc+1)=X (cc+1):=fun X=>I3 (fun i hi=>by have:=ho i hi;omega);simp only [go_sem,seval,ne0,A0,A1,hdx,hbx];repeat' ((with_reducible first|refine wr ?_|refine A2 ?_ ?_|fail)<;>try simp only [go_sem,seval,ne0,A0,A1,hdx,hbx])
 refine ⟨(g,some c3,l++[dc],u2),?_,inv ⟨by omega,by simp only;omega,(fun h=>by cases h),(fun i hi=>by cases hi;omega),by simp only [List.length_append,List.length_singleton];omega,y3,hv⟩,by simp only;omega⟩;intro j b hj;simp only [C8,A2o,List.length_append,List.length_singleton,List.map_append,I0] at hj;by_cases e1:j=cc+1
 ·subst e1;by_cases e3:cc+1=c3
  ·omega
  rw [A3 e3,A0] at hj;rw [A0];exact hj
 rw [A3 e1];by_cases e0:j=c3
 ·subst e0;rw [A0] at hj;rw [A0, <- hj];rfl
 rw [A3 e0] at hj ⊢;rw [A3 e1] at hj;by_cases e2:j=t
 ·subst e2;rw [A0] at hj;rw [I3 (fun i hi=>by have:=ho i hi;omega),A3 (by omega),A0];exact hj
 rw [A3 e2] at hj;by_cases e4:j=cc
 ·subst e4;rw [A0] at hj;rw [I3 (fun i hi=>by have:=ho i hi;omega)]
  repeat rw [A3 (by omega)]
  rw [hb0];exact hj
 ·rw [A3 e4] at hj;have hjc:j<cc:=Classical.byContradiction fun h=>by rw [hfr j (by omega)] at hj;cases hj
  rw [I3 (fun i hi=>by have:=ho i hi;omega)]
  repeat rw [A3 (by omega)]
  rw [hbj j hjc e2];exact hj
end Go.Proofs.YthlpinppaclofaaGreatDoor
set_option maxHeartbeats 4000000
namespace Go.Proofs.YthlpinppaclofaaGreatDoor
open Go.Eng (IC IOper DReg IFn G0)
open Go.Sym Go.Pb
theorem c_letter (c:UInt8):PC Tryz.prog 142 [.int .u8 c.toNat] (.bool (ltB c)):=by
 refine PC.ofT A9 rfl (Nat.le_of_ble_eq_true rfl) (by simp [DV.nlL,DV.nl]) (by simp [DV.nlL,DV.nl]) ?_;repeat' ((with_reducible first|refine wr ?_|refine A2 ?_ ?_|refine wb2 ?_ ?_<;>(intro hb;try simp only [hb])|fail)<;>try simp only [go_sem,seval])
 all_goals (refine A5 (congrArg DV.bool ?_);rw [Bool.eq_iff_iff];simp_all [ltB]<;>omega)
theorem c_digit (c:UInt8):PC Tryz.prog 162 [.int .u8 c.toNat] (.bool (dgB c)):=by
 refine PC.ofT A9 rfl (Nat.le_of_ble_eq_true rfl) (by simp [DV.nlL,DV.nl]) (by simp [DV.nlL,DV.nl]) ?_;repeat' ((with_reducible first|refine wr ?_|refine A2 ?_ ?_|refine wb2 ?_ ?_<;>(intro hb;try simp only [hb])|fail)<;>try simp only [go_sem,seval])
 all_goals (refine A5 (congrArg DV.bool ?_);rw [Bool.eq_iff_iff];simp_all [dgB]<;>omega)
theorem c_part (c:UInt8):PC Tryz.prog 144 [.int .u8 c.toNat] (.bool (ptB c)):=by
 refine PC.ofT A9 rfl (Nat.le_of_ble_eq_true rfl) (by simp [DV.nlL,DV.nl]) (by simp [DV.nlL,DV.nl]) ?_;repeat' ((with_reducible first|refine wr ?_|refine cpc (c_letter c) ?_|refine cpc (c_digit c) ?_|refine A2 ?_ ?_|refine wb2 ?_ ?_<;>(intro hb;try simp only [hb])|fail)<;>try simp only [go_sem,seval])
 all_goals (refine A5 (congrArg DV.bool ?_);rw [Bool.eq_iff_iff];simp_all [ptB]<;>omega)
theorem c_no10 (c:UInt8):PC Tryz.prog 161 [.int .u8 c.toNat] (.bool (decide (c.toNat≠10))):=by
 refine PC.ofT A9 rfl (Nat.le_of_ble_eq_true rfl) (by simp [DV.nlL,DV.nl]) (by simp [DV.nlL,DV.nl]) ?_;repeat' ((with_reducible first|refine wr ?_|refine A2 ?_ ?_|fail)<;>try simp only [go_sem,seval])
 all_goals (refine A5 (congrArg DV.bool ?_);rw [Bool.eq_iff_iff];simp_all<;>omega)
theorem c_span {p:UInt8->Bool} {f:Nat} {a cs:List DV} (s:List UInt8) (hs:s.length<=9223372036854775807) (na:DV.nlL a=true) (ncs:DV.nlL cs=true) (hf:∀ x∈s,PC Tryz.prog f (a++[.int .u8 x.toNat]++cs) (.bool (p x))) :
  PC Tryz.prog 143 [.str s,.func f a cs] (I64 (C3 p s)):=by
 refine PC.ofT A9 rfl (Nat.le_of_ble_eq_true rfl) (by simp [DV.nlL,DV.nl,na,ncs]) rfl ?_;repeat' ((with_reducible first|refine wr ?_|refine A2 ?_ ?_|fail)<;>try simp only [go_sem,seval])
 refine F3 (fun k:Nat=>[(0,.str s),(1,.func f a cs),(5,I64 k)]) (fun _=>nil) (fun k _=>k<=s.length/\k<=C3 p s) (fun k=>s.length-k) 0 (by simp [D5,tm,Tm.upd]) (Sub.nil _) (by simp) ?_;rintro k c ⟨hk,he⟩;by_cases hlt:k<s.length
 ·have hd:decide ((k:Int)<s.length)=true:=by simpa using hlt
  have hg:=List.getElem?_eq_getElem hlt;have hw:=w64 (n:=(k:Int)+1);have hst:=spnM_at hg he;have hc:=hf s[k] (List.getElem_mem hlt);repeat' ((with_reducible first|refine wr ?_|refine cpc hc ?_|refine A2 ?_ ?_|refine wb2 ?_ ?_<;>(intro hb;try simp only [hb])|fail)<;>try simp only [go_sem,seval,hd,hg,hw])
  ·exact ⟨k+1,rfl,Sub.refl _,inv ⟨by omega,hst.1 hb⟩,by omega⟩
  ·refine A5 ?_;rw [hst.2 hb]
 ·have hd:decide ((k:Int)<s.length)=false:=by simpa using hlt
  repeat' ((with_reducible first|refine wr ?_|refine A2 ?_ ?_|fail)<;>try simp only [go_sem,seval,hd])
  refine A5 ?_;rw [spnM_end (by omega) he]
theorem c_spanPt (s:List UInt8) (hs:s.length<=9223372036854775807):PC Tryz.prog 143 [.str s,.func 144 [] []] (I64 (C3 ptB s)) :=
 c_span s hs rfl rfl fun x _=>c_part x
theorem c_spanDg (s:List UInt8) (hs:s.length<=9223372036854775807):PC Tryz.prog 143 [.str s,.func 162 [] []] (I64 (C3 dgB s)) :=
 c_span s hs rfl rfl fun x _=>c_digit x
theorem c_spanCm (s:List UInt8) (hs:s.length<=9223372036854775807):PC Tryz.prog 143 [.str s,.func 161 [] []] (I64 (C3 (fun c=>decide (c.toNat≠10)) s)) :=
 c_span s hs rfl rfl fun x _=>c_no10 x
end Go.Proofs.YthlpinppaclofaaGreatDoor
end

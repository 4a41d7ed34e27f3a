/-
  HELPERS of the claim: part 5 of its texts.
-/
import Derived.Test.YthlpinppaclofaaGreatDoorSyld
noncomputable section
set_option maxHeartbeats 4000000
set_option maxRecDepth 100000
set_option linter.unusedSimpArgs false
set_option linter.unusedVariables false
namespace Go.Proofs.YthlpinppaclofaaGreatDoor
open Go.Eng (IC IOper DReg IFn B5)
open Go.Sym Go.Pb
theorem c_level (k:Int):PC Tryz.prog 117 [I64 k] (I64 (D6 k)):=by
 refine PC.ofT A7 rfl (Nat.le_of_ble_eq_true rfl) (by simp [DV.nlL,DV.nl]) (by simp [DV.nlL,DV.nl]) ?_;repeat' ((with_reducible first|refine wr ?_|refine k_cu ?_ ?_|refine wb2 ?_ ?_<;>(intro hb;try simp only [hb])|fail)<;>try simp only [go_sem,seval])
 all_goals
  refine A5 (congrArg I64 ?_);simp only [beq_iff_eq,beq_eq_false_iff_ne,decide_eq_true_eq,decide_eq_false_iff_not,Bool.and_eq_true,Bool.or_eq_true,Bool.and_eq_false_iff,Bool.or_eq_false_iff] at *;unfold D6;repeat' split
  all_goals omega
theorem c_signs31:PC Tryz.prog 119 [] (U2 C4):=by
 refine PC.ofT A7 rfl (Nat.le_of_ble_eq_true rfl) rfl (H8 _) ?_;repeat' ((with_reducible first|refine wr ?_|refine k_cu ?_ ?_|refine wb2 ?_ ?_<;>(intro hb;try simp only [hb])|fail)<;>try simp only [go_sem,seval])
 exact Z7 (xs:=C4.map DV.str) (u:=1) A0 rfl rfl (H4 _) ⟨[],rfl⟩
theorem c_decls31:PC Tryz.prog 85 [] (U2 C5):=by
 refine PC.ofT A7 rfl (Nat.le_of_ble_eq_true rfl) rfl (H8 _) ?_;repeat' ((with_reducible first|refine wr ?_|refine k_cu ?_ ?_|refine wb2 ?_ ?_<;>(intro hb;try simp only [hb])|fail)<;>try simp only [go_sem,seval])
 exact Z7 (xs:=C5.map DV.str) (u:=1) A0 rfl rfl (H4 _) ⟨[],rfl⟩
theorem c_trigs31:PC Tryz.prog 99 [] (U2 C9):=by
 refine PC.ofT A7 rfl (Nat.le_of_ble_eq_true rfl) rfl (H8 _) ?_;repeat' ((with_reducible first|refine wr ?_|refine k_cu ?_ ?_|refine wb2 ?_ ?_<;>(intro hb;try simp only [hb])|fail)<;>try simp only [go_sem,seval])
 exact Z7 (xs:=C9.map DV.str) (u:=1) A0 rfl rfl (H4 _) ⟨[],rfl⟩
theorem c_stmts31:PC Tryz.prog 175 [] (U2 B6):=by
 refine PC.ofT A7 rfl (Nat.le_of_ble_eq_true rfl) rfl (H8 _) ?_;repeat' ((with_reducible first|refine wr ?_|refine k_cu ?_ ?_|refine wb2 ?_ ?_<;>(intro hb;try simp only [hb])|fail)<;>try simp only [go_sem,seval])
 exact Z7 (xs:=B6.map DV.str) (u:=1) A0 rfl rfl (H4 _) ⟨[],rfl⟩
theorem gl_fr {K H':Hp} {cc b:Nat} {a b' c e:DV} (l:List Ex) (hK:∀ i,cc<=i->K i=none) (hb0:cc<=b) (hb:H' b=some ⟨5,true,A4 (l.map Ex.v)⟩) (h:∀ j,j<cc->H' j=K j) :
  GL H' [.agg [a,b',c,.slc b 0 l.length,e]] K [.agg [a,b',c,K3 l,e]] :=
 GL.frzS (id:=b) hb rfl (fun j=>by
  by_cases hj:j<cc
  ·exact .inr ⟨by omega,(h j hj).symm⟩
  ·exact .inl (hK j (by omega))) (.cons _ _ _ _ (.agg _ _ (.cons _ _ _ _ (.same _) (.cons _ _ _ _ (.same _) (.cons _ _ _ _ (.same _) (.cons _ _ _ _ (M0 (u:=5) (by simp) (A4f l) ⟨[],by simp⟩) (.cons _ _ _ _ (.same _) .nil)))))) .nil)
theorem R1 (e:Ex):A4 ([e].map Ex.v)=[I64 e.kind,I64 e.value,.str e.name,K3 e.args,I64 e.pos]:=by
 rw [List.map_cons,Ex.v_w];rfl
theorem A7b (e x:Ex):A4 ([e,x].map Ex.v)=[I64 e.kind,I64 e.value,.str e.name,K3 e.args,I64 e.pos,I64 x.kind,I64 x.value,.str x.name,K3 x.args,I64 x.pos]:=by
 rw [List.map_cons,List.map_cons,Ex.v_w,Ex.v_w];rfl
abbrev RdC (L:List Tok) (E:Int) (f:Nat) (vs:List DV) (s:Rd) (r:DV × Rd):Prop :=
 ∀ (H:Hp) (cc t:Nat),H t=some (rdR L E s)->t<cc->AC Tryz.prog f (.ptr t 0 :: vs) H cc (fun v H' c'=>v=r.1/\H'=H.upd t (rdR L E r.2))
theorem c_unary (L:List Tok) (E:Int) (hL:L.length<=1000000000) (f:Nat)
  (ib:∀ n s r,1<=n->n<=6->E5 L E f n s=some r->RI L s->RdC L E 104 [I64 n] s (r.1.v,r.2))
  (iu:∀ s r,J6 L E f s=some r->RI L s->RdC L E 156 [] s (r.1.v,r.2))
  (s:Rd) (r:Ex × Rd) (h:J6 L E (f+1) s=some r) (hR:RI L s):RdC L E 156 [] s (r.1.v,r.2):=by
 intro H cc t ht htc;have hri:=hR.i;have hro:=hR.o0;have hro1:=hR.o1;have hp0:=hR.p0;have hp1:=hR.p1;refine AC.bodyT A7 rfl (Nat.le_of_ble_eq_true rfl) fun hfr=>?_;repeat' ((with_reducible first|refine wr ?_|refine k_cu ?_ ?_|refine wb2 ?_ ?_<;>(intro hb;try simp only [hb])|fail)<;>try simp only [go_sem,seval])
 refine AC.call (c_peek L E s _ _ t (by rw [A2 (by omega)];exact ht) (by omega)) ?_;rintro v H' c1 ⟨rfl,rfl⟩ hc;have ne0:=T4 t cc c1 (c1+1) (by omega);simp only [go_sem,seval,ne0,A0,A1];repeat' ((with_reducible first|refine wr ?_|refine k_cu ?_ ?_|refine wb2 ?_ ?_<;>(intro hb;try simp only [hb])|fail)<;>try simp only [go_sem,seval,ne0,A0,A1])
 have ham:=c_amongO L E s ((H.upd cc A1c).upd c1 (tkB (A3 L E s))) (c1+1+1) t (c1+1) (by rw [A2 (by omega),A2 (by omega)];exact hfr _ (by omega)) (by rw [A2 (by omega),A2 (by omega)];exact ht) (by omega) P5 (by decide);refine AC.call ham ?_;rintro v H' c2 ⟨rfl,rfl⟩ hc2;unfold J6 at h;dsimp only at h;have hkr : -1<=B4 L E s P5/\B4 L E s P5<3:=Y1 L E s P5 0;have hnn:0<=B4 L E s P5->s.i<L.length:=fun h=>(G3 h).2.1;generalize B4 L E s P5=k at h hkr hnn;have hGt:((H.upd cc A1c).upd c1 (tkB (A3 L E s))) t=some (rdR L E s):=by rw [A2 (by omega),A2 (by omega)];exact ht
 by_cases hk:k<0
 ·rw [if_pos hk] at h;cases h;have hd:decide (k<0)=true:=by simpa using hk
  simp only [go_sem,seval,ne0,hd];repeat' ((with_reducible first|refine wr ?_|refine k_cu ?_ ?_|refine wb2 ?_ ?_<;>(intro hb;try simp only [hb])|fail)<;>try simp only [go_sem,seval,ne0,hd])
  refine AC.call (c_primary L E s _ _ t hGt (by omega) (by omega) (by omega)) ?_;rintro v H' c3 ⟨rfl,rfl⟩ hc3;simp only [go_sem,seval,ne0,A0,A1,Ex.v_w];repeat' ((with_reducible first|refine wr ?_|refine k_cu ?_ ?_|refine wb2 ?_ ?_<;>(intro hb;try simp only [hb])|fail)<;>try simp only [go_sem,seval,ne0,A0,A1])
  rw [B8 (rv5 rfl A0)];refine ⟨_,_,F6 (cc:=cc) (A9 hfr htc) (fun j hj=>?_),rfl,rfl⟩;simp [Hp.upd,show ¬j=cc by omega,show ¬j=c1 by omega]
 ·rw [if_neg hk] at h;have hd:decide (k<0)=false:=by simpa using hk
  have hw:IntKind.i64.wrap (s.par+1)=s.par+1:=w64 (by omega) (by omega);have hw2:IntKind.i64.wrap ((s.i:Int)+1)=((s.i+1:Nat):Int):=by rw [w64 (by omega) (by omega)];omega
  have hw3:IntKind.i64.wrap (10+k)=10+k:=w64 (by omega) (by omega);simp only [go_sem,seval,ne0,hd];repeat' ((with_reducible first|refine wr ?_|refine k_cu ?_ ?_|refine wb2 ?_ ?_<;>(intro hb;try simp only [hb])|fail)<;>try simp only [go_sem,seval,ne0,hd,ht,hw])
  refine AC.call (c_limit L E s _ _ t hGt (by omega) _ _ _) ?_;rintro v H' c3 ⟨rfl,rfl⟩ hc3;simp only [go_sem,seval,ne0];repeat' ((with_reducible first|refine wr ?_|refine k_cu ?_ ?_|refine wb2 ?_ ?_<;>(intro hb;try simp only [hb])|fail)<;>try simp only [go_sem,seval,ne0])
  refine AC.call (c_rdok L E _ _ _ t A0 (by omega)) ?_;rintro v H' c4 ⟨rfl,rfl⟩ hc4;cases h2:okR (B7 L E s (s.par+1) 16 50) with
  | false =>
   rw [if_pos h2] at h;cases h;simp only [go_sem,seval,h2];repeat' ((with_reducible first|refine wr ?_|refine k_cu ?_ ?_|refine wb2 ?_ ?_<;>(intro hb;try simp only [hb])|fail)<;>try simp only [go_sem,seval,h2,ne0,A0,A1])
   rw [B8 (rv5 rfl A0)];refine ⟨_,_,Y2 (cc:=cc) (A9 hfr htc) (fun j hj=>?_),rfl,rfl⟩;simp [Hp.upd,show ¬j=cc by omega,show ¬j=c1 by omega]
  | true =>
   rw [if_neg (by simp [h2])] at h;obtain ⟨h3,h4,h5⟩:=I1 (by decide) h2;rw [h5] at h h2 ⊢;simp only [go_sem,seval,h2];have ne0:=T4 t cc c1 c4 (by omega);have k2:RI L { s with i:=s.i+1,par:=s.par+1 }:=⟨hnn (by omega),hro,hro1,hR.o2,by show 0<=s.par+1;omega,h4⟩;by_cases hk2:k=2
   ·subst hk2;rw [if_pos rfl] at h;cases hb:E5 L E f 1 { s with i:=s.i+1,par:=s.par+1 } with
    | none=>rw [hb] at h;cases h
    | some q =>
     obtain ⟨e,s3⟩:=q;rw [hb] at h;dsimp only at h;obtain ⟨a1,a2⟩:=(RI.all f).1 _ _ _ hb k2;obtain ⟨b1,b2⟩:=a1.exp (E:=E) (x:=[41]);have hi3:=a1.i;dsimp only at a2 b2 hi3;repeat' ((with_reducible first|refine wr ?_|refine k_cu ?_ ?_|refine wb2 ?_ ?_<;>(intro hb;try simp only [hb])|fail)<;>try simp only [go_sem,seval,h2,hw,hw2,ne0,A0,A1])
     refine AC.call (ib 1 _ (e,s3) (by decide) (by decide) hb k2 _ _ t (by rw [A2 (by omega),A0]) (by omega)) ?_;rintro v H' c5 ⟨rfl,rfl⟩ hc5;dsimp only;simp only [go_sem,seval,ne0,A0,A1,Ex.v_w];repeat' ((with_reducible first|refine wr ?_|refine k_cu ?_ ?_|refine wb2 ?_ ?_<;>(intro hb;try simp only [hb])|fail)<;>try simp only [go_sem,seval,ne0,A0,A1])
     refine AC.call (c_expect L E s3 _ _ t (by repeat (first|exact A0|rw [A2 (by omega)])) (by omega) (by omega) _) ?_;rintro v H' c6 ⟨rfl,rfl⟩ hc6;obtain ⟨s4,hs4⟩:∃ s4,s4=C1 L E s3 [41]:=⟨_,rfl⟩;rw [<- hs4] at h b1 b2 ⊢;have hw5:IntKind.i64.wrap (s4.par-1)=s4.par-1:=w64 (by omega) (by omega);cases h;simp only [go_sem,seval,ne0,A0,A1,Ex.v_w];repeat' ((with_reducible first|refine wr ?_|refine k_cu ?_ ?_|refine wb2 ?_ ?_<;>(intro hb;try simp only [hb])|fail)<;>try simp only [go_sem,seval,hw5,ne0,A0,A1])
     rw [B8 (rv5 rfl A0)];refine ⟨_,_,F6 (cc:=cc) (A9 hfr htc) (fun j hj=>?_),rfl,rfl⟩;simp [Hp.upd,show ¬j=cc by omega,show ¬j=c1 by omega,show ¬j=c4 by omega];try (split<;>rfl)
   ·rw [if_neg hk2] at h;have hd2:(k == 2)=false:=by simpa using hk2
    cases hb:J6 L E f { s with i:=s.i+1,par:=s.par+1 } with
    | none=>rw [hb] at h;cases h
    | some q =>
     obtain ⟨e,s3⟩:=q;rw [hb] at h;dsimp only at h;obtain ⟨a1,a2⟩:=(RI.all f).2.2 _ _ hb k2;dsimp only at a2;repeat' ((with_reducible first|refine wr ?_|refine k_cu ?_ ?_|refine wb2 ?_ ?_<;>(intro hb;try simp only [hb])|fail)<;>try simp only [go_sem,seval,h2,hw,hw2,hw3,hd2,ne0,A0,A1])
     refine AC.call (iu _ (e,s3) hb k2 _ _ t (by rw [A2 (by omega),A0]) (by omega)) ?_;rintro v H' c5 ⟨rfl,rfl⟩ hc5;have hw5:IntKind.i64.wrap (s3.par-1)=s3.par-1:=w64 (by omega) (by omega);cases h;have ne0:=O1 t cc c1 c4 (c4+1+4) (by omega);simp only [go_sem,seval,ne0,A0,A1,Ex.v_w];repeat' ((with_reducible first|refine wr ?_|refine k_cu ?_ ?_|refine wb2 ?_ ?_<;>(intro hb;try simp only [hb])|fail)<;>try simp only [go_sem,seval,ne0,A0,A1])
     and_intros
     all_goals try (first|rw [hw3]|((repeat rw [A2 (by omega)]);exact hfr _ (by omega)))
     repeat' ((with_reducible first|refine wr ?_|refine k_cu ?_ ?_|refine wb2 ?_ ?_<;>(intro hb;try simp only [hb])|fail)<;>try simp only [go_sem,seval,hw5,ne0,A0,A1])
     rw [B8 (rv5 rfl A0)];refine ⟨_,_,gl_fr (cc:=cc) (b:=c4+1+4) [e] (A9 hfr htc) (by omega) ?_ (fun j hj=>?_),rfl,rfl⟩
     ·rw [R1];dsimp only
      repeat (first|exact A0|rw [A2 (by omega)])
     simp [Hp.upd,show ¬j=cc by omega,show ¬j=c1 by omega,show ¬j=c4 by omega,show ¬j=c4+1+4 by omega];try (split<;>rfl)
abbrev exB (e:Ex):Blk:=⟨0,true,[I64 e.kind,I64 e.value,.str e.name,K3 e.args,I64 e.pos]⟩
theorem c_binary (L:List Tok) (E:Int) (hL:L.length<=1000000000) (f:Nat)
  (ib:∀ g,g<=f->∀ n s r,1<=n->n<=6->E5 L E g n s=some r->RI L s->RdC L E 104 [I64 n] s (r.1.v,r.2))
  (iu:∀ s r,J6 L E f s=some r->RI L s->RdC L E 156 [] s (r.1.v,r.2))
  (n:Int) (s:Rd) (r:Ex × Rd) (hn1:1<=n) (hn6:n<=6) (h:E5 L E (f+1) n s=some r) (hR:RI L s):RdC L E 104 [I64 n] s (r.1.v,r.2):=by
 intro H cc t ht htc;refine AC.bodyT A7 rfl (Nat.le_of_ble_eq_true rfl) fun hfr=>?_;unfold E5 at h;have ne0:=X5 t cc (by omega);by_cases h5:5<n
 ·rw [if_pos h5] at h;have hd:decide (n>5)=true:=by simpa using h5
  repeat' ((with_reducible first|refine wr ?_|refine k_cu ?_ ?_|refine wb2 ?_ ?_<;>(intro hb;try simp only [hb])|fail)<;>try simp only [go_sem,seval,hd])
  refine AC.call (iu _ _ h hR _ _ t (by rw [A2 (by omega)];exact ht) (by omega)) ?_;rintro v H' c1 ⟨rfl,rfl⟩ hc1;dsimp only;simp only [go_sem,seval,ne0,A0,A1,Ex.v_w];repeat' ((with_reducible first|refine wr ?_|refine k_cu ?_ ?_|refine wb2 ?_ ?_<;>(intro hb;try simp only [hb])|fail)<;>try simp only [go_sem,seval,ne0,A0,A1])
  rw [B8 (rv5 rfl A0)];refine ⟨_,_,F6 (cc:=cc) (A9 hfr htc) (fun j hj=>?_),rfl,rfl⟩;simp [Hp.upd,show ¬j=cc by omega]
 rw [if_neg h5] at h;have hd:decide (n>5)=false:=by simpa using h5
 have hw:IntKind.i64.wrap (n+1)=n+1:=w64 (by omega) (by omega);cases hb:E5 L E f (n+1) s with
 | none=>rw [hb] at h;cases h
 | some q =>
  obtain ⟨e,s1⟩:=q;rw [hb] at h;dsimp only at h;obtain ⟨a1,a2⟩:=(RI.all f).1 _ _ _ hb hR;dsimp only at a1;repeat' ((with_reducible first|refine wr ?_|refine k_cu ?_ ?_|refine wb2 ?_ ?_<;>(intro hb;try simp only [hb])|fail)<;>try simp only [go_sem,seval,hd,hw])
  refine AC.call (ib f (Nat.le_refl _) (n+1) _ _ (by omega) (by omega) hb hR _ _ t (by rw [A2 (by omega)];exact ht) (by omega)) ?_;rintro v H' c1 ⟨rfl,rfl⟩ hc1;dsimp only;have ne0:=K0 t cc c1 (by omega);simp only [go_sem,seval,ne0,A0,A1,Ex.v_w];repeat' ((with_reducible first|refine wr ?_|refine k_cu ?_ ?_|refine wb2 ?_ ?_<;>(intro hb;try simp only [hb])|fail)<;>try simp only [go_sem,seval,ne0,A0,A1])
  refine X9 (fun _:Nat × Ex × Rd=>[(0,.ptr t 0),(1,I64 n),(4,.ptr cc 0),(5,.ptr c1 0)]) (fun q=>((H.upd cc A1c).upd t (rdR L E q.2.2)).upd c1 (exB q.2.1))
   (fun q c=>c1+1<=c/\q.1<=f/\K2 L E q.1 n q.2.1 q.2.2=some r/\RI L q.2.2) (fun q=>q.1) (f,e,s1) (fun b=>by simp [D0,tm,Tm.upd]) (by simp [D0,tm,Tm.upd]) (Sub.refl _) ⟨Nat.le_refl _,Nat.le_refl _,h,a1⟩ ?_
  clear h hb a1 a2 s1 e;rintro ⟨g,e,s1⟩ c ⟨hc,hg,hv,k1⟩;dsimp only at hc hg hv k1 ⊢;have hri:=k1.i;cases g with
  | zero=>simp [K2] at hv
  | succ g =>
  unfold K2 at hv;dsimp only at hv;have hTt:∀ b:Blk,(((H.upd cc A1c).upd t (rdR L E s1)).upd c1 b) t=some (rdR L E s1):=fun b=>by rw [A2 (by omega),A0]
  repeat' ((with_reducible first|refine wr ?_|refine cpc c_signs31 ?_|refine k_cu ?_ ?_|refine wb2 ?_ ?_<;>(intro hb;try simp only [hb])|fail)<;>try simp only [go_sem,seval])
  refine AC.call (c_among L E s1 _ _ t (hTt _) (by omega) C4 (by decide)) ?_;rintro v H' c2 ⟨rfl,rfl⟩ hc2;have hkr : -1<=B4 L E s1 C4/\B4 L E s1 C4<13:=Y1 L E s1 C4 0;have hnn:0<=B4 L E s1 C4->s1.i<L.length:=fun h=>(G3 h).2.1;generalize B4 L E s1 C4=k at hv hkr hnn;have hwk:IntKind.i64.wrap (12+k)=12+k:=w64 (by omega) (by omega);by_cases hk:k<0
  ·rw [if_pos (.inl hk)] at hv;cases hv;have hdk:decide (k<0)=true:=by simpa using hk
   simp only [go_sem,seval,ne0,hdk];repeat' ((with_reducible first|refine wr ?_|refine k_cu ?_ ?_|refine wb2 ?_ ?_<;>(intro hb;try simp only [hb])|fail)<;>try simp only [go_sem,seval,ne0,hdk,A0,A1])
   rw [B8 (rv5 rfl A0)];refine ⟨_,_,F6 (cc:=cc) (A9 hfr htc) (fun j hj=>?_),rfl,rfl⟩;simp [Hp.upd,show ¬j=cc by omega,show ¬j=c1 by omega]
  have hdk:decide (k<0)=false:=by simpa using hk
  by_cases hl:D6 (12+k)=n
  ·rw [if_neg (by omega)] at hv;have hdl:(D6 (12+k) != n)=false:=by simp [hl]
   simp only [go_sem,seval,ne0,hdk];repeat' ((with_reducible first|refine wr ?_|refine cpc (c_level _) ?_|refine k_cu ?_ ?_|refine wb2 ?_ ?_<;>(intro hb;try simp only [hb])|fail)<;>try simp only [go_sem,seval,ne0,hdk,hwk,hdl,A0,A1])
   cases hb:E5 L E g (n+1) (A8 s1) with
   | none=>rw [hb] at hv;cases hv
   | some q =>
    obtain ⟨x,s2⟩:=q;rw [hb] at hv;dsimp only at hv;have k2:=k1.nxt (hnn (by omega));obtain ⟨b1,b2⟩:=(RI.all g).1 _ _ _ hb k2;dsimp only at b1;have hw2:IntKind.i64.wrap ((s1.i:Int)+1)=((s1.i+1:Nat):Int):=by rw [w64 (by omega) (by omega)];omega
    refine AC.call (c_peek L E s1 _ _ t (hTt _) (by omega)) ?_;rintro v H' c3 ⟨rfl,rfl⟩ hc3;have ne0:=O1 t cc c1 c3 (c3+7) (by omega);simp only [go_sem,seval,ne0];repeat' ((with_reducible first|refine wr ?_|refine k_cu ?_ ?_|refine wb2 ?_ ?_<;>(intro hb;try simp only [hb])|fail)<;>try simp only [go_sem,seval,hw2,hwk,hw,ne0,A0,A1])
    refine AC.call (ib g (by omega) (n+1) (A8 s1) (x,s2) (by omega) (by omega) hb k2 _ _ t (by repeat (first|exact A0|rw [A2 (by omega)])) (by omega)) ?_;rintro v H' c4 ⟨rfl,rfl⟩ hc4;dsimp only;simp only [go_sem,seval,ne0,A0,A1,Ex.v_w];repeat' ((with_reducible first|refine wr ?_|refine k_cu ?_ ?_|refine wb2 ?_ ?_<;>(intro hb;try simp only [hb])|fail)<;>try simp only [go_sem,seval,ne0,A0,A1])
    and_intros
    all_goals try (first|rw [hwk]|((repeat rw [A2 (by omega)]);exact hfr _ (by omega)))
    by_cases h3:n=3
    ·rw [if_pos h3] at hv;cases hv;have hd3:(n == 3)=true:=by simpa using h3
     repeat' ((with_reducible first|refine wr ?_|refine k_cu ?_ ?_|refine wb2 ?_ ?_<;>(intro hb;try simp only [hb])|fail)<;>try simp only [go_sem,seval,hd3,ne0,A0,A1])
     rw [B8 (rv5 rfl A0)];refine ⟨_,_,gl_fr (cc:=cc) (b:=c3+7) [e,x] (A9 hfr htc) (by omega) ?_ (fun j hj=>?_),rfl,rfl⟩
     ·rw [A7b];dsimp only
      repeat (first|exact A0|rw [A2 (by omega)])
     simp [Hp.upd,show ¬j=cc by omega,show ¬j=c1 by omega,show ¬j=c3+7 by omega];try (split<;>rfl)
    ·rw [if_neg h3] at hv;have hd3:(n == 3)=false:=by simpa using h3
     repeat' ((with_reducible first|refine wr ?_|refine k_cu ?_ ?_|refine wb2 ?_ ?_<;>(intro hb;try simp only [hb])|fail)<;>try simp only [go_sem,seval,hd3,ne0,A0,A1])
     refine ⟨(g,.mk (12+k) 0 [] [e,x] (A3 L E s1).pos,s2),?_,inv ⟨by omega,by simp only;omega,hv,b1⟩,by simp only;omega⟩;refine GL.frzT (id:=c3+7) (b:=⟨5,true,A4 ([e,x].map Ex.v)⟩) ?_ rfl (fun j=>?_) (FzL.refl _)
     ·rw [A7b]
      repeat (first|exact A0|rw [A2 (by omega)])
     by_cases j1:j=c1
     ·subst j1;refine .inr ⟨by omega,.inr ⟨_,_,A0,A0,rfl,rfl,.cons _ _ _ _ (.same _) (.cons _ _ _ _ (.same _) (.cons _ _ _ _ (.same _) (.cons _ _ _ _ (M0 (u:=5) (xs:=[e,x].map Ex.v) (by simp) (A4f _) ⟨[],by simp⟩) (.cons _ _ _ _ (.same _) .nil)))),by simp [DV.one]⟩⟩
     ·by_cases j2:j=c3+7
      ·subst j2;left
       repeat rw [A2 (by omega)]
       exact hfr _ (by omega)
      ·refine .inr ⟨j2,.inl ?_⟩;simp [Hp.upd,j1,j2];try (split<;>rfl)
  ·rw [if_pos (.inr hl)] at hv;cases hv;have hdl:(D6 (12+k) != n)=true:=by simpa using hl
   simp only [go_sem,seval,ne0,hdk];repeat' ((with_reducible first|refine wr ?_|refine cpc (c_level _) ?_|refine k_cu ?_ ?_|refine wb2 ?_ ?_<;>(intro hb;try simp only [hb])|fail)<;>try simp only [go_sem,seval,ne0,hdk,hwk,hdl,A0,A1])
   rw [B8 (rv5 rfl A0)];refine ⟨_,_,F6 (cc:=cc) (A9 hfr htc) (fun j hj=>?_),rfl,rfl⟩;simp [Hp.upd,show ¬j=cc by omega,show ¬j=c1 by omega]
theorem c_bu (L:List Tok) (E:Int) (hL:L.length<=1000000000):∀ f:Nat,(∀ n s r,1<=n->n<=6->E5 L E f n s=some r->RI L s->RdC L E 104 [I64 n] s (r.1.v,r.2))/\(∀ s r,J6 L E f s=some r->RI L s->RdC L E 156 [] s (r.1.v,r.2)):=by
 intro f
 induction f using Nat.strongRecOn with
 | _ f ih =>
  cases f with
  | zero=>exact ⟨fun n s r _ _ h=>by simp [E5] at h,fun s r h=>by simp [J6] at h⟩
  | succ f =>
   exact ⟨fun n s r h1 h2 h hR=>c_binary L E hL f (fun g hg=>(ih g (by omega)).1) (ih f (by omega)).2 n s r h1 h2 h hR,
    fun s r h hR=>c_unary L E hL f (ih f (by omega)).1 (ih f (by omega)).2 s r h hR⟩
theorem c_expression (L:List Tok) (E:Int) (hL:L.length<=1000000000) (f:Nat) (s:Rd) (r:Ex × Rd) (h:F2 L E f s=some r) (hi:s.i<=L.length):RdC L E 62 [] s (r.1.v,r.2):=by
 intro H cc t ht htc;refine AC.bodyT A7 rfl (Nat.le_of_ble_eq_true rfl) fun hfr=>?_;have ne0:=X5 t cc (by omega);repeat' ((with_reducible first|refine wr ?_|refine k_cu ?_ ?_|refine wb2 ?_ ?_<;>(intro hb;try simp only [hb])|fail)<;>try simp only [go_sem,seval,ht,ne0,A0,A1])
 refine AC.call ((c_bu L E hL f).1 1 { s with ops:=0,par:=0 } r (by decide) (by decide) h ⟨hi,Int.le_refl 0,(by decide:(0:Int)<=33),fun _=>(by decide:(0:Int)<=32),Int.le_refl 0,(by decide:(0:Int)<=16)⟩ _ _ t (by exact A0) (by omega)) ?_;rintro v H' c1 ⟨rfl,rfl⟩ hc1;dsimp only;simp only [go_sem,seval,ne0,A0,A1,Ex.v_w];repeat' ((with_reducible first|refine wr ?_|refine k_cu ?_ ?_|refine wb2 ?_ ?_<;>(intro hb;try simp only [hb])|fail)<;>try simp only [go_sem,seval,ne0,A0,A1])
 rw [B8 (rv5 rfl A0)];refine ⟨_,_,F6 (cc:=cc) (A9 hfr htc) (fun j hj=>?_),rfl,rfl⟩;simp [Hp.upd,show ¬j=cc by omega];try (split<;>rfl)
theorem nlL_i64:∀ l:List Int,DV.nlL (l.map fun k=>I64 k)=true:=fun l=>N9 (fun _=>rfl) l
abbrev tabV (ks:List (List UInt8)) (vs:List Int):DV:=.mp .s (ks.map DV.str) (vs.map fun k=>I64 k)
theorem tab_nl (ks:List (List UInt8)) (vs:List Int):(tabV ks vs).nl=true:=by simp only [DV.nl,H8,nlL_i64,Bool.and_true]
theorem A6t (x:List UInt8):∀ (l:List (List UInt8)) (k:Nat),(N4 x k l = -1/\J1 (.str x) (l.map DV.str) k=none)\/∃ j:Nat,N4 x k l=j/\J1 (.str x) (l.map DV.str) k=some j/\j<k+l.length
 | [],k=>.inl ⟨rfl,rfl⟩
 | w :: l,k=>by
  simp only [List.map_cons,J1,V9,N4];cases h:(x == w) with
  | true=>exact .inr ⟨k,by simp,by simp,by simp⟩
  | false =>
   simp only [Bool.false_eq_true,if_false];rcases A6t x l (k+1) with h|⟨j,h1,h2,h3⟩
   ·exact .inl h
   ·exact .inr ⟨j,h1,h2,by simp only [List.length_cons];omega⟩
theorem A8h (ks:List (List UInt8)) (vs:List Int) (hl:ks.length=vs.length) (x:List UInt8):lkV (I64 0) false (vs.map fun k=>I64 k) (J1 (.str x) (ks.map DV.str) 0)=some (I64 (lkI ks vs x)):=by
 unfold lkI;rcases A6t x ks 0 with ⟨h1,h2⟩|⟨j,h1,h2,h3⟩
 ·rw [h1,h2,if_pos rfl];rfl
 ·have hj:j<vs.length:=by omega
  rw [h1,h2,if_neg (by omega),l_some,List.getElem?_map,List.getElem?_eq_getElem hj,Int.toNat_natCast,List.getD_eq_getElem?_getD,List.getElem?_eq_getElem hj];rfl
theorem c_ops:PC Tryz.prog 159 [] (tabV C4 A6b):=by
 refine PC.ofT A7 rfl (Nat.le_of_ble_eq_true rfl) rfl (tab_nl _ _) ?_;repeat' ((with_reducible first|refine wr ?_|refine k_cu ?_ ?_|refine wb2 ?_ ?_<;>(intro hb;try simp only [hb])|fail)<;>try simp only [go_sem,seval,J1,V9,List.cons_beq_cons,List.nil_beq_eq,List.beq_nil_eq,List.isEmpty_cons,List.isEmpty_nil,Bool.false_and,Bool.true_and,Bool.and_true,Bool.and_false,A1])
 exact A8a A0
theorem c_stms:PC Tryz.prog 188 [] (tabV B6 U0):=by
 refine PC.ofT A7 rfl (Nat.le_of_ble_eq_true rfl) rfl (tab_nl _ _) ?_;repeat' ((with_reducible first|refine wr ?_|refine k_cu ?_ ?_|refine wb2 ?_ ?_<;>(intro hb;try simp only [hb])|fail)<;>try simp only [go_sem,seval,J1,V9,List.cons_beq_cons,List.nil_beq_eq,List.beq_nil_eq,List.isEmpty_cons,List.isEmpty_nil,Bool.false_and,Bool.true_and,Bool.and_true,Bool.and_false,A1])
 exact A8a A0
theorem c_lvs:PC Tryz.prog 115 [] (tabV F1 G8):=by
 refine PC.ofT A7 rfl (Nat.le_of_ble_eq_true rfl) rfl (tab_nl _ _) ?_;repeat' ((with_reducible first|refine wr ?_|refine k_cu ?_ ?_|refine wb2 ?_ ?_<;>(intro hb;try simp only [hb])|fail)<;>try simp only [go_sem,seval,J1,V9,List.cons_beq_cons,List.nil_beq_eq,List.beq_nil_eq,List.isEmpty_cons,List.isEmpty_nil,Bool.false_and,Bool.true_and,Bool.and_true,Bool.and_false,A1])
 exact A8a A0
theorem c_pdecls:PC Tryz.prog 56 [] (U2 C5):=by
 refine PC.ofT A7 rfl (Nat.le_of_ble_eq_true rfl) rfl (H8 _) ?_;repeat' ((with_reducible first|refine wr ?_|refine k_cu ?_ ?_|refine wb2 ?_ ?_<;>(intro hb;try simp only [hb])|fail)<;>try simp only [go_sem,seval])
 exact Z7 (xs:=C5.map DV.str) (u:=1) A0 rfl rfl (H4 _) ⟨[],rfl⟩
theorem c_ptrigs:PC Tryz.prog 58 [] (U2 C9):=by
 refine PC.ofT A7 rfl (Nat.le_of_ble_eq_true rfl) rfl (H8 _) ?_;repeat' ((with_reducible first|refine wr ?_|refine k_cu ?_ ?_|refine wb2 ?_ ?_<;>(intro hb;try simp only [hb])|fail)<;>try simp only [go_sem,seval])
 exact Z7 (xs:=C9.map DV.str) (u:=1) A0 rfl rfl (H4 _) ⟨[],rfl⟩
theorem c_levP (k:Int):PC Tryz.prog 112 [I64 k] (I64 (D6 k)):=by
 refine PC.ofT A7 rfl (Nat.le_of_ble_eq_true rfl) (by simp [DV.nlL,DV.nl]) (by simp [DV.nlL,DV.nl]) ?_;repeat' ((with_reducible first|refine wr ?_|refine k_cu ?_ ?_|refine wb2 ?_ ?_<;>(intro hb;try simp only [hb])|fail)<;>try simp only [go_sem,seval])
 all_goals
  refine A5 (congrArg I64 ?_);simp only [beq_iff_eq,beq_eq_false_iff_ne,decide_eq_true_eq,decide_eq_false_iff_not,Bool.and_eq_true,Bool.or_eq_true,Bool.and_eq_false_iff,Bool.or_eq_false_iff] at *;unfold D6;repeat' split
  all_goals omega
theorem c_nmdP (k:Int):PC Tryz.prog 116 [I64 k] (.bool (nmdB k)):=by
 refine PC.ofT A7 rfl (Nat.le_of_ble_eq_true rfl) (by simp [DV.nlL,DV.nl]) (by simp [DV.nlL,DV.nl]) ?_;repeat' ((with_reducible first|refine wr ?_|refine k_cu ?_ ?_|refine wb2 ?_ ?_<;>(intro hb;try simp only [hb])|fail)<;>try simp only [go_sem,seval])
 all_goals exact A5 (by simp_all [nmdB])
theorem c_deeper (L:List Tok) (E:Int) (s:Rd) (H:Hp) (cc t:Nat) (ht:H t=some (paB L E s)) (htc:t<cc) (hi:s.i<=10000000000) (h0:0<=s.par) (h1:s.par<=16):AC Tryz.prog 197 [.ptr t 0] H cc (fun v H' c'=>v=.bool (!(s.par == 16))/\H'=H.upd t (paB L E (if s.par=16 then pfl L E s 50 else { s with i:=s.i+1,par:=s.par+1 }))):=by
 refine AC.bodyT A7 rfl (Nat.le_of_ble_eq_true rfl) fun hfr=>?_;by_cases h:s.par=16
 ·have hd:(s.par == 16)=true:=by simpa using h
  rw [if_pos h,hd];repeat' ((with_reducible first|refine wr ?_|refine k_cu ?_ ?_|refine wb2 ?_ ?_<;>(intro hb;try simp only [hb])|fail)<;>try simp only [go_sem,seval,ht,hd])
  refine AC.call (c_pfail L E s _ _ t ht (by omega) 50) ?_;rintro v H' c1 ⟨rfl,rfl⟩ hc;simp only [go_sem,seval];repeat' ((with_reducible first|refine wr ?_|refine k_cu ?_ ?_|refine wb2 ?_ ?_<;>(intro hb;try simp only [hb])|fail)<;>try simp only [go_sem,seval])
  exact ⟨_,_,GL.refl _ _,rfl,rfl⟩
 ·have hd:(s.par == 16)=false:=by simpa using h
  have hw:IntKind.i64.wrap ((s.i:Int)+1)=((s.i+1:Nat):Int):=by rw [w64 (by omega) (by omega)];omega
  have hw2:IntKind.i64.wrap (s.par+1)=s.par+1:=w64 (by omega) (by omega);rw [if_neg h,hd];repeat' ((with_reducible first|refine wr ?_|refine k_cu ?_ ?_|refine wb2 ?_ ?_<;>(intro hb;try simp only [hb])|fail)<;>try simp only [go_sem,seval,ht,hd,hw,hw2,A0,A1])
  exact ⟨_,_,GL.refl _ _,rfl,rfl⟩
structure PaE (L:List Tok) (s:Rd) (q:Ex × Rd) (x:Ex) (s':Rd):Prop where
 eq:Eqv s' q.2
 vl:okR q.2=true->x=q.1
 bd:PI L s'
 pr:s'.par=s.par
abbrev PeC (L:List Tok) (E:Int) (f:Nat) (vs:List DV) (s:Rd) (q:Ex × Rd):Prop :=
 ∀ (H:Hp) (cc t:Nat),H t=some (paB L E s)->t<cc->AC Tryz.prog f (.ptr t 0 :: vs) H cc (fun v H' c' => ∃ x s',v=x.v/\H'=H.upd t (paB L E s')/\PaE L s q x s')
abbrev exBk (k v:Int) (n:List UInt8) (p:Int):Blk:=⟨0,true,[I64 k,I64 v,.str n,.snil,I64 p]⟩
theorem c_pleaf (L:List Tok) (E:Int) (hL:L.length<=1000000000) (hK:∀ t∈L,F9 t) (s m:Rd) (hq:Eqv s m) (hP:PI L s) (hp:isP L E s 5 [[40]]=false):PeC L E 196 [] s (I3 L E m):=by
 intro H cc t ht htc;have hri:=hP.i;have hro:=hP.o0;have hro1:=hP.o1;refine AC.bodyT A7 rfl (Nat.le_of_ble_eq_true rfl) fun hfr=>?_;have hio:=c_pisO L E s (H.upd cc A1c) (cc+2) t (cc+1) (by rw [A2 (by omega)];exact hfr _ (by omega)) (by rw [A2 (by omega)];exact ht) (by omega) 5 [[40]] (by simp);repeat' ((with_reducible first|refine wr ?_|refine k_cu ?_ ?_|refine wb2 ?_ ?_<;>(intro hb;try simp only [hb])|fail)<;>try simp only [go_sem,seval])
 refine AC.call hio ?_;rintro v H' c1 ⟨rfl,rfl⟩ hc1;simp only [go_sem,seval,hp];repeat' ((with_reducible first|refine wr ?_|refine k_cu ?_ ?_|refine wb2 ?_ ?_<;>(intro hb;try simp only [hb])|fail)<;>try simp only [go_sem,seval,hp])
 refine AC.call (c_here L E s _ _ t (by rw [A2 (by omega)];exact ht) (by omega)) ?_;rintro v H' c2 ⟨rfl,rfl⟩ hc2;have ne0:=T4 t cc c2 (c2+1) (by omega);have tail:∀ (kd vl:Int) (nm:List UInt8) (c3:Nat),c2+2<=c3->(kd,vl,nm)=lfK (A3 L E s)->IW Tryz.prog 96 (pz Tryz.prog 196 (.o (.o (.i (.i (.o .h)))))) ⟨tm [(0,.ptr t 0),(2,.ptr cc 0),(5,.ptr (c2+1) 0)],((H.upd cc A1c).upd c2 (tkB (A3 L E s))).upd (c2+1) (exBk kd vl nm (A3 L E s).pos),c3⟩ (rt [.cell 2 5 true] fun v H' c' => ∃ v2 H2,GL H' [v] H2 [v2]/\∃ x s',v2=x.v/\H2=H.upd t (paB L E s')/\PaE L s (I3 L E m) x s'):=by
  intro kd vl nm c3 hc3 hlf;have hGt:(((H.upd cc A1c).upd c2 (tkB (A3 L E s))).upd (c2+1) (exBk kd vl nm (A3 L E s).pos)) t=some (paB L E s):=by rw [A2 (by omega),A2 (by omega),A2 (by omega)];exact ht
  have hbad:∀ (e:Int) (c4:Nat),PaE L s (I3 L E m) Ex0 (pfl L E s e)->GL (((((H.upd cc A1c).upd c2 (tkB (A3 L E s))).upd (c2+1) (exBk kd vl nm (A3 L E s).pos)).upd t (paB L E (pfl L E s e))).upd cc A1c) [.agg [I64 0,I64 0,.str [],.snil,I64 0]] (H.upd t (paB L E (pfl L E s e))) [.agg [I64 0,I64 0,.str [],.lst [],I64 0]]:=fun e c4 _ =>
   Y2 (cc:=cc) (A9 hfr htc) (fun j hj=>by simp [Hp.upd,show ¬j=cc by omega,show ¬j=c2 by omega,show ¬j=c2+1 by omega])
  by_cases hk0:kd=0
  ·have hd:(kd == 0)=true:=by simpa using hk0
   have hr:PaE L s (I3 L E m) Ex0 (pfl L E s 4):=by
    rcases hq.cas with ⟨rfl,ho⟩|⟨h1,h2⟩
    ·rw [A6q hK ho];unfold leafR;dsimp only;rw [<- hlf,if_pos hk0];exact ⟨.refl _,fun _=>rfl,hP.fl,A4s.2.2⟩
    ·rw [A4r h2,R9 h1];exact ⟨hq,fun h=>(by simp [h2] at h),hP,rfl⟩
   repeat' ((with_reducible first|refine wr ?_|refine k_cu ?_ ?_|refine wb2 ?_ ?_<;>(intro hb;try simp only [hb])|fail)<;>try simp only [go_sem,seval,hd,ne0,A0,A1])
   refine AC.call (c_pfail L E s _ _ t hGt (by omega) 4) ?_;rintro v H' c4 ⟨rfl,rfl⟩ hc4;simp only [go_sem,seval,ne0,A0,A1];repeat' ((with_reducible first|refine wr ?_|refine k_cu ?_ ?_|refine wb2 ?_ ?_<;>(intro hb;try simp only [hb])|fail)<;>try simp only [go_sem,seval,ne0,A0,A1])
   rw [B8 (rv5 rfl A0)];exact ⟨_,_,hbad 4 c4 hr,Ex0,_,rfl,rfl,hr⟩
  have hd:(kd == 0)=false:=by simpa using hk0
  repeat' ((with_reducible first|refine wr ?_|refine k_cu ?_ ?_|refine wb2 ?_ ?_<;>(intro hb;try simp only [hb])|fail)<;>try simp only [go_sem,seval,hd,ne0,A0,A1])
  refine AC.call (c_pok L E s _ _ t hGt (by omega)) ?_;rintro v H' c4 ⟨rfl,rfl⟩ hc4;cases ho:okR s with
  | false =>
   have hm:okR m=false:=by rw [<- hq.ok,ho]
   have hr:PaE L s (I3 L E m) Ex0 (pfl L E s 4):=by
    rw [A4r hm,R9 ho];exact ⟨hq,fun h=>(by simp [hm] at h),hP,rfl⟩
   simp only [go_sem,seval,ho];repeat' ((with_reducible first|refine wr ?_|refine k_cu ?_ ?_|refine wb2 ?_ ?_<;>(intro hb;try simp only [hb])|fail)<;>try simp only [go_sem,seval,ho,ne0,A0,A1])
   refine AC.call (c_pfail L E s _ _ t hGt (by omega) 4) ?_;rintro v H' c5 ⟨rfl,rfl⟩ hc5;simp only [go_sem,seval,ne0,A0,A1];repeat' ((with_reducible first|refine wr ?_|refine k_cu ?_ ?_|refine wb2 ?_ ?_<;>(intro hb;try simp only [hb])|fail)<;>try simp only [go_sem,seval,ne0,A0,A1])
   rw [B8 (rv5 rfl A0)];exact ⟨_,_,hbad 4 c4 hr,Ex0,_,rfl,rfl,hr⟩
  | true =>
   obtain rfl:s=m:=hq.s (by rw [<- hq.ok,ho]);have hpr:I3 L E s=leafR L E s:=A6q hK ho;unfold leafR at hpr;dsimp only at hpr;rw [<- hlf] at hpr;dsimp only at hpr;rw [if_neg hk0] at hpr;by_cases h32:s.ops=32
   ·have hd2:(s.ops == 32)=true:=by simpa using h32
    rw [if_pos (by omega)] at hpr;have hr:PaE L s (I3 L E s) Ex0 (pfl L E s 9):=by
     rw [hpr];refine ⟨.bad ?_ ?_ (A3z (by omega) (by decide)),fun _=>rfl,hP.fl,A4s.2.2⟩
     ·dsimp only;rw [lim_at (by omega) ho,pfl_at ho]
     ·dsimp only;rw [lim_at (by omega) ho,pfl_at ho]
    simp only [go_sem,seval,ho];repeat' ((with_reducible first|refine wr ?_|refine k_cu ?_ ?_|refine wb2 ?_ ?_<;>(intro hb;try simp only [hb])|fail)<;>try simp only [go_sem,seval,ho,hd2,hGt,ne0,A0,A1])
    refine AC.call (c_pfail L E s _ _ t hGt (by omega) 9) ?_;rintro v H' c5 ⟨rfl,rfl⟩ hc5;simp only [go_sem,seval,ne0,A0,A1];repeat' ((with_reducible first|refine wr ?_|refine k_cu ?_ ?_|refine wb2 ?_ ?_<;>(intro hb;try simp only [hb])|fail)<;>try simp only [go_sem,seval,ne0,A0,A1])
    rw [B8 (rv5 rfl A0)];exact ⟨_,_,hbad 9 c4 hr,Ex0,_,rfl,rfl,hr⟩
   ·have hd2:(s.ops == 32)=false:=by simpa using h32
    have hlt:s.i<L.length:=by
     have hk:(A3 L E s).kind≠0:=fun h=>by
      rw [lfK,if_neg (by omega),if_neg (by omega),if_neg (by omega)] at hlf;exact hk0 (congrArg (·.1) hlf)
     exact (I7 hk rfl).2
    have hw1:IntKind.i64.wrap (s.ops+1)=s.ops+1:=w64 (by omega) (by omega);have hw2:IntKind.i64.wrap ((s.i:Int)+1)=((s.i+1:Nat):Int):=by rw [w64 (by omega) (by omega)];omega
    rw [if_neg (by omega)] at hpr;have hP3:PI L ({ s with i:=s.i+1,ops:=s.ops+1 }:Rd):=⟨hlt,by show 0<=s.ops+1;omega,by show s.ops+1<=32;omega,hP.p0,hP.p1⟩;have hcn:=c_nmdP kd;cases hn:nmdB kd with
    | true =>
     rw [hn] at hcn;simp only [go_sem,seval,ho];repeat' ((with_reducible first|refine wr ?_|refine cpc hcn ?_|refine k_cu ?_ ?_|refine wb2 ?_ ?_<;>(intro hb;try simp only [hb])|fail)<;>try simp only [go_sem,seval,ho,hd2,hGt,hw1,hw2,ne0,A0,A1])
     rw [if_pos hn] at hpr;obtain ⟨g1,g2⟩:=hP3.take (E:=E) (x:=1) (by decide);have hnm:vl=0/\nm=[]:=by
      unfold lfK at hlf;split at hlf
      ·cases hlf;cases hn
      ·split at hlf
       ·cases hlf;cases hn
       ·split at hlf<;>cases hlf<;>exact ⟨rfl,rfl⟩
     obtain ⟨rfl,rfl⟩:=hnm;refine AC.call (c_ptake L E { s with i:=s.i+1,ops:=s.ops+1 } _ _ t A0 (by omega) (by show s.i+1<=10000000000;omega) 1) ?_;rintro v H' c5 ⟨rfl,rfl⟩ hc5;simp only [go_sem,seval,ne0,A0,A1];repeat' ((with_reducible first|refine wr ?_|refine k_cu ?_ ?_|refine wb2 ?_ ?_<;>(intro hb;try simp only [hb])|fail)<;>try simp only [go_sem,seval,ne0,A0,A1])
     rw [B8 (rv5 rfl A0)];refine ⟨_,_,Y2 (cc:=cc) (K:=H.upd t (paB L E (A6 L E ({ s with i:=s.i+1,ops:=s.ops+1 }:Rd) 1).2)) (A9 hfr htc) (fun j hj=>?_),.mk kd 0 (A6 L E ({ s with i:=s.i+1,ops:=s.ops+1 }:Rd) 1).1.text [] (A3 L E s).pos,_,rfl,rfl,?_⟩
     ·simp [Hp.upd,show ¬j=cc by omega,show ¬j=c2 by omega,show ¬j=c2+1 by omega];try (split<;>rfl)
     ·rw [hpr];exact ⟨.refl _,fun _=>rfl,g1,g2⟩
    | false =>
     rw [if_neg (by simp [hn])] at hpr;rw [hn] at hcn;simp only [go_sem,seval,ho];repeat' ((with_reducible first|refine wr ?_|refine cpc hcn ?_|refine k_cu ?_ ?_|refine wb2 ?_ ?_<;>(intro hb;try simp only [hb])|fail)<;>try simp only [go_sem,seval,ho,hd2,hGt,hw1,hw2,ne0,A0,A1])
     rw [B8 (rv5 rfl A0)];refine ⟨_,_,Y2 (cc:=cc) (K:=H.upd t (paB L E ({ s with i:=s.i+1,ops:=s.ops+1 }:Rd))) (A9 hfr htc) (fun j hj=>?_),.mk kd vl nm [] (A3 L E s).pos,_,rfl,rfl,?_⟩
     ·simp [Hp.upd,show ¬j=cc by omega,show ¬j=c2 by omega,show ¬j=c2+1 by omega];try (split<;>rfl)
     ·rw [hpr];exact ⟨.refl _,fun _=>rfl,hP3,rfl⟩
 have hlk:=A8h F1 G8 rfl (A3 L E s).text;by_cases h3:(A3 L E s).kind=3
 ·have e3:((A3 L E s).kind == 3)=true:=by simpa using h3
  simp only [go_sem,seval,ne0,A0,A1];repeat' ((with_reducible first|refine E1 (p:=IW _ _ (pz Tryz.prog 196 (.o (.o (.i (.i (.o .h)))))) _ _) ?_|refine wr ?_|refine k_cu ?_ ?_|refine wb2 ?_ ?_<;>(intro hb;try simp only [hb])|fail)<;>try simp only [go_sem,seval,e3,ne0,A0,A1])
  and_intros
  all_goals try ((repeat rw [A2 (by omega)]);exact hfr _ (by omega))
  repeat' ((with_reducible first|refine E1 (p:=IW _ _ (pz Tryz.prog 196 (.o (.o (.i (.i (.o .h)))))) _ _) ?_|refine wr ?_|refine k_cu ?_ ?_|refine wb2 ?_ ?_<;>(intro hb;try simp only [hb])|fail)<;>try simp only [go_sem,seval,e3,ne0,A0,A1])
  exact IW.stage (by simp [D0,tm,Tm.upd]) (tail 1 (A3 L E s).value [] _ (by omega) (by rw [lfK,if_pos h3]))
 have e3:((A3 L E s).kind == 3)=false:=by simpa using h3
 by_cases h1:(A3 L E s).kind=1
 ·have e1:((A3 L E s).kind == 1)=true:=by simpa using h1
  simp only [go_sem,seval,ne0,A0,A1];repeat' ((with_reducible first|refine E1 (p:=IW _ _ (pz Tryz.prog 196 (.o (.o (.i (.i (.o .h)))))) _ _) ?_|refine wr ?_|refine k_cu ?_ ?_|refine wb2 ?_ ?_<;>(intro hb;try simp only [hb])|fail)<;>try simp only [go_sem,seval,e3,e1,ne0,A0,A1])
  and_intros
  all_goals try ((repeat rw [A2 (by omega)]);exact hfr _ (by omega))
  repeat' ((with_reducible first|refine E1 (p:=IW _ _ (pz Tryz.prog 196 (.o (.o (.i (.i (.o .h)))))) _ _) ?_|refine wr ?_|refine k_cu ?_ ?_|refine wb2 ?_ ?_<;>(intro hb;try simp only [hb])|fail)<;>try simp only [go_sem,seval,e3,e1,ne0,A0,A1])
  exact IW.stage (by simp [D0,tm,Tm.upd]) (tail 2 0 (A3 L E s).text _ (by omega) (by rw [lfK,if_neg h3,if_pos h1]))
 have e1:((A3 L E s).kind == 1)=false:=by simpa using h1
 by_cases h2:(A3 L E s).kind=2
 ·have e2:((A3 L E s).kind == 2)=true:=by simpa using h2
  simp only [go_sem,seval,ne0,A0,A1];repeat' ((with_reducible first|refine E1 (p:=IW _ _ (pz Tryz.prog 196 (.o (.o (.i (.i (.o .h)))))) _ _) ?_|refine wr ?_|refine cpc c_lvs ?_|refine k_cu ?_ ?_|refine wb2 ?_ ?_<;>(intro hb;try simp only [hb])|fail)<;>try simp only [go_sem,seval,e3,e1,e2,hlk,ne0,A0,A1])
  and_intros
  all_goals try ((repeat rw [A2 (by omega)]);exact hfr _ (by omega))
  repeat' ((with_reducible first|refine E1 (p:=IW _ _ (pz Tryz.prog 196 (.o (.o (.i (.i (.o .h)))))) _ _) ?_|refine wr ?_|refine cpc c_lvs ?_|refine k_cu ?_ ?_|refine wb2 ?_ ?_<;>(intro hb;try simp only [hb])|fail)<;>try simp only [go_sem,seval,e3,e1,e2,hlk,ne0,A0,A1])
  exact IW.stage (by simp [D0,tm,Tm.upd]) (tail (lkI F1 G8 (A3 L E s).text) 0 [] _ (by omega) (by rw [lfK,if_neg h3,if_neg h1,if_pos h2]))
 have e2:((A3 L E s).kind == 2)=false:=by simpa using h2
 simp only [go_sem,seval,ne0,A0,A1];repeat' ((with_reducible first|refine E1 (p:=IW _ _ (pz Tryz.prog 196 (.o (.o (.i (.i (.o .h)))))) _ _) ?_|refine wr ?_|refine k_cu ?_ ?_|refine wb2 ?_ ?_<;>(intro hb;try simp only [hb])|fail)<;>try simp only [go_sem,seval,e3,e1,e2,ne0,A0,A1])
 exact IW.stage (by simp [D0,tm,Tm.upd]) (tail 0 0 [] _ (by omega) (by rw [lfK,if_neg h3,if_neg h1,if_neg h2]))
theorem hideP {G:Hp} {k t:Nat} {b:Blk} (h:¬ t=k):S2 (G.upd k b) [k] t=G t:=by
 simp only [S2];rw [if_neg (by simpa using h),A2 h]
theorem mgP {X:Hp} {k t:Nat} {B:Blk} (h:¬ t=k):K1 [k] X ((S2 X [k]).upd t B)=X.upd t B:=by
 funext j
 simp only [K1];by_cases e:j=k
 ·subst e;rw [if_pos (by simp),A2 (fun e=>h e.symm)]
 ·rw [if_neg (by simpa using e)];by_cases e2:j=t
  ·subst e2;rw [A0,A0]
  ·rw [A2 e2,A2 e2];simp only [S2];rw [if_neg (by simpa using e)]
theorem c_pprim (L:List Tok) (E:Int) (hL:L.length<=1000000000) (hK:∀ t∈L,F9 t) (f:Nat)
  (ib:∀ n s m r,1<=n->n<=6->Eqv s m->E5 L E f n m=some r->PI L s->PeC L E 123 [I64 n] s r)
  (s m:Rd) (r:Ex × Rd) (hq:Eqv s m) (h:J6 L E (f+1) m=some r) (hP:PI L s) (hp0:isP L E s 5 [[45],[33]]=false):PeC L E 196 [] s r:=by
 unfold J6 at h;dsimp only at h;cases hp:isP L E s 5 [[40]] with
 | false =>
  rw [if_pos (pre_no hK (by rw [<- hq.isP];exact hp0) (by rw [<- hq.isP];exact hp))] at h;cases h;exact c_pleaf L E hL hK s m hq hP hp
 | true =>
  obtain ⟨ho,hlt, -⟩:=P1 (by decide) hp;obtain rfl:s=m:=hq.s (by rw [<- hq.ok,ho]);have hk:B4 L E s P5=2:=amg_tx hK hp P5 (by decide +kernel);rw [hk,if_neg (by decide)] at h;have hri:=hP.i;have hp0':=hP.p0;have hp1:=hP.p1;intro H cc t ht htc;refine AC.bodyT A7 rfl (Nat.le_of_ble_eq_true rfl) fun hfr=>?_;have hio:=c_pisO L E s (H.upd cc A1c) (cc+2) t (cc+1) (by rw [A2 (by omega)];exact hfr _ (by omega)) (by rw [A2 (by omega)];exact ht) (by omega) 5 [[40]] (by simp);repeat' ((with_reducible first|refine wr ?_|refine k_cu ?_ ?_|refine wb2 ?_ ?_<;>(intro hb;try simp only [hb])|fail)<;>try simp only [go_sem,seval])
  refine AC.call hio ?_;rintro v H' c1 ⟨rfl,rfl⟩ hc1;simp only [go_sem,seval,hp];repeat' ((with_reducible first|refine wr ?_|refine k_cu ?_ ?_|refine wb2 ?_ ?_<;>(intro hb;try simp only [hb])|fail)<;>try simp only [go_sem,seval,hp])
  refine AC.call (c_deeper L E s _ _ t (by rw [A2 (by omega)];exact ht) (by omega) (by omega) hp0' hp1) ?_;rintro v H' c2 ⟨rfl,rfl⟩ hc2;have ne0:=K0 t cc c2 (by omega);by_cases h16:s.par=16
  ·have hd:(s.par == 16)=true:=by simpa using h16
   have hl:B7 L E s (s.par+1) 16 50=pfl L E s 50:=by rw [S1,if_pos (by omega)]
   rw [hl,if_pos (by unfold pfl;exact N0 (by decide))] at h;cases h;rw [if_pos h16];simp only [go_sem,seval,hd,ne0,A0,A1];repeat' ((with_reducible first|refine wr ?_|refine k_cu ?_ ?_|refine wb2 ?_ ?_<;>(intro hb;try simp only [hb])|fail)<;>try simp only [go_sem,seval,hd,ne0,A0,A1])
   rw [B8 (rv5 rfl A0)];refine ⟨_,_,Y2 (cc:=cc) (K:=H.upd t (paB L E (pfl L E s 50))) (A9 hfr htc) (fun j hj=>by simp [Hp.upd,show ¬j=cc by omega]),Ex0,_,rfl,rfl,.refl _,fun _=>rfl,hP.fl,A4s.2.2⟩
  ·have hd:(s.par == 16)=false:=by simpa using h16
   rw [U9 (by omega),if_neg (by rw [ho];decide),if_pos rfl] at h;rw [if_neg h16];have hP2:PI L ({ s with i:=s.i+1,par:=s.par+1 }:Rd):=⟨hlt,hP.o0,hP.o1,by show 0<=s.par+1;omega,by show s.par+1<=16;omega⟩;cases hb:E5 L E f 1 { s with i:=s.i+1,par:=s.par+1 } with
   | none=>rw [hb] at h;cases h
   | some q =>
    obtain ⟨e,m3⟩:=q;rw [hb] at h;dsimp only at h;cases h;simp only [go_sem,seval,hd,ne0,A0,A1];repeat' ((with_reducible first|refine wr ?_|refine k_cu ?_ ?_|refine wb2 ?_ ?_<;>(intro hb;try simp only [hb])|fail)<;>try simp only [go_sem,seval,hd,ne0,A0,A1])
    refine AC.call (ib 1 _ _ _ (by decide) (by decide) (.refl _) hb hP2 _ _ t A0 (by omega)) ?_;rintro v H' c3 ⟨x,s3,rfl,rfl,hx⟩ hc3;have hi3:=hx.bd.i;have ne0:=K0 t cc c3 (by omega);simp only [go_sem,seval,ne0,A0,A1,Ex.v_w];repeat' ((with_reducible first|refine wr ?_|refine k_cu ?_ ?_|refine wb2 ?_ ?_<;>(intro hb;try simp only [hb])|fail)<;>try simp only [go_sem,seval,ne0,A0,A1])
    refine AC.call (c_want L E s3 _ _ t (by repeat (first|exact A0|rw [A2 (by omega)])) (by omega) (by omega) 5 [41]) ?_;rintro v H' c4 ⟨rfl,rfl⟩ hc4;obtain ⟨w1,w2⟩:=hx.bd.want (E:=E) (k:=5) (w:=[41]) (by decide);have hpr3:=hx.pr;dsimp only at hpr3;have hw5:IntKind.i64.wrap ((D9 L E s3 5 [41]).par-1)=(D9 L E s3 5 [41]).par-1:=w64 (by omega) (by omega);have heq:=hx.eq.want (L:=L) (E:=E) (k:=5) (w:=[41]) (fun s=>E7 hK (by decide +kernel));have hres:PaE L s (e, { C1 L E m3 [41] with par:=(C1 L E m3 [41]).par-1 }) x ({ D9 L E s3 5 [41] with par:=(D9 L E s3 5 [41]).par-1 }:Rd):=by
     refine ⟨heq.par (fun k=>by rw [heq.s k]),fun k=>?_,⟨w1.i,w1.o0,w1.o1,by show 0<=(D9 L E s3 5 [41]).par-1;omega,by show (D9 L E s3 5 [41]).par-1<=16;omega⟩,by show (D9 L E s3 5 [41]).par-1=s.par;omega⟩;have k2:okR (C1 L E m3 [41])=true:=k;exact hx.vl (W0 (A8n k2).1).1
    generalize D9 L E s3 5 [41]=s4 at *;simp only [go_sem,seval,ne0,A0,A1];repeat' ((with_reducible first|refine wr ?_|refine k_cu ?_ ?_|refine wb2 ?_ ?_<;>(intro hb;try simp only [hb])|fail)<;>try simp only [go_sem,seval,hw5,ne0,A0,A1])
    rw [B8 (rv5 rfl A0)];refine ⟨_,_,F6 (cc:=cc) (K:=H.upd t (paB L E { s4 with par:=s4.par-1 })) (A9 hfr htc) (fun j hj=>?_),x,_,rfl,rfl,hres⟩;simp [Hp.upd,show ¬j=cc by omega,show ¬j=c3 by omega];try (split<;>rfl)
theorem c_punary (L:List Tok) (E:Int) (hL:L.length<=1000000000) (hK:∀ t∈L,F9 t) (f:Nat)
  (ib:∀ n s m r,1<=n->n<=6->Eqv s m->E5 L E f n m=some r->PI L s->PeC L E 123 [I64 n] s r)
  (iu:∀ s m r,Eqv s m->J6 L E f m=some r->PI L s->PeC L E 166 [] s r)
  (s m:Rd) (r:Ex × Rd) (hq:Eqv s m) (h:J6 L E (f+1) m=some r) (hP:PI L s):PeC L E 166 [] s r:=by
 intro H cc t ht htc;have hri:=hP.i;have hp0':=hP.p0;have hp1:=hP.p1;refine AC.bodyT A7 rfl (Nat.le_of_ble_eq_true rfl) fun hfr=>?_;repeat' ((with_reducible first|refine wr ?_|refine k_cu ?_ ?_|refine wb2 ?_ ?_<;>(intro hb;try simp only [hb])|fail)<;>try simp only [go_sem,seval])
 refine AC.call (c_here L E s _ _ t (by rw [A2 (by omega)];exact ht) (by omega)) ?_;rintro v H' c1 ⟨rfl,rfl⟩ hc;have ne0:=T4 t cc c1 (c1+1) (by omega);have hio:=c_pisO L E s ((H.upd cc A1c).upd c1 (tkB (A3 L E s))) (c1+1+1) t (c1+1) (by rw [A2 (by omega),A2 (by omega)];exact hfr _ (by omega)) (by rw [A2 (by omega),A2 (by omega)];exact ht) (by omega) 5 [[45],[33]] (by simp);simp only [go_sem,seval,ne0,A0,A1];repeat' ((with_reducible first|refine wr ?_|refine k_cu ?_ ?_|refine wb2 ?_ ?_<;>(intro hb;try simp only [hb])|fail)<;>try simp only [go_sem,seval,ne0,A0,A1])
 refine AC.call hio ?_;rintro v H' c2 ⟨rfl,rfl⟩ hc2;have hGt:((H.upd cc A1c).upd c1 (tkB (A3 L E s))) t=some (paB L E s):=by rw [A2 (by omega),A2 (by omega)];exact ht
 cases hp:isP L E s 5 [[45],[33]] with
 | false =>
  simp only [go_sem,seval,hp];repeat' ((with_reducible first|refine wr ?_|refine k_cu ?_ ?_|refine wb2 ?_ ?_<;>(intro hb;try simp only [hb])|fail)<;>try simp only [go_sem,seval,hp])
  refine AC.call (c_pprim L E hL hK f ib s m r hq h hP hp _ _ t hGt (by omega)) ?_;rintro v H' c3 ⟨x,s3,rfl,rfl,hx⟩ hc3;simp only [go_sem,seval,ne0,A0,A1,Ex.v_w];repeat' ((with_reducible first|refine wr ?_|refine k_cu ?_ ?_|refine wb2 ?_ ?_<;>(intro hb;try simp only [hb])|fail)<;>try simp only [go_sem,seval,ne0,A0,A1])
  rw [B8 (rv5 rfl A0)];refine ⟨_,_,F6 (cc:=cc) (K:=H.upd t (paB L E s3)) (A9 hfr htc) (fun j hj=>?_),x,s3,rfl,rfl,hx⟩;simp [Hp.upd,show ¬j=cc by omega,show ¬j=c1 by omega]
 | true =>
  obtain ⟨ho,hlt, -⟩:=P1 (by decide) hp;obtain rfl:s=m:=hq.s (by rw [<- hq.ok,ho]);obtain ⟨b,hb33,hk⟩:∃ b:Bool,((A3 L E s).text == [33])=b/\B4 L E s P5=if b=true then 1 else 0:=by
   rcases isP_two hp with h1|h1
   ·exact ⟨false,by rw [isP_tx h1];rfl,amg_tx hK h1 P5 (by decide +kernel)⟩
   ·exact ⟨true,by rw [isP_tx h1];rfl,amg_tx hK h1 P5 (by decide +kernel)⟩
  unfold J6 at h;dsimp only at h;rw [hk,if_neg (by cases b<;>decide)] at h;simp only [go_sem,seval,hp];repeat' ((with_reducible first|refine wr ?_|refine k_cu ?_ ?_|refine wb2 ?_ ?_<;>(intro hb;try simp only [hb])|fail)<;>try simp only [go_sem,seval,hp])
  refine AC.call (c_deeper L E s _ _ t hGt (by omega) (by omega) hp0' hp1) ?_;rintro v H' c3 ⟨rfl,rfl⟩ hc3;by_cases h16:s.par=16
  ·have hd:(s.par == 16)=true:=by simpa using h16
   have hl:B7 L E s (s.par+1) 16 50=pfl L E s 50:=by rw [S1,if_pos (by omega)]
   rw [hl,if_pos (by unfold pfl;exact N0 (by decide))] at h;cases h;rw [if_pos h16];simp only [go_sem,seval,hd,ne0,A0,A1];repeat' ((with_reducible first|refine wr ?_|refine k_cu ?_ ?_|refine wb2 ?_ ?_<;>(intro hb;try simp only [hb])|fail)<;>try simp only [go_sem,seval,hd,ne0,A0,A1])
   rw [B8 (rv5 rfl A0)];refine ⟨_,_,Y2 (cc:=cc) (K:=H.upd t (paB L E (pfl L E s 50))) (A9 hfr htc) (fun j hj=>by simp [Hp.upd,show ¬j=cc by omega,show ¬j=c1 by omega]),Ex0,_,rfl,rfl,.refl _,fun _=>rfl,hP.fl,A4s.2.2⟩
  have hd:(s.par == 16)=false:=by simpa using h16
  rw [U9 (by omega),if_neg (by rw [ho];decide),if_neg (by cases b<;>decide)] at h;rw [if_neg h16];have hP2:PI L ({ s with i:=s.i+1,par:=s.par+1 }:Rd):=⟨hlt,hP.o0,hP.o1,by show 0<=s.par+1;omega,by show s.par+1<=16;omega⟩;cases hu:J6 L E f { s with i:=s.i+1,par:=s.par+1 } with
  | none=>rw [hu] at h;cases h
  | some q =>
   obtain ⟨e,m3⟩:=q;rw [hu] at h;dsimp only at h;cases h;have ne0:=O1 t cc c1 (c3+2) (c3+6) (by omega);simp only [go_sem,seval,hd,ne0,A0,A1];repeat' ((with_reducible first|refine wr ?_|refine k_cu ?_ ?_|refine wb2 ?_ ?_<;>(intro hb;try simp only [hb])|fail)<;>try simp only [go_sem,seval,hd,ne0,A0,A1])
   refine AC.call (iu _ _ _ (.refl _) hu hP2 _ _ t (by rw [hideP (by omega)];exact A0) (by omega)) ?_;rintro v H' c4 ⟨x,s3,rfl,rfl,hx⟩ hc4;have hi3:=hx.bd.i;have hpr3:=hx.pr;have hb3:=hx.bd;have hxe:=hx.eq;have hxv:=hx.vl;dsimp only at hpr3 hxe hxv;have hw5:IntKind.i64.wrap (s3.par-1)=s3.par-1:=w64 (by omega) (by omega);have hres:PaE L s (.mk (10+if b=true then 1 else 0) 0 [] [e] (A3 L E s).pos, { m3 with par:=m3.par-1 }) (.mk (if b=true then 11 else 10) 0 [] [x] (A3 L E s).pos) ({ s3 with par:=s3.par-1 }:Rd):=by
    refine ⟨hxe.par (fun k=>by rw [hxe.s k]),fun k=>?_,⟨hb3.i,hb3.o0,hb3.o1,by show 0<=s3.par-1;omega,by show s3.par-1<=16;omega⟩,by show s3.par-1=s.par;omega⟩;have k2:okR m3=true:=k;rw [hxv k2];cases b<;>rfl
   have hmg:∀ (X:Hp) (B:Blk),K1 [c3+6] X ((S2 X [c3+6]).upd t B)=X.upd t B:=fun X B=>mgP (by omega);cases b with
   | true =>
    simp only [go_sem,seval,ne0,A0,A1,hmg,Ex.v_w];repeat' ((with_reducible first|refine wr ?_|refine k_cu ?_ ?_|refine wb2 ?_ ?_<;>(intro hb;try simp only [hb])|fail)<;>try simp only [go_sem,seval,ne0,A0,A1,hb33])
    and_intros
    all_goals try ((repeat rw [A2 (by omega)]);exact hfr _ (by omega))
    repeat' ((with_reducible first|refine wr ?_|refine k_cu ?_ ?_|refine wb2 ?_ ?_<;>(intro hb;try simp only [hb])|fail)<;>try simp only [go_sem,seval,hw5,ne0,A0,A1,hb33])
    rw [B8 (rv5 rfl A0)];refine ⟨_,_,gl_fr (cc:=cc) (b:=c3+2) (K:=H.upd t (paB L E { s3 with par:=s3.par-1 })) [x] (A9 hfr htc) (by omega) ?_ (fun j hj=>?_),.mk 11 0 [] [x] (A3 L E s).pos,_,rfl,rfl,hres⟩
    ·rw [R1];dsimp only
     repeat (first|exact A0|rw [A2 (by omega)])
    simp [Hp.upd,show ¬j=cc by omega,show ¬j=c1 by omega,show ¬j=c3+2 by omega,show ¬j=c3+6 by omega];try (split<;>rfl)
   | false =>
    simp only [go_sem,seval,ne0,A0,A1,hmg,Ex.v_w];repeat' ((with_reducible first|refine wr ?_|refine k_cu ?_ ?_|refine wb2 ?_ ?_<;>(intro hb;try simp only [hb])|fail)<;>try simp only [go_sem,seval,ne0,A0,A1,hb33])
    and_intros
    all_goals try ((repeat rw [A2 (by omega)]);exact hfr _ (by omega))
    repeat' ((with_reducible first|refine wr ?_|refine k_cu ?_ ?_|refine wb2 ?_ ?_<;>(intro hb;try simp only [hb])|fail)<;>try simp only [go_sem,seval,hw5,ne0,A0,A1,hb33])
    rw [B8 (rv5 rfl A0)];refine ⟨_,_,gl_fr (cc:=cc) (b:=c3+2) (K:=H.upd t (paB L E { s3 with par:=s3.par-1 })) [x] (A9 hfr htc) (by omega) ?_ (fun j hj=>?_),.mk 10 0 [] [x] (A3 L E s).pos,_,rfl,rfl,hres⟩
    ·rw [R1];dsimp only
     repeat (first|exact A0|rw [A2 (by omega)])
    simp [Hp.upd,show ¬j=cc by omega,show ¬j=c1 by omega,show ¬j=c3+2 by omega,show ¬j=c3+6 by omega];try (split<;>rfl)
theorem c_plevel (L:List Tok) (E:Int) (hL:L.length<=1000000000) (hK:∀ t∈L,F9 t) (f:Nat)
  (ib:∀ g,g<=f->∀ n s m r,1<=n->n<=6->Eqv s m->E5 L E g n m=some r->PI L s->PeC L E 123 [I64 n] s r)
  (iu:∀ s m r,Eqv s m->J6 L E f m=some r->PI L s->PeC L E 166 [] s r)
  (n:Int) (s m:Rd) (r:Ex × Rd) (hn1:1<=n) (hn6:n<=6) (hq:Eqv s m) (h:E5 L E (f+1) n m=some r) (hP:PI L s):PeC L E 123 [I64 n] s r:=by
 intro H cc t ht htc;refine AC.bodyT A7 rfl (Nat.le_of_ble_eq_true rfl) fun hfr=>?_;unfold E5 at h;have ne0:=X5 t cc (by omega);by_cases h5:5<n
 ·rw [if_pos h5] at h;have hd:(n == 6)=true:=by simp;omega
  repeat' ((with_reducible first|refine wr ?_|refine k_cu ?_ ?_|refine wb2 ?_ ?_<;>(intro hb;try simp only [hb])|fail)<;>try simp only [go_sem,seval,hd])
  refine AC.call (iu _ _ _ hq h hP _ _ t (by rw [A2 (by omega)];exact ht) (by omega)) ?_;rintro v H' c1 ⟨x,s1,rfl,rfl,hx⟩ hc1;simp only [go_sem,seval,ne0,A0,A1,Ex.v_w];repeat' ((with_reducible first|refine wr ?_|refine k_cu ?_ ?_|refine wb2 ?_ ?_<;>(intro hb;try simp only [hb])|fail)<;>try simp only [go_sem,seval,ne0,A0,A1])
  rw [B8 (rv5 rfl A0)];refine ⟨_,_,F6 (cc:=cc) (K:=H.upd t (paB L E s1)) (A9 hfr htc) (fun j hj=>?_),x,s1,rfl,rfl,hx⟩;simp [Hp.upd,show ¬j=cc by omega]
 rw [if_neg h5] at h;have hd:(n == 6)=false:=by simp;omega
 have hw:IntKind.i64.wrap (n+1)=n+1:=w64 (by omega) (by omega);cases hb:E5 L E f (n+1) m with
 | none=>rw [hb] at h;cases h
 | some q =>
  obtain ⟨e,m1⟩:=q;rw [hb] at h;dsimp only at h;repeat' ((with_reducible first|refine wr ?_|refine k_cu ?_ ?_|refine wb2 ?_ ?_<;>(intro hb;try simp only [hb])|fail)<;>try simp only [go_sem,seval,hd,hw])
  refine AC.call (ib f (Nat.le_refl _) (n+1) _ _ _ (by omega) (by omega) hq hb hP _ _ t (by rw [A2 (by omega)];exact ht) (by omega)) ?_;rintro v H' c1 ⟨x,s1,rfl,rfl,hx⟩ hc1;have hx1:=hx.eq;have hx2:=hx.vl;have hx3:=hx.bd;have hx4:=hx.pr;dsimp only at hx1 hx2;have ne0:=K0 t cc c1 (by omega);simp only [go_sem,seval,ne0,A0,A1,Ex.v_w];repeat' ((with_reducible first|refine wr ?_|refine k_cu ?_ ?_|refine wb2 ?_ ?_<;>(intro hb;try simp only [hb])|fail)<;>try simp only [go_sem,seval,ne0,A0,A1])
  refine X9 (fun _:Nat × Ex × Rd × Ex × Rd=>[(0,.ptr t 0),(1,I64 n),(4,.ptr cc 0),(5,.ptr c1 0)]) (fun q=>((H.upd cc A1c).upd t (paB L E q.2.2.2.2)).upd c1 (exB q.2.2.2.1))
   (fun q c=>c1+1<=c/\q.1<=f/\K2 L E q.1 n q.2.1 q.2.2.1=some r/\Eqv q.2.2.2.2 q.2.2.1/\(okR q.2.2.1=true->q.2.2.2.1=q.2.1)/\PI L q.2.2.2.2/\q.2.2.2.2.par=s.par) (fun q=>q.1) (f,e,m1,x,s1) (fun b=>by simp [D0,tm,Tm.upd]) (by simp [D0,tm,Tm.upd]) (Sub.refl _) ⟨Nat.le_refl _,Nat.le_refl _,h,hx1,hx2,hx3,hx4⟩ ?_
  clear h hb hx hx1 hx2 hx3 hx4 s1 e m1 x;rintro ⟨g,e,m1,x,s1⟩ c ⟨hc,hg,hv,k1,k2,k3,k4⟩;dsimp only at hc hg hv k1 k2 k3 k4 ⊢;have hri:=k3.i;cases g with
  | zero=>simp [K2] at hv
  | succ g =>
  have hTt:∀ b:Blk,(((H.upd cc A1c).upd t (paB L E s1)).upd c1 b) t=some (paB L E s1):=fun b=>by rw [A2 (by omega),A0]
  repeat' ((with_reducible first|refine wr ?_|refine k_cu ?_ ?_|refine wb2 ?_ ?_<;>(intro hb;try simp only [hb])|fail)<;>try simp only [go_sem,seval])
  refine AC.call (c_pok L E s1 _ _ t (hTt _) (by omega)) ?_;rintro v H' c2 ⟨rfl,rfl⟩ hc2;cases ho:okR s1 with
  | false =>
   have hm:okR m1=false:=by rw [<- k1.ok,ho]
   obtain rfl:=(EN.all (g+1)).2.1 _ _ _ _ hv hm;simp only [go_sem,seval,ho];repeat' ((with_reducible first|refine wr ?_|refine k_cu ?_ ?_|refine wb2 ?_ ?_<;>(intro hb;try simp only [hb])|fail)<;>try simp only [go_sem,seval,ho,ne0,A0,A1])
   rw [B8 (rv5 rfl A0)];refine ⟨_,_,F6 (cc:=cc) (K:=H.upd t (paB L E s1)) (A9 hfr htc) (fun j hj=>?_),x,s1,rfl,rfl,k1,fun k=>(by simp [hm] at k),k3,k4⟩;simp [Hp.upd,show ¬j=cc by omega,show ¬j=c1 by omega]
  | true =>
  obtain rfl:s1=m1:=k1.s (by rw [<- k1.ok,ho]);obtain rfl:=k2 ho;unfold K2 at hv;dsimp only at hv;obtain ⟨hl1,hl2⟩:=lop_lk (E:=E) hK ho hn1 (by omega:n<=5);have hnn:0<=B4 L E s1 C4->s1.i<L.length:=fun h=>(G3 h).2.1;have hlk:=A8h C4 A6b rfl (A3 L E s1).text;simp only [go_sem,seval,ho];repeat' ((with_reducible first|refine wr ?_|refine k_cu ?_ ?_|refine wb2 ?_ ?_<;>(intro hb;try simp only [hb])|fail)<;>try simp only [go_sem,seval,ho,ne0,A0,A1])
  refine AC.call (c_here L E s1 _ _ t (hTt _) (by omega)) ?_;rintro v H' c3 ⟨rfl,rfl⟩ hc3;have ne0:=O1 t cc c1 c3 (c3+12) (by omega);by_cases hstop:B4 L E s1 C4<0\/D6 (12+B4 L E s1 C4)≠n
  ·rw [if_pos hstop] at hv;cases hv;have hs2:=hl1.1 hstop;by_cases hk5:(A3 L E s1).kind=5
   ·have e5:((A3 L E s1).kind != 5)=false:=by simpa using hk5
    have el:(D6 (lkI C4 A6b (A3 L E s1).text) != n)=true:=by
     rcases hs2 with h|h
     ·exact absurd hk5 h
     ·simpa using h
    simp only [go_sem,seval,ne0,A0,A1];repeat' ((with_reducible first|refine wr ?_|refine cpc c_ops ?_|refine cpc (c_levP _) ?_|refine k_cu ?_ ?_|refine wb2 ?_ ?_<;>(intro hb;try simp only [hb])|fail)<;>try simp only [go_sem,seval,e5,el,hlk,ne0,A0,A1])
    and_intros
    all_goals try ((repeat rw [A2 (by omega)]);exact hfr _ (by omega))
    repeat' ((with_reducible first|refine wr ?_|refine cpc c_ops ?_|refine cpc (c_levP _) ?_|refine k_cu ?_ ?_|refine wb2 ?_ ?_<;>(intro hb;try simp only [hb])|fail)<;>try simp only [go_sem,seval,e5,el,hlk,ne0,A0,A1])
    rw [B8 (rv5 rfl A0)];refine ⟨_,_,F6 (cc:=cc) (K:=H.upd t (paB L E s1)) (A9 hfr htc) (fun j hj=>?_),_,s1,rfl,rfl,.refl _,fun _=>rfl,k3,k4⟩;simp [Hp.upd,show ¬j=cc by omega,show ¬j=c1 by omega,show ¬j=c3 by omega]
   ·have e5:((A3 L E s1).kind != 5)=true:=by simpa using hk5
    simp only [go_sem,seval,ne0,A0,A1];repeat' ((with_reducible first|refine wr ?_|refine cpc c_ops ?_|refine cpc (c_levP _) ?_|refine k_cu ?_ ?_|refine wb2 ?_ ?_<;>(intro hb;try simp only [hb])|fail)<;>try simp only [go_sem,seval,e5,hlk,ne0,A0,A1])
    and_intros
    all_goals try ((repeat rw [A2 (by omega)]);exact hfr _ (by omega))
    repeat' ((with_reducible first|refine wr ?_|refine cpc c_ops ?_|refine cpc (c_levP _) ?_|refine k_cu ?_ ?_|refine wb2 ?_ ?_<;>(intro hb;try simp only [hb])|fail)<;>try simp only [go_sem,seval,e5,hlk,ne0,A0,A1])
    rw [B8 (rv5 rfl A0)];refine ⟨_,_,F6 (cc:=cc) (K:=H.upd t (paB L E s1)) (A9 hfr htc) (fun j hj=>?_),_,s1,rfl,rfl,.refl _,fun _=>rfl,k3,k4⟩;simp [Hp.upd,show ¬j=cc by omega,show ¬j=c1 by omega,show ¬j=c3 by omega]
  rw [if_neg hstop] at hv;have hk0:0<=B4 L E s1 C4:=by omega
  have hlt:=hnn hk0;obtain ⟨hl3,hk5,hl4⟩:=hl2 hk0;have e5:((A3 L E s1).kind != 5)=false:=by simpa using hk5
  have el:(D6 (lkI C4 A6b (A3 L E s1).text) != n)=false:=by
   rw [hl3];simp;omega
  have hP2:=k3.nxt hlt;have hwi:IntKind.i64.wrap ((s1.i:Int)+1)=((s1.i+1:Nat):Int):=by rw [w64 (by omega) (by omega)];omega
  cases hb:E5 L E g (n+1) (A8 s1) with
  | none=>rw [hb] at hv;cases hv
  | some q =>
   obtain ⟨e2,m2⟩:=q;rw [hb] at hv;dsimp only at hv;rw [<- hl3] at hv;simp only [go_sem,seval,ne0,A0,A1];repeat' ((with_reducible first|refine wr ?_|refine cpc c_ops ?_|refine cpc (c_levP _) ?_|refine k_cu ?_ ?_|refine wb2 ?_ ?_<;>(intro hb;try simp only [hb])|fail)<;>try simp only [go_sem,seval,e5,el,hlk,hwi,hw,ne0,A0,A1])
   and_intros
   all_goals try ((repeat rw [A2 (by omega)]);exact hfr _ (by omega))
   repeat' ((with_reducible first|refine wr ?_|refine cpc c_ops ?_|refine cpc (c_levP _) ?_|refine k_cu ?_ ?_|refine wb2 ?_ ?_<;>(intro hb;try simp only [hb])|fail)<;>try simp only [go_sem,seval,e5,el,hlk,hwi,hw,ne0,A0,A1])
   refine AC.call (ib g (by omega) (n+1) (A8 s1) (A8 s1) _ (by omega) (by omega) (.refl _) hb hP2 _ _ t (by repeat (first|exact A0|rw [A2 (by omega)])) (by omega)) ?_;rintro v H' c4 ⟨y,s2,rfl,rfl,hy⟩ hc4;have y1:=hy.eq;have y2:=hy.vl;have y3:=hy.bd;have y4:=hy.pr;dsimp only at y1 y2;generalize lkI C4 A6b (A3 L E s1).text=kd at *;simp only [go_sem,seval,ne0,A0,A1,Ex.v_w];repeat' ((with_reducible first|refine wr ?_|refine k_cu ?_ ?_|refine wb2 ?_ ?_<;>(intro hb;try simp only [hb])|fail)<;>try simp only [go_sem,seval,ne0,A0,A1])
   and_intros
   all_goals try ((repeat rw [A2 (by omega)]);exact hfr _ (by omega))
   by_cases h3:n=3
   ·have hd3:(n == 3)=true:=by simpa using h3
    rw [if_pos h3] at hv;cases hv;repeat' ((with_reducible first|refine wr ?_|refine k_cu ?_ ?_|refine wb2 ?_ ?_<;>(intro hb;try simp only [hb])|fail)<;>try simp only [go_sem,seval,hd3,ne0,A0,A1])
    rw [B8 (rv5 rfl A0)];refine ⟨_,_,gl_fr (cc:=cc) (b:=c3+12) (K:=H.upd t (paB L E s2)) [x,y] (A9 hfr htc) (by omega) ?_ (fun j hj=>?_),.mk kd 0 [] [x,y] (A3 L E s1).pos,s2,rfl,rfl,y1,fun k=>(by rw [y2 k]),y3,y4.trans k4⟩
    ·rw [A7b];dsimp only
     repeat (first|exact A0|rw [A2 (by omega)])
    simp [Hp.upd,show ¬j=cc by omega,show ¬j=c1 by omega,show ¬j=c3 by omega,show ¬j=c3+12 by omega];try (split<;>rfl)
   ·have hd3:(n == 3)=false:=by simpa using h3
    rw [if_neg h3] at hv;repeat' ((with_reducible first|refine wr ?_|refine k_cu ?_ ?_|refine wb2 ?_ ?_<;>(intro hb;try simp only [hb])|fail)<;>try simp only [go_sem,seval,hd3,ne0,A0,A1])
    refine ⟨(g,.mk kd 0 [] [x,e2] (A3 L E s1).pos,m2,.mk kd 0 [] [x,y] (A3 L E s1).pos,s2),?_,inv ⟨by omega,by simp only;omega,hv,y1,fun k=>(by simp only [y2 k]),y3,y4.trans k4⟩,by simp only;omega⟩;refine GL.frzT (id:=c3+12) (b:=⟨5,true,A4 ([x,y].map Ex.v)⟩) ?_ rfl (fun j=>?_) (FzL.refl _)
    ·rw [A7b]
     repeat (first|exact A0|rw [A2 (by omega)])
    by_cases j1:j=c1
    ·subst j1;refine .inr ⟨by omega,.inr ⟨_,_,A0,A0,rfl,rfl,.cons _ _ _ _ (.same _) (.cons _ _ _ _ (.same _) (.cons _ _ _ _ (.same _) (.cons _ _ _ _ (M0 (u:=5) (xs:=[x,y].map Ex.v) (by simp) (A4f _) ⟨[],by simp⟩) (.cons _ _ _ _ (.same _) .nil)))),by simp [DV.one]⟩⟩
    ·by_cases j2:j=c3+12
     ·subst j2;left
      repeat rw [A2 (by omega)]
      exact hfr _ (by omega)
     ·by_cases j3:j=c3
      ·subst j3;left
       repeat rw [A2 (by omega)]
       exact hfr _ (by omega)
      refine .inr ⟨j2,.inl ?_⟩;simp [Hp.upd,j1,j2,j3];try (split<;>rfl)
theorem c_plu (L:List Tok) (E:Int) (hL:L.length<=1000000000) (hK:∀ t∈L,F9 t):∀ f:Nat,(∀ n s m r,1<=n->n<=6->Eqv s m->E5 L E f n m=some r->PI L s->PeC L E 123 [I64 n] s r)/\(∀ s m r,Eqv s m->J6 L E f m=some r->PI L s->PeC L E 166 [] s r):=by
 intro f
 induction f using Nat.strongRecOn with
 | _ f ih =>
  cases f with
  | zero=>exact ⟨fun n s m r _ _ _ h=>by simp [E5] at h,fun s m r _ h=>by simp [J6] at h⟩
  | succ f =>
   exact ⟨fun n s m r h1 h2 hq h hP=>c_plevel L E hL hK f (fun g hg=>(ih g (by omega)).1) (ih f (by omega)).2 n s m r h1 h2 hq h hP,
    fun s m r hq h hP=>c_punary L E hL hK f (ih f (by omega)).1 (ih f (by omega)).2 s m r hq h hP⟩
theorem c_pexpr (L:List Tok) (E:Int) (hL:L.length<=1000000000) (hK:∀ t∈L,F9 t) (f:Nat) (s m:Rd) (r:Ex × Rd) (hq:Eqv s m) (h:F2 L E f m=some r) (hi:s.i<=L.length) :
  ∀ (H:Hp) (cc t:Nat),H t=some (paB L E s)->t<cc->AC Tryz.prog 69 [.ptr t 0] H cc (fun v H' c' => ∃ x s',v=x.v/\H'=H.upd t (paB L E s')/\Eqv s' r.2/\(okR r.2=true->x=r.1)/\PI L s'):=by
 intro H cc t ht htc;refine AC.bodyT A7 rfl (Nat.le_of_ble_eq_true rfl) fun hfr=>?_;have ne0:=X5 t cc (by omega);repeat' ((with_reducible first|refine wr ?_|refine k_cu ?_ ?_|refine wb2 ?_ ?_<;>(intro hb;try simp only [hb])|fail)<;>try simp only [go_sem,seval,ht,ne0,A0,A1])
 refine AC.call ((c_plu L E hL hK f).1 1 { s with ops:=0,par:=0 } { m with ops:=0,par:=0 } r (by decide) (by decide) ⟨hq.e,hq.p,fun k=>by rw [hq.s k]⟩ h ⟨hi,Int.le_refl 0,(by decide:(0:Int)<=32),Int.le_refl 0,(by decide:(0:Int)<=16)⟩ _ _ t (by exact A0) (by omega)) ?_;rintro v H' c1 ⟨x,s1,rfl,rfl,hx⟩ hc1;simp only [go_sem,seval,ne0,A0,A1,Ex.v_w];repeat' ((with_reducible first|refine wr ?_|refine k_cu ?_ ?_|refine wb2 ?_ ?_<;>(intro hb;try simp only [hb])|fail)<;>try simp only [go_sem,seval,ne0,A0,A1])
 rw [B8 (rv5 rfl A0)];refine ⟨_,_,F6 (cc:=cc) (K:=H.upd t (paB L E s1)) (A9 hfr htc) (fun j hj=>?_),x,s1,rfl,rfl,hx.eq,hx.vl,hx.bd⟩;simp [Hp.upd,show ¬j=cc by omega];try (split<;>rfl)
abbrev x199:XT Tryz.prog 199:=mkF (by unfold B5;conv=>lhs;reduce;simp only [seval,u8n]) (fun h=>by conv=>lhs;cbv)
instance t199:FT Tryz.prog 199 x199.d:=x199.ft
theorem gl_frS {K H':Hp} {cc b:Nat} (l:List Pb.St) (hK:∀ i,cc<=i->K i=none) (hb0:cc<=b) (hb:H' b=some ⟨7,true,A4 (l.map Pb.St.v)⟩) (h:∀ j,j<cc->H' j=K j) :
  GL H' [.slc b 0 l.length] K [F7 l] :=
 GL.frzS (id:=b) hb rfl (fun j=>by
  by_cases hj:j<cc
  ·exact .inr ⟨by omega,(h j hj).symm⟩
  ·exact .inl (hK j (by omega))) (.cons _ _ _ _ (M0 (u:=7) (by simp) (A7q l) ⟨[],by simp⟩) .nil)
theorem st_c1 (e:Pb.St):A4 ([e].map Pb.St.v)=[I64 e.kind,.str e.name,.str e.text,K3 e.args,F7 e.thn,F7 e.els,I64 e.pos]:=by
 rw [List.map_cons,Pb.St.v_w];rfl
theorem c_other (L:List Tok) (E:Int) (hL:L.length<=1000000000) (f:Nat)
  (is:∀ d s r,0<=d->d<=100->G5 L E f d s=some r->s.i<=L.length->RdC L E 176 [I64 d] s (r.1.v,r.2))
  (ib:∀ d s r,0<=d->d<=100->E9 L E f d s=some r->s.i<=L.length->RdC L E 141 [I64 d] s (F7 r.1,r.2))
  (d:Int) (s:Rd) (r:List Pb.St × Rd) (hd0:0<=d) (hd:d<=99) (h:K9 L E (f+1) d s=some r) (hi:s.i<=L.length):RdC L E 199 [I64 d] s (F7 r.1,r.2):=by
 intro H cc t ht htc;refine AC.bodyT A7 rfl (Nat.le_of_ble_eq_true rfl) fun hfr=>?_;unfold K9 at h;have hw:IntKind.i64.wrap (d+1)=d+1:=w64 (by omega) (by omega);repeat' ((with_reducible first|refine wr ?_|refine k_cu ?_ ?_|refine wb2 ?_ ?_<;>(intro hb;try simp only [hb])|fail)<;>try simp only [go_sem,seval])
 refine AC.call (c_is L E s _ _ t ht (by omega) _) ?_;rintro v H' c1 ⟨rfl,rfl⟩ hc1;cases hq:isR L E s [105,102] with
 | true =>
  rw [if_pos hq] at h;cases hs:G5 L E f (d+1) s with
  | none=>rw [hs] at h;cases h
  | some q =>
   obtain ⟨x,s1⟩:=q;rw [hs] at h;cases h;simp only [go_sem,seval,hq];repeat' ((with_reducible first|refine wr ?_|refine k_cu ?_ ?_|refine wb2 ?_ ?_<;>(intro hb;try simp only [hb])|fail)<;>try simp only [go_sem,seval,hq,hw])
   refine AC.call (is (d+1) s (x,s1) (by omega) (by omega) hs hi _ _ t ht (by omega)) ?_;rintro v H' c2 ⟨rfl,rfl⟩ hc2;dsimp only;simp only [go_sem,seval,Pb.St.v_w];repeat' ((with_reducible first|refine wr ?_|refine k_cu ?_ ?_|refine wb2 ?_ ?_<;>(intro hb;try simp only [hb])|fail)<;>try simp only [go_sem,seval])
   exact ⟨_,_,gl_frS (cc:=cc) [x] (A9 hfr htc) (by omega) (by rw [st_c1];exact A0) (fun j hj=>by rw [A2 (by omega)]),rfl,rfl⟩
 | false =>
  rw [if_neg (by simp [hq])] at h;simp only [go_sem,seval,hq];repeat' ((with_reducible first|refine wr ?_|refine k_cu ?_ ?_|refine wb2 ?_ ?_<;>(intro hb;try simp only [hb])|fail)<;>try simp only [go_sem,seval,hq,hw])
  refine AC.call (ib (d+1) s r (by omega) (by omega) h hi _ _ t ht (by omega)) ?_;rintro v H' c2 ⟨rfl,rfl⟩ hc2;simp only [go_sem,seval];repeat' ((with_reducible first|refine wr ?_|refine k_cu ?_ ?_|refine wb2 ?_ ?_<;>(intro hb;try simp only [hb])|fail)<;>try simp only [go_sem,seval])
  exact ⟨_,_,GL.refl _ _,rfl,rfl⟩
theorem A5g {K H':Hp} {cc:Nat} {o:Option Nat} (l:List Pb.St) (hK:∀ i,cc<=i->K i=none) (ho:∀ i,o=some i->cc<=i) (hno:o=none->l=[]) (hb:∀ i,o=some i->H' i=some ⟨7,true,A4 (l.map Pb.St.v)⟩) (h:∀ j,j<cc->H' j=K j) :
  GL H' [B3 o l.length] K [F7 l]:=by
 cases o with
 | none =>
  obtain rfl:=hno rfl;exact (F6 hK h).trans (GL.view fun ρ vs hA=>K4 (fun v h=>h.snil_lst) vs hA)
 | some b=>exact gl_frS l hK (ho b rfl) (hb b rfl) h
theorem c_block (L:List Tok) (E:Int) (hL:L.length<=1000000000) (f:Nat)
  (is:∀ g,g<=f->∀ d s r,0<=d->d<=100->G5 L E g d s=some r->s.i<=L.length->RdC L E 176 [I64 d] s (r.1.v,r.2))
  (d:Int) (s:Rd) (r:List Pb.St × Rd) (hd0:0<=d) (hd:d<=100) (h:E9 L E (f+1) d s=some r) (hi:s.i<=L.length):RdC L E 141 [I64 d] s (F7 r.1,r.2):=by
 intro H cc t ht htc;refine AC.bodyT A7 rfl (Nat.le_of_ble_eq_true rfl) fun hfr=>?_;unfold E9 at h;repeat' ((with_reducible first|refine wr ?_|refine k_cu ?_ ?_|refine wb2 ?_ ?_<;>(intro hb;try simp only [hb])|fail)<;>try simp only [go_sem,seval])
 refine AC.call (c_expect L E s _ _ t ht (by omega) (by omega) _) ?_;rintro v H' c1 ⟨rfl,rfl⟩ hc1;simp only [go_sem,seval];repeat' ((with_reducible first|refine wr ?_|refine k_cu ?_ ?_|refine wb2 ?_ ?_<;>(intro hb;try simp only [hb])|fail)<;>try simp only [go_sem,seval])
 refine D5 (fun q:Nat × Option Nat × List Pb.St × Rd=>[(0,.ptr t 0),(1,I64 d),(5,B3 q.2.1 q.2.2.1.length)]) (fun q=>C3 (H.upd t (rdR L E q.2.2.2)) q.2.1 ⟨7,true,A4 (q.2.2.1.map Pb.St.v)⟩)
  (fun q c=>cc<=c/\q.1<=f/\q.2.2.2.i<=L.length/\(q.2.1=none->q.2.2.1=[])/\(∀ i,q.2.1=some i->cc<=i/\i<c)/\q.2.2.1.length<=65/\(okR q.2.2.2=true->q.2.2.1.length<=64)/\J0 L E q.1 d q.2.2.1 q.2.2.2=some r) (fun q=>q.1) (f,none,[],C1 L E s [123])
  (by simp [D0,tm,Tm.upd,B3]) (Sub.refl _) ⟨hc1,Nat.le_refl _,H9 hi,fun _=>rfl,(fun i hi=>by cases hi),by simp,fun _=>by simp,h⟩ ?_
 clear h hi;rintro ⟨g,o,l,u⟩ c ⟨hc,hg,hi,hno,ho,hl1,hl2,hv⟩;dsimp only at hc hg hi hno ho hl1 hl2 hv ⊢;have hHt:C3 (H.upd t (rdR L E u)) o ⟨7,true,A4 (l.map Pb.St.v)⟩ t=some (rdR L E u):=by rw [C6 (fun i hi=>by have:=ho i hi;omega),A0]
 have hfin:∀ (z:Rd) (j:Nat),j<cc->((C3 (H.upd t (rdR L E u)) o ⟨7,true,A4 (l.map Pb.St.v)⟩).upd t (rdR L E z)) j=(H.upd t (rdR L E z)) j:=fun z j hj=>by
  by_cases ej:j=t
  ·subst ej;rw [A0,A0]
  ·rw [A2 ej,A2 ej,C6 (fun i hi=>by have:=ho i hi;omega),A2 ej]
 have hbo:∀ (z:Rd) (i:Nat),o=some i->((C3 (H.upd t (rdR L E u)) o ⟨7,true,A4 (l.map Pb.St.v)⟩).upd t (rdR L E z)) i=some ⟨7,true,A4 (l.map Pb.St.v)⟩:=fun z i hi=>by
  have:=ho i hi;rw [A2 (by omega)];subst hi;exact A0
 cases g with
 | zero=>simp [J0] at hv
 | succ g =>
 unfold J0 at hv;repeat' ((with_reducible first|refine wr ?_|refine k_cu ?_ ?_|refine wb2 ?_ ?_<;>(intro hb;try simp only [hb])|fail)<;>try simp only [go_sem,seval])
 refine AC.call (c_rdok L E u _ _ t hHt (by omega)) ?_;rintro v H' c2 ⟨rfl,rfl⟩ hc2;cases hok:okR u with
 | false =>
  rw [if_neg (by simp [hok])] at hv;cases hv;simp only [go_sem,seval,hok];repeat' ((with_reducible first|refine wr ?_|refine k_cu ?_ ?_|refine wb2 ?_ ?_<;>(intro hb;try simp only [hb])|fail)<;>try simp only [go_sem,seval,hok])
  refine AC.call (c_expect L E u _ _ t hHt (by omega) (by omega) _) ?_;rintro v H' c3 ⟨rfl,rfl⟩ hc3;simp only [go_sem,seval];repeat' ((with_reducible first|refine wr ?_|refine k_cu ?_ ?_|refine wb2 ?_ ?_<;>(intro hb;try simp only [hb])|fail)<;>try simp only [go_sem,seval])
  exact ⟨_,_,A5g (cc:=cc) l (A9 hfr htc) (fun i hi=>(ho i hi).1) hno (hbo _) (hfin _),rfl,rfl⟩
 | true =>
  simp only [go_sem,seval,hok];repeat' ((with_reducible first|refine wr ?_|refine k_cu ?_ ?_|refine wb2 ?_ ?_<;>(intro hb;try simp only [hb])|fail)<;>try simp only [go_sem,seval,hok])
  refine AC.call (c_is L E u _ _ t hHt (by omega) _) ?_;rintro v H' c3 ⟨rfl,rfl⟩ hc3;cases hq:isR L E u [125] with
  | true =>
   rw [if_neg (by simp [hq])] at hv;cases hv;simp only [go_sem,seval,hq];repeat' ((with_reducible first|refine wr ?_|refine k_cu ?_ ?_|refine wb2 ?_ ?_<;>(intro hb;try simp only [hb])|fail)<;>try simp only [go_sem,seval,hq])
   refine AC.call (c_expect L E u _ _ t hHt (by omega) (by omega) _) ?_;rintro v H' c4 ⟨rfl,rfl⟩ hc4;simp only [go_sem,seval];repeat' ((with_reducible first|refine wr ?_|refine k_cu ?_ ?_|refine wb2 ?_ ?_<;>(intro hb;try simp only [hb])|fail)<;>try simp only [go_sem,seval])
   exact ⟨_,_,A5g (cc:=cc) l (A9 hfr htc) (fun i hi=>(ho i hi).1) hno (hbo _) (hfin _),rfl,rfl⟩
  | false =>
   rw [if_pos ⟨hok,hq⟩] at hv;simp only [go_sem,seval,hq];repeat' ((with_reducible first|refine wr ?_|refine cpc c_stmts31 ?_|refine k_cu ?_ ?_|refine wb2 ?_ ?_<;>(intro hb;try simp only [hb])|fail)<;>try simp only [go_sem,seval,hq])
   refine AC.call (c_among L E u _ _ t hHt (by omega) B6 (by decide)) ?_;rintro v H' c4 ⟨rfl,rfl⟩ hc4;generalize B4 L E u B6=k at hv;have hlen:A2k (B3 o l.length)=some (I64 l.length):=by
    cases o with
    | none=>rw [hno rfl];rfl
    | some b=>rfl
   have hwl:IntKind.i64.wrap ((l.length:Int)+1)=(l.length:Int)+1:=w64 (by omega) (by omega);by_cases hsy:k<0/\F5 L E u 1=false
   ·rw [if_pos hsy] at hv;cases hv;have hdk:decide (k<0)=true:=by simpa using hsy.1
    have h1:=hsy.2;simp only [go_sem,seval,hdk];repeat' ((with_reducible first|refine wr ?_|refine k_cu ?_ ?_|refine wb2 ?_ ?_<;>(intro hb;try simp only [hb])|fail)<;>try simp only [go_sem,seval,hdk])
    refine AC.call (c_isKind L E u _ _ t hHt (by omega) 1) ?_;rintro v H' c5 ⟨rfl,rfl⟩ hc5;simp only [go_sem,seval,h1];repeat' ((with_reducible first|refine wr ?_|refine k_cu ?_ ?_|refine wb2 ?_ ?_<;>(intro hb;try simp only [hb])|fail)<;>try simp only [go_sem,seval,h1])
    refine AC.call (c_syntax L E u _ _ t hHt (by omega)) ?_;rintro v H' c6 ⟨rfl,rfl⟩ hc6;simp only [go_sem,seval];repeat' ((with_reducible first|refine wr ?_|refine k_cu ?_ ?_|refine wb2 ?_ ?_<;>(intro hb;try simp only [hb])|fail)<;>try simp only [go_sem,seval])
    exact ⟨_,_,(F6 (cc:=cc) (A9 hfr htc) (hfin _)).trans (GL.view fun ρ vs hA=>K4 (fun v h=>h.snil_lst) vs hA),rfl,rfl⟩
   rw [if_neg hsy] at hv;cases hs:G5 L E g d (B7 L E u ((l.length:Int)+1) 64 9) with
   | none=>rw [hs] at hv;cases hv
   | some q =>
   obtain ⟨x,s1⟩:=q;rw [hs] at hv;dsimp only at hv;have hix:=(II.all g).2.2.1 _ _ _ hs (by rw [F0];exact hi);have hnok:=st_nok hs;have hll:=hl2 hok;have hlk:okR s1=true->l.length+1<=64:=fun h=>by
    cases hz:okR (B7 L E u ((l.length:Int)+1) 64 9) with
    | false=>rw [hnok hz] at h;cases h
    | true=>have:=(I1 (by decide) hz).2.1;omega
   rcases (show ¬ k<0\/(k<0/\F5 L E u 1=true) by
    by_cases hk:k<0
    ·exact .inr ⟨hk,by cases h1:F5 L E u 1 with|true=>rfl|false=>exact absurd ⟨hk,h1⟩ hsy⟩
    ·exact .inl hk) with hk|⟨hk,h1⟩
   case' inl =>
    have hdk:decide (k<0)=false:=by simpa using hk
    simp only [go_sem,seval,hdk];repeat' ((with_reducible first|refine E1 (p:=IW _ _ (pz Tryz.prog 141 (.i (.i (.o (.i .h))))) _ _) ?_|refine wr ?_|refine k_cu ?_ ?_|refine wb2 ?_ ?_<;>(intro hb;try simp only [hb])|fail)<;>try simp only [go_sem,seval,hdk])
    obtain ⟨c5,hc5,e5⟩:∃ c5,c4<=c5/\c5=c4:=⟨c4,Nat.le_refl _,rfl⟩;rw [<- e5];clear e5 hdk hk
   case' inr =>
    have hdk:decide (k<0)=true:=by simpa using hk
    simp only [go_sem,seval,hdk];repeat' ((with_reducible first|refine wr ?_|refine k_cu ?_ ?_|refine wb2 ?_ ?_<;>(intro hb;try simp only [hb])|fail)<;>try simp only [go_sem,seval,hdk])
    refine AC.call (c_isKind L E u _ _ t hHt (by omega) 1) ?_;rintro v H' c5 ⟨rfl,rfl⟩ hc5;simp only [go_sem,seval,h1];repeat' ((with_reducible first|refine E1 (p:=IW _ _ (pz Tryz.prog 141 (.i (.i (.o (.i .h))))) _ _) ?_|refine wr ?_|refine k_cu ?_ ?_|refine wb2 ?_ ?_<;>(intro hb;try simp only [hb])|fail)<;>try simp only [go_sem,seval,h1])
    clear hdk hk h1
   all_goals
    unfold W8;repeat' ((with_reducible first|refine wr ?_|refine k_cu ?_ ?_|refine wb2 ?_ ?_<;>(intro hb;try simp only [hb])|fail)<;>try simp only [go_sem,seval,hlen,hwl])
    refine AC.call (c_limit L E u _ _ t hHt (by omega) _ _ _) ?_;rintro v H' c6 ⟨rfl,rfl⟩ hc6;simp only [go_sem,seval];repeat' ((with_reducible first|refine wr ?_|refine k_cu ?_ ?_|refine wb2 ?_ ?_<;>(intro hb;try simp only [hb])|fail)<;>try simp only [go_sem,seval])
    refine AC.call (is g (by omega) d _ (x,s1) hd0 hd hs (by rw [F0];exact hi) _ _ t A0 (by omega)) ?_;rintro v H' c7 ⟨rfl,rfl⟩ hc7;dsimp only;have ne0:=K0 t c7 (c7+1) (by omega);simp only [go_sem,seval,ne0,A1,Pb.St.v_w];repeat' ((with_reducible first|refine wr ?_|refine k_cu ?_ ?_|refine wb2 ?_ ?_<;>(intro hb;try simp only [hb])|fail)<;>try simp only [go_sem,seval,ne0])
    refine D1 (F4 (cs:=A4 (l.map Pb.St.v)) (fun e=>by rw [hno e];exact ⟨rfl,rfl⟩) (fun i hi=>?_) (by rw [C7 (u:=7) (A7q _)];simp) (by omega) (by omega) (by omega)) ?_
    ·have:=ho i hi;rw [A2 (by omega)];exact hbo _ i hi
    simp only [go_sem,seval,ne0];repeat' ((with_reducible first|refine wr ?_|refine k_cu ?_ ?_|refine wb2 ?_ ?_<;>(intro hb;try simp only [hb])|fail)<;>try simp only [go_sem,seval,ne0])
    refine ⟨(g,some (c7+1),l++[x],s1),by simp only [List.length_append,List.length_singleton];rfl,?_,inv ⟨by omega,by simp only;omega,hix,(fun h=>by cases h),(fun i hi=>by cases hi;omega),by simp only [List.length_append,List.length_singleton];omega,(fun h=>by have:=hlk h;simp only [List.length_append,List.length_singleton];omega),hv⟩,by simp only;omega⟩;intro jj b hj;simp only [C3] at hj;by_cases e1:jj=c7+1
    ·subst e1;rw [A0] at hj ⊢;rw [<- hj,List.map_append,E3,st_c1]
    ·rw [A2 e1] at hj ⊢;by_cases e2:jj=t
     ·subst e2;rw [A0] at hj;rw [D4 (fun i hi=>by have:=ho i hi;omega),A2 (by omega),A0];exact hj
     ·rw [A2 e2] at hj;have hjc:jj<cc:=Classical.byContradiction fun h=>by rw [hfr jj (by omega)] at hj;cases hj
      rw [D4 (fun i hi=>by have:=ho i hi;omega),A2 (by omega),A2 e2,C6 (fun i hi=>by have:=ho i hi;omega),A2 e2];exact hj
end Go.Proofs.YthlpinppaclofaaGreatDoor
set_option maxHeartbeats 8000000
namespace Go.Proofs.YthlpinppaclofaaGreatDoor
open Go.Eng (IC IOper DReg IFn B5)
open Go.Sym Go.Pb
def NlR (a b:DV):Prop:=b=a\/(a=.snil/\b=.lst [])
theorem NlR.v {ρ : Ren} {v:Value} {a b:DV} (h:NlR a b) (k:VRel ρ a v):VRel ρ b v:=by
 rcases h with rfl|⟨rfl,rfl⟩
 ·exact k
 ·exact k.snil_lst
theorem v_st {ρ : Ren} {v:Value} {a b c d e f g d' e' f':DV} (hd:NlR d d') (he:NlR e e') (hf:NlR f f') (h:VRel ρ (.agg [a,b,c,d,e,f,g]) v):VRel ρ (.agg [a,b,c,d',e',f',g]) v:=by
 obtain ⟨bb,rfl,k1,k2⟩:=h.agg_inv;refine .agg _ _ k1 fun j x y hx hy=>?_
 match j with
 | 0=>cases hx;exact k2 0 _ y rfl hy
 | 1=>cases hx;exact k2 1 _ y rfl hy
 | 2=>cases hx;exact k2 2 _ y rfl hy
 | 3=>cases hx;exact hd.v (k2 3 _ y rfl hy)
 | 4=>cases hx;exact he.v (k2 4 _ y rfl hy)
 | 5=>cases hx;exact hf.v (k2 5 _ y rfl hy)
 | 6=>cases hx;exact k2 6 _ y rfl hy
 | _+7=>cases hx
theorem gl_st {K H':Hp} {cc:Nat} {a b c d e f g d' e' f':DV} (hd:NlR d d') (he:NlR e e') (hf:NlR f f') (hK:∀ i,cc<=i->K i=none) (h:∀ j,j<cc->H' j=K j):GL H' [.agg [a,b,c,d,e,f,g]] K [.agg [a,b,c,d',e',f',g]] :=
 (F6 hK h).trans (GL.view fun ρ vs hA=>K4 (fun v h=>v_st hd he hf h) vs hA)
theorem N5 {K H':Hp} {cc i:Nat} {a b c e f g e' f':DV} (l:List Ex) (he:NlR e e') (hf:NlR f f') (hK:∀ i,cc<=i->K i=none) (hi0:cc<=i) (hb:H' i=some ⟨5,true,A4 (l.map Ex.v)⟩) (h:∀ j,j<cc->H' j=K j):GL H' [.agg [a,b,c,.slc i 0 l.length,e,f,g]] K [.agg [a,b,c,K3 l,e',f',g]] :=
 (GL.frzS (id:=i) hb rfl (fun j=>by
  by_cases hj:j<cc
  ·exact .inr ⟨by omega,(h j hj).symm⟩
  ·exact .inl (hK j (by omega))) (.cons _ _ _ _ (.agg _ _ (.cons _ _ _ _ (.same _) (.cons _ _ _ _ (.same _) (.cons _ _ _ _ (.same _) (.cons _ _ _ _ (M0 (u:=5) (by simp) (A4f l) ⟨[],by simp⟩) (.cons _ _ _ _ (.same _) (.cons _ _ _ _ (.same _) (.cons _ _ _ _ (.same _) .nil)))))))) .nil)).trans (GL.view fun ρ vs hA=>K4 (fun v h=>v_st (.inl rfl) he hf h) vs hA)
theorem rv7 {s:Sym.St} {x i u:Nat} {a b c d e f g:DV} {o:Bool} (h:s.T x=.ptr i 0) (hb:s.H i=some ⟨u,o,[a,b,c,d,e,f,g]⟩):Y9 s [.cell x 7 true]=some (.agg [a,b,c,d,e,f,g]):=by
 simp only [Y9,A0z,h,ldv,hb];rfl
theorem c_statement (L:List Tok) (E:Int) (hL:L.length<=1000000000) (f:Nat)
  (ib:∀ d s r,0<=d->d<=100->E9 L E f d s=some r->s.i<=L.length->RdC L E 141 [I64 d] s (F7 r.1,r.2))
  (io:∀ d s r,0<=d->d<=99->K9 L E f d s=some r->s.i<=L.length->RdC L E 199 [I64 d] s (F7 r.1,r.2))
  (d:Int) (s0:Rd) (r:Pb.St × Rd) (hd0:0<=d) (hd:d<=100) (h:G5 L E (f+1) d s0=some r) (hi:s0.i<=L.length):RdC L E 176 [I64 d] s0 (r.1.v,r.2):=by
 intro H cc t ht htc;refine AC.bodyT A7 rfl (Nat.le_of_ble_eq_true rfl) fun hfr=>?_;unfold G5 at h;dsimp only at h;repeat' ((with_reducible first|refine wr ?_|refine k_cu ?_ ?_|refine wb2 ?_ ?_<;>(intro hb;try simp only [hb])|fail)<;>try simp only [go_sem,seval])
 refine AC.call (c_limit L E s0 _ _ t (by rw [A2 (by omega)];exact ht) (by omega) _ _ _) ?_;rintro v H' c1 ⟨rfl,rfl⟩ hc1;have his:(B7 L E s0 d 8 50).i<=L.length:=by rw [F0];exact hi
 generalize hsq:B7 L E s0 d 8 50=s at *;have ne0:=X5 t cc (by omega);simp only [go_sem,seval];repeat' ((with_reducible first|refine wr ?_|refine k_cu ?_ ?_|refine wb2 ?_ ?_<;>(intro hb;try simp only [hb])|fail)<;>try simp only [go_sem,seval])
 refine AC.call (c_rdok L E s _ _ t A0 (by omega)) ?_;rintro v H' c2 ⟨rfl,rfl⟩ hc2;cases hok:okR s with
 | false =>
  rw [if_pos hok] at h;cases h;simp only [go_sem,seval,hok];repeat' ((with_reducible first|refine wr ?_|refine k_cu ?_ ?_|refine wb2 ?_ ?_<;>(intro hb;try simp only [hb])|fail)<;>try simp only [go_sem,seval,hok,ne0,A0,A1])
  rw [B8 (rv7 rfl A0)];refine ⟨_,_,gl_st (cc:=cc) (.inr ⟨rfl,rfl⟩) (.inr ⟨rfl,rfl⟩) (.inr ⟨rfl,rfl⟩) (A9 hfr htc) (fun j hj=>?_),rfl,rfl⟩;simp [Hp.upd,show ¬j=cc by omega]
 | true =>
  rw [if_neg (by simp [hok])] at h;have hd8:d<=8:=by rw [<- hsq] at hok;exact (I1 (by decide) hok).2.1
  simp only [go_sem,seval,hok];repeat' ((with_reducible first|refine wr ?_|refine k_cu ?_ ?_|refine wb2 ?_ ?_<;>(intro hb;try simp only [hb])|fail)<;>try simp only [go_sem,seval,hok])
  refine AC.call (c_peek L E s _ _ t A0 (by omega)) ?_;rintro v H' c3 ⟨rfl,rfl⟩ hc3;have ne0:=K0 t cc c3 (by omega);simp only [go_sem,seval,ne0];repeat' ((with_reducible first|refine wr ?_|refine cpc c_stmts31 ?_|refine k_cu ?_ ?_|refine wb2 ?_ ?_<;>(intro hb;try simp only [hb])|fail)<;>try simp only [go_sem,seval,ne0,A0,A1])
  refine AC.call (c_among L E s _ _ t (by rw [A2 (by omega)];exact A0) (by omega) B6 (by decide)) ?_;rintro v H' c4 ⟨rfl,rfl⟩ hc4;have hkr : -1<=B4 L E s B6/\B4 L E s B6<18:=Y1 L E s B6 0;have hnn:0<=B4 L E s B6->s.i<L.length:=fun h=>(G3 h).2.1;generalize B4 L E s B6=k at h hkr hnn;generalize (A3 L E s).pos=p at h ⊢;have hti:=G7 (E:=E) (x:=1) (by decide) his;by_cases hk:k<0
  ·rw [if_pos hk] at h;have hdk:decide (k<0)=true:=by simpa using hk
   cases hz5:F2 L E f (C1 L E (A6 L E s 1).2 [61]) with
   | none=>rw [hz5] at h;cases h
   | some qhz5 =>
    obtain ⟨e,s1⟩:=qhz5;rw [hz5] at h;dsimp only at h;cases h;simp only [go_sem,seval,hdk,ne0,A0,A1];repeat' ((with_reducible first|refine wr ?_|refine k_cu ?_ ?_|refine wb2 ?_ ?_<;>(intro hb;try simp only [hb])|fail)<;>try simp only [go_sem,seval,hdk,ne0,A0,A1])
    refine AC.call (c_name L E s _ _ t (by repeat (first|exact A0|rw [A2 (by omega)]|rw [C0 (by omega)])) (by omega) (by have:=his;omega)) ?_;rintro v H' c6 ⟨rfl,rfl⟩ hc6;try dsimp only
    simp only [go_sem,seval,ne0,A0,A1];repeat' ((with_reducible first|refine wr ?_|refine k_cu ?_ ?_|refine wb2 ?_ ?_<;>(intro hb;try simp only [hb])|fail)<;>try simp only [go_sem,seval,ne0,A0,A1])
    refine AC.call (c_expect L E (A6 L E s 1).2 _ _ t (by repeat (first|exact A0|rw [A2 (by omega)]|rw [C0 (by omega)])) (by omega) (by have:=hti;omega) _) ?_;rintro v H' c7 ⟨rfl,rfl⟩ hc7;try dsimp only
    simp only [go_sem,seval,ne0,A0,A1];repeat' ((with_reducible first|refine wr ?_|refine k_cu ?_ ?_|refine wb2 ?_ ?_<;>(intro hb;try simp only [hb])|fail)<;>try simp only [go_sem,seval,ne0,A0,A1])
    refine AC.call (c_expression L E hL f (C1 L E (A6 L E s 1).2 [61]) (e,s1) hz5 (H9 hti) _ _ t (by repeat (first|exact A0|rw [A2 (by omega)]|rw [C0 (by omega)])) (by omega)) ?_;rintro v H' c8 ⟨rfl,rfl⟩ hc8;have ne0:=T4 t cc c3 c8 (by omega);try dsimp only
    simp only [go_sem,seval,Ex.v_w,ne0,A0,A1];repeat' ((with_reducible first|refine wr ?_|refine k_cu ?_ ?_|refine wb2 ?_ ?_<;>(intro hb;try simp only [hb])|fail)<;>try simp only [go_sem,seval,ne0,A0,A1])
    have h1i:=P2 hz5 (H9 hti);dsimp only at h1i;refine AC.call (c_expect L E s1 _ _ t (by repeat (first|exact A0|rw [A2 (by omega)]|rw [C0 (by omega)])) (by omega) (by have:=h1i;omega) _) ?_;rintro v H' c9 ⟨rfl,rfl⟩ hc9;try dsimp only
    simp only [go_sem,seval,ne0,A0,A1];repeat' ((with_reducible first|refine wr ?_|refine k_cu ?_ ?_|refine wb2 ?_ ?_<;>(intro hb;try simp only [hb])|fail)<;>try simp only [go_sem,seval,ne0,A0,A1])
    rw [B8 (rv7 rfl A0)];refine ⟨_,_,N5 (cc:=cc) (i:=c8) [e] (.inr ⟨rfl,rfl⟩) (.inr ⟨rfl,rfl⟩) (A9 hfr htc) (by omega) ?_ (fun j hj=>?_),(by first|rfl|(rw [Pb.St.v_w];done)|(rw [Pb.St.v_w];rfl)),rfl⟩
    ·rw [R1];dsimp only
     repeat (first|exact A0|rw [A2 (by omega)]|rw [C0 (by omega)])
    simp [Hp.upd,Hp.del,show ¬j=cc by omega,show ¬j=c3 by omega,show ¬j=c8 by omega];try (split<;>rfl)
  rw [if_neg hk] at h;have hdk:decide (k<0)=false:=by simpa using hk
  have hw2:IntKind.i64.wrap ((s.i:Int)+1)=((s.i+1:Nat):Int):=by rw [w64 (by omega) (by omega)];omega
  have hwk:IntKind.i64.wrap (2+k)=2+k:=w64 (by omega) (by omega);have hwd:IntKind.i64.wrap (d+1)=d+1:=w64 (by omega) (by omega);have hn:(A8 s).i<=L.length:=hnn (by omega);simp only [go_sem,seval,hdk,ne0,A0,A1];have u2:IntKind.i64.wrap 2=2:=w64 (by omega) (by omega);have u3:IntKind.i64.wrap 3=3:=w64 (by omega) (by omega);have u4:IntKind.i64.wrap 4=4:=w64 (by omega) (by omega);have u8:IntKind.i64.wrap 8=8:=w64 (by omega) (by omega);have u9:IntKind.i64.wrap 9=9:=w64 (by omega) (by omega);have u10:IntKind.i64.wrap 10=10:=w64 (by omega) (by omega);have u18:IntKind.i64.wrap 18=18:=w64 (by omega) (by omega);have u19:IntKind.i64.wrap 19=19:=w64 (by omega) (by omega);by_cases hb:k=0\/k=1
  ·rw [if_pos hb] at h;cases hz10:F2 L E f (A8 s) with
   | none=>rw [hz10] at h;cases h
   | some qhz10 =>
    obtain ⟨e,s2⟩:=qhz10;rw [hz10] at h;dsimp only at h;cases hz11:E9 L E f (d+1) s2 with
    | none=>rw [hz11] at h;cases h
    | some qhz11 =>
     obtain ⟨tt,s3⟩:=qhz11;rw [hz11] at h;dsimp only at h;have h2i:=P2 hz10 hn;dsimp only at h2i;have h3i:=(II.all f).1 _ _ _ hz11 h2i;dsimp only at h3i;have hw3:IntKind.i64.wrap ((s3.i:Int)+1)=((s3.i+1:Nat):Int):=by rw [w64 (by omega) (by omega)];omega
     rcases hb with rfl|rfl
     ·repeat' ((with_reducible first|refine wr ?_|refine k_cu ?_ ?_|refine wb2 ?_ ?_<;>(intro hb;try simp only [hb])|fail)<;>try simp only [go_sem,seval,hdk,hw2,hwk,u2,u3,u4,u8,u9,u10,u18,u19,ne0,A0,A1])
      refine AC.call (c_expression L E hL f (A8 s) (e,s2) hz10 (hn) _ _ t (by repeat (first|exact A0|rw [A2 (by omega)]|rw [C0 (by omega)])) (by omega)) ?_;rintro v H' c12 ⟨rfl,rfl⟩ hc12;have ne0:=T4 t cc c3 c12 (by omega);try dsimp only
      simp only [go_sem,seval,Ex.v_w,ne0,A0,A1];repeat' ((with_reducible first|refine wr ?_|refine k_cu ?_ ?_|refine wb2 ?_ ?_<;>(intro hb;try simp only [hb])|fail)<;>try simp only [go_sem,seval,ne0,A0,A1])
      try simp only [hwd]
      refine AC.call (ib (d+1) s2 (tt,s3) (by omega) (by omega) hz11 h2i _ _ t (by repeat (first|exact A0|rw [A2 (by omega)]|rw [C0 (by omega)])) (by omega)) ?_;rintro v H' c13 ⟨rfl,rfl⟩ hc13;try dsimp only
      simp only [go_sem,seval,ne0,A0,A1];repeat' ((with_reducible first|refine wr ?_|refine k_cu ?_ ?_|refine wb2 ?_ ?_<;>(intro hb;try simp only [hb])|fail)<;>try simp only [go_sem,seval,ne0,A0,A1])
      refine AC.call (c_is L E s3 _ _ t (by repeat (first|exact A0|rw [A2 (by omega)]|rw [C0 (by omega)])) (by omega) _) ?_;rintro v H' c14 ⟨rfl,rfl⟩ hc14;cases hq:isR L E s3 [101,108,115,101] with
      | true =>
       rw [if_pos ⟨rfl,hq⟩] at h;cases hz15:K9 L E f d (A8 s3) with
       | none=>rw [hz15] at h;cases h
       | some qhz15 =>
        obtain ⟨oo,s4⟩:=qhz15;rw [hz15] at h;dsimp only at h;cases h;simp only [go_sem,seval,hq,hw3,ne0,A0,A1];repeat' ((with_reducible first|refine wr ?_|refine k_cu ?_ ?_|refine wb2 ?_ ?_<;>(intro hb;try simp only [hb])|fail)<;>try simp only [go_sem,seval,hq,hw3,ne0,A0,A1])
        refine AC.call (io d (A8 s3) (oo,s4) hd0 (by omega) hz15 (W0 hq).2 _ _ t (by repeat (first|exact A0|rw [A2 (by omega)]|rw [C0 (by omega)])) (by omega)) ?_;rintro v H' c16 ⟨rfl,rfl⟩ hc16;try dsimp only
        simp only [go_sem,seval,ne0,A0,A1];repeat' ((with_reducible first|refine wr ?_|refine k_cu ?_ ?_|refine wb2 ?_ ?_<;>(intro hb;try simp only [hb])|fail)<;>try simp only [go_sem,seval,ne0,A0,A1])
        rw [B8 (rv7 rfl A0)];refine ⟨_,_,N5 (cc:=cc) (i:=c12) [e] (.inl rfl) (.inl rfl) (A9 hfr htc) (by omega) ?_ (fun j hj=>?_),(by first|rfl|(rw [Pb.St.v_w];done)|(rw [Pb.St.v_w];rfl)),rfl⟩
        ·rw [R1];dsimp only
         repeat (first|exact A0|rw [A2 (by omega)]|rw [C0 (by omega)])
        simp [Hp.upd,Hp.del,show ¬j=cc by omega,show ¬j=c3 by omega,show ¬j=c12 by omega];try (split<;>rfl)
      | false =>
       rw [if_neg (by simp [hq])] at h;cases h;simp only [go_sem,seval,hq,ne0,A0,A1];repeat' ((with_reducible first|refine wr ?_|refine k_cu ?_ ?_|refine wb2 ?_ ?_<;>(intro hb;try simp only [hb])|fail)<;>try simp only [go_sem,seval,hq,ne0,A0,A1])
       rw [B8 (rv7 rfl A0)];refine ⟨_,_,N5 (cc:=cc) (i:=c12) [e] (.inl rfl) (.inr ⟨rfl,rfl⟩) (A9 hfr htc) (by omega) ?_ (fun j hj=>?_),(by first|rfl|(rw [Pb.St.v_w];done)|(rw [Pb.St.v_w];rfl)),rfl⟩
       ·rw [R1];dsimp only
        repeat (first|exact A0|rw [A2 (by omega)]|rw [C0 (by omega)])
       simp [Hp.upd,Hp.del,show ¬j=cc by omega,show ¬j=c3 by omega,show ¬j=c12 by omega];try (split<;>rfl)
     ·repeat' ((with_reducible first|refine wr ?_|refine k_cu ?_ ?_|refine wb2 ?_ ?_<;>(intro hb;try simp only [hb])|fail)<;>try simp only [go_sem,seval,hdk,hw2,hwk,u2,u3,u4,u8,u9,u10,u18,u19,ne0,A0,A1])
      refine AC.call (c_expression L E hL f (A8 s) (e,s2) hz10 (hn) _ _ t (by repeat (first|exact A0|rw [A2 (by omega)]|rw [C0 (by omega)])) (by omega)) ?_;rintro v H' c17 ⟨rfl,rfl⟩ hc17;have ne0:=T4 t cc c3 c17 (by omega);try dsimp only
      simp only [go_sem,seval,Ex.v_w,ne0,A0,A1];repeat' ((with_reducible first|refine wr ?_|refine k_cu ?_ ?_|refine wb2 ?_ ?_<;>(intro hb;try simp only [hb])|fail)<;>try simp only [go_sem,seval,ne0,A0,A1])
      try simp only [hwd]
      refine AC.call (ib (d+1) s2 (tt,s3) (by omega) (by omega) hz11 h2i _ _ t (by repeat (first|exact A0|rw [A2 (by omega)]|rw [C0 (by omega)])) (by omega)) ?_;rintro v H' c18 ⟨rfl,rfl⟩ hc18;try dsimp only
      simp only [go_sem,seval,ne0,A0,A1];repeat' ((with_reducible first|refine wr ?_|refine k_cu ?_ ?_|refine wb2 ?_ ?_<;>(intro hb;try simp only [hb])|fail)<;>try simp only [go_sem,seval,ne0,A0,A1])
      rw [if_neg (by simp)] at h;cases h;rw [B8 (rv7 rfl A0)];refine ⟨_,_,N5 (cc:=cc) (i:=c17) [e] (.inl rfl) (.inr ⟨rfl,rfl⟩) (A9 hfr htc) (by omega) ?_ (fun j hj=>?_),(by first|rfl|(rw [Pb.St.v_w];done)|(rw [Pb.St.v_w];rfl)),rfl⟩
      ·rw [R1];dsimp only
       repeat (first|exact A0|rw [A2 (by omega)]|rw [C0 (by omega)])
      simp [Hp.upd,Hp.del,show ¬j=cc by omega,show ¬j=c3 by omega,show ¬j=c17 by omega];try (split<;>rfl)
  rw [if_neg hb] at h;unfold P6 at h;dsimp only at h;by_cases k2:k=2
  ·subst k2;rw [if_pos (by decide)] at h;cases hz19:F2 L E f (A8 s) with
   | none=>rw [hz19] at h;cases h
   | some qhz19 =>
    obtain ⟨e,s1⟩:=qhz19;rw [hz19] at h;dsimp only at h;cases h;have h1i:=P2 hz19 hn;dsimp only at h1i;repeat' ((with_reducible first|refine wr ?_|refine k_cu ?_ ?_|refine wb2 ?_ ?_<;>(intro hb;try simp only [hb])|fail)<;>try simp only [go_sem,seval,hdk,hw2,hwk,u2,u3,u4,u8,u9,u10,u18,u19,ne0,A0,A1])
    refine AC.call (c_expression L E hL f (A8 s) (e,s1) hz19 (hn) _ _ t (by repeat (first|exact A0|rw [A2 (by omega)]|rw [C0 (by omega)])) (by omega)) ?_;rintro v H' c20 ⟨rfl,rfl⟩ hc20;have ne0:=T4 t cc c3 c20 (by omega);try dsimp only
    simp only [go_sem,seval,Ex.v_w,ne0,A0,A1];repeat' ((with_reducible first|refine wr ?_|refine k_cu ?_ ?_|refine wb2 ?_ ?_<;>(intro hb;try simp only [hb])|fail)<;>try simp only [go_sem,seval,ne0,A0,A1])
    refine AC.call (c_expect L E s1 _ _ t (by repeat (first|exact A0|rw [A2 (by omega)]|rw [C0 (by omega)])) (by omega) (by have:=h1i;omega) _) ?_;rintro v H' c21 ⟨rfl,rfl⟩ hc21;try dsimp only
    simp only [go_sem,seval,ne0,A0,A1];repeat' ((with_reducible first|refine wr ?_|refine k_cu ?_ ?_|refine wb2 ?_ ?_<;>(intro hb;try simp only [hb])|fail)<;>try simp only [go_sem,seval,ne0,A0,A1])
    rw [B8 (rv7 rfl A0)];refine ⟨_,_,N5 (cc:=cc) (i:=c20) [e] (.inr ⟨rfl,rfl⟩) (.inr ⟨rfl,rfl⟩) (A9 hfr htc) (by omega) ?_ (fun j hj=>?_),(by first|rfl|(rw [Pb.St.v_w];done)|(rw [Pb.St.v_w];rfl)),rfl⟩
    ·rw [R1];dsimp only
     repeat (first|exact A0|rw [A2 (by omega)]|rw [C0 (by omega)])
    simp [Hp.upd,Hp.del,show ¬j=cc by omega,show ¬j=c3 by omega,show ¬j=c20 by omega];try (split<;>rfl)
  rw [if_neg (by omega)] at h;by_cases k16:k=16
  ·subst k16;rw [if_pos (by decide)] at h;have h4i:=G7 (E:=E) (x:=4) (by decide) hn;cases hz22:F2 L E f (C1 L E (A6 L E (A8 s) 4).2 [44]) with
   | none=>rw [hz22] at h;cases h
   | some qhz22 =>
    obtain ⟨e,s1⟩:=qhz22;rw [hz22] at h;dsimp only at h;cases h;have h1i:=P2 hz22 (H9 h4i);dsimp only at h1i;repeat' ((with_reducible first|refine wr ?_|refine k_cu ?_ ?_|refine wb2 ?_ ?_<;>(intro hb;try simp only [hb])|fail)<;>try simp only [go_sem,seval,hdk,hw2,hwk,u2,u3,u4,u8,u9,u10,u18,u19,ne0,A0,A1])
    refine AC.call (c_take L E (A8 s) _ _ t (by repeat (first|exact A0|rw [A2 (by omega)]|rw [C0 (by omega)])) (by omega) (by omega) 4) ?_;rintro v H' c23 ⟨rfl,rfl⟩ hc23;try dsimp only
    simp only [go_sem,seval,ne0,A0,A1];repeat' ((with_reducible first|refine wr ?_|refine k_cu ?_ ?_|refine wb2 ?_ ?_<;>(intro hb;try simp only [hb])|fail)<;>try simp only [go_sem,seval,ne0,A0,A1])
    refine AC.call (c_expect L E (A6 L E (A8 s) 4).2 _ _ t (by repeat (first|exact A0|rw [A2 (by omega)]|rw [C0 (by omega)])) (by omega) (by have:=h4i;omega) _) ?_;rintro v H' c24 ⟨rfl,rfl⟩ hc24;try dsimp only
    simp only [go_sem,seval,ne0,A0,A1];repeat' ((with_reducible first|refine wr ?_|refine k_cu ?_ ?_|refine wb2 ?_ ?_<;>(intro hb;try simp only [hb])|fail)<;>try simp only [go_sem,seval,ne0,A0,A1])
    refine AC.call (c_expression L E hL f (C1 L E (A6 L E (A8 s) 4).2 [44]) (e,s1) hz22 (H9 h4i) _ _ t (by repeat (first|exact A0|rw [A2 (by omega)]|rw [C0 (by omega)])) (by omega)) ?_;rintro v H' c25 ⟨rfl,rfl⟩ hc25;have ne0:=T4 t cc c3 c25 (by omega);try dsimp only
    simp only [go_sem,seval,Ex.v_w,ne0,A0,A1];repeat' ((with_reducible first|refine wr ?_|refine k_cu ?_ ?_|refine wb2 ?_ ?_<;>(intro hb;try simp only [hb])|fail)<;>try simp only [go_sem,seval,ne0,A0,A1])
    refine AC.call (c_expect L E s1 _ _ t (by repeat (first|exact A0|rw [A2 (by omega)]|rw [C0 (by omega)])) (by omega) (by have:=h1i;omega) _) ?_;rintro v H' c26 ⟨rfl,rfl⟩ hc26;try dsimp only
    simp only [go_sem,seval,ne0,A0,A1];repeat' ((with_reducible first|refine wr ?_|refine k_cu ?_ ?_|refine wb2 ?_ ?_<;>(intro hb;try simp only [hb])|fail)<;>try simp only [go_sem,seval,ne0,A0,A1])
    rw [B8 (rv7 rfl A0)];refine ⟨_,_,N5 (cc:=cc) (i:=c25) [e] (.inr ⟨rfl,rfl⟩) (.inr ⟨rfl,rfl⟩) (A9 hfr htc) (by omega) ?_ (fun j hj=>?_),(by first|rfl|(rw [Pb.St.v_w];done)|(rw [Pb.St.v_w];rfl)),rfl⟩
    ·rw [R1];dsimp only
     repeat (first|exact A0|rw [A2 (by omega)]|rw [C0 (by omega)])
    simp [Hp.upd,Hp.del,show ¬j=cc by omega,show ¬j=c3 by omega,show ¬j=c25 by omega];try (split<;>rfl)
  rw [if_neg (by omega)] at h;by_cases k17:k=17
  ·subst k17;rw [if_pos (by decide)] at h;cases h;repeat' ((with_reducible first|refine wr ?_|refine k_cu ?_ ?_|refine wb2 ?_ ?_<;>(intro hb;try simp only [hb])|fail)<;>try simp only [go_sem,seval,hdk,hw2,hwk,u2,u3,u4,u8,u9,u10,u18,u19,ne0,A0,A1])
   refine AC.call (c_expect L E (A8 s) _ _ t (by repeat (first|exact A0|rw [A2 (by omega)]|rw [C0 (by omega)])) (by omega) (by have:=hn;omega) _) ?_;rintro v H' c27 ⟨rfl,rfl⟩ hc27;try dsimp only
   simp only [go_sem,seval,ne0,A0,A1];repeat' ((with_reducible first|refine wr ?_|refine k_cu ?_ ?_|refine wb2 ?_ ?_<;>(intro hb;try simp only [hb])|fail)<;>try simp only [go_sem,seval,ne0,A0,A1])
   rw [B8 (rv7 rfl A0)];refine ⟨_,_,gl_st (cc:=cc) (.inr ⟨rfl,rfl⟩) (.inr ⟨rfl,rfl⟩) (.inr ⟨rfl,rfl⟩) (A9 hfr htc) (fun j hj=>?_),(by first|rfl|(rw [Pb.St.v_w];done)|(rw [Pb.St.v_w];rfl)),rfl⟩;simp [Hp.upd,Hp.del,show ¬j=cc by omega,show ¬j=c3 by omega];try (split<;>rfl)
  rw [if_neg (by omega)] at h;have hti2:=G7 (E:=E) (x:=1) (by decide) hn;by_cases k7:k=7
  ·subst k7;rw [if_pos (by omega)] at h;cases hz28:F2 L E f (A6 L E (A8 s) 1).2 with
   | none=>rw [hz28] at h;cases h
   | some qhz28 =>
    obtain ⟨e,s1⟩:=qhz28;rw [hz28] at h;dsimp only at h;rw [if_pos (by decide)] at h;have h1i:=P2 hz28 hti2;dsimp only at h1i;cases hz29:F2 L E f (C1 L E s1 [44]) with
    | none=>rw [hz29] at h;cases h
    | some qhz29 =>
     obtain ⟨e2,s2⟩:=qhz29;rw [hz29] at h;dsimp only at h;cases h;have h2i:=P2 hz29 (H9 h1i);dsimp only at h2i;repeat' ((with_reducible first|refine wr ?_|refine k_cu ?_ ?_|refine wb2 ?_ ?_<;>(intro hb;try simp only [hb])|fail)<;>try simp only [go_sem,seval,hdk,hw2,hwk,u2,u3,u4,u8,u9,u10,u18,u19,ne0,A0,A1])
     refine AC.call (c_name L E (A8 s) _ _ t (by repeat (first|exact A0|rw [A2 (by omega)]|rw [C0 (by omega)])) (by omega) (by have:=hn;omega)) ?_;rintro v H' c30 ⟨rfl,rfl⟩ hc30;try dsimp only
     simp only [go_sem,seval,ne0,A0,A1];repeat' ((with_reducible first|refine wr ?_|refine k_cu ?_ ?_|refine wb2 ?_ ?_<;>(intro hb;try simp only [hb])|fail)<;>try simp only [go_sem,seval,ne0,A0,A1])
     refine AC.call (c_expression L E hL f (A6 L E (A8 s) 1).2 (e,s1) hz28 (hti2) _ _ t (by repeat (first|exact A0|rw [A2 (by omega)]|rw [C0 (by omega)])) (by omega)) ?_;rintro v H' c31 ⟨rfl,rfl⟩ hc31;have ne0:=T4 t cc c3 c31 (by omega);try dsimp only
     simp only [go_sem,seval,Ex.v_w,ne0,A0,A1];repeat' ((with_reducible first|refine wr ?_|refine k_cu ?_ ?_|refine wb2 ?_ ?_<;>(intro hb;try simp only [hb])|fail)<;>try simp only [go_sem,seval,ne0,A0,A1])
     refine AC.call (c_expect L E s1 _ _ t (by repeat (first|exact A0|rw [A2 (by omega)]|rw [C0 (by omega)])) (by omega) (by have:=h1i;omega) _) ?_;rintro v H' c32 ⟨rfl,rfl⟩ hc32;try dsimp only
     simp only [go_sem,seval,ne0,A0,A1];repeat' ((with_reducible first|refine wr ?_|refine k_cu ?_ ?_|refine wb2 ?_ ?_<;>(intro hb;try simp only [hb])|fail)<;>try simp only [go_sem,seval,ne0,A0,A1])
     have hgx:=H9 (E:=E) (x:=[44]) h1i;refine AC.call (c_expression L E hL f (C1 L E s1 [44]) (e2,s2) hz29 (H9 h1i) _ _ t (by repeat (first|exact A0|rw [A2 (by omega)]|rw [C0 (by omega)])) (by omega)) ?_;rintro v H' c33 ⟨rfl,rfl⟩ hc33;have ne0:=O1 t cc c3 c31 (c32+4) (by omega);try dsimp only
     simp only [go_sem,seval,Ex.v_w,ne0,A0,A1];repeat' ((with_reducible first|refine wr ?_|refine k_cu ?_ ?_|refine wb2 ?_ ?_<;>(intro hb;try simp only [hb])|fail)<;>try simp only [go_sem,seval,ne0,A0,A1])
     refine ⟨?_,?_⟩
     ·and_intros
      all_goals ((repeat rw [A2 (by omega)]);exact hfr _ (by omega))
     have ne0:=nes6 t cc c3 c31 (c32+4) c33 (by omega);try simp only [go_sem,seval,R2,C0,S3,ne0,A0,A1]
     repeat' ((with_reducible first|refine wr ?_|refine k_cu ?_ ?_|refine wb2 ?_ ?_<;>(intro hb;try simp only [hb])|fail)<;>try simp only [go_sem,seval,R2,C0,S3,ne0,A0,A1])
     refine N1 (E0 (by rfl) (by omega) (by omega)) ?_;try simp only [go_sem,seval,C0,S3,ne0,A0,A1]
     repeat' ((with_reducible first|refine wr ?_|refine k_cu ?_ ?_|refine wb2 ?_ ?_<;>(intro hb;try simp only [hb])|fail)<;>try simp only [go_sem,seval,C0,S3,ne0,A0,A1])
     refine AC.call (c_expect L E s2 _ _ t (by repeat (first|exact A0|rw [A2 (by omega)]|rw [C0 (by omega)])) (by omega) (by have:=h2i;omega) _) ?_;rintro v H' c34 ⟨rfl,rfl⟩ hc34;try dsimp only
     simp only [go_sem,seval,ne0,A0,A1];repeat' ((with_reducible first|refine wr ?_|refine k_cu ?_ ?_|refine wb2 ?_ ?_<;>(intro hb;try simp only [hb])|fail)<;>try simp only [go_sem,seval,ne0,A0,A1])
     rw [B8 (rv7 rfl A0)];refine ⟨_,_,N5 (cc:=cc) (i:=c33) [e,e2] (.inr ⟨rfl,rfl⟩) (.inr ⟨rfl,rfl⟩) (A9 hfr htc) (by omega) ?_ (fun j hj=>?_),(by first|rfl|(rw [Pb.St.v_w];done)|(rw [Pb.St.v_w];rfl)),rfl⟩
     ·rw [A7b];dsimp only
      repeat (first|exact A0|rw [A2 (by omega)]|rw [C0 (by omega)])
     simp [Hp.upd,Hp.del,show ¬j=cc by omega,show ¬j=c3 by omega,show ¬j=c31 by omega,show ¬j=c32+4 by omega,show ¬j=c33 by omega];try (split<;>rfl)
  by_cases k68:k=6\/k=8
  ·rw [if_pos (by omega)] at h;cases hz35:F2 L E f (A6 L E (A8 s) 1).2 with
   | none=>rw [hz35] at h;cases h
   | some qhz35 =>
    obtain ⟨e,s1⟩:=qhz35;rw [hz35] at h;dsimp only at h;rw [if_neg (by omega)] at h;cases h;have h1i:=P2 hz35 hti2;dsimp only at h1i;rcases k68 with rfl|rfl
    all_goals
     repeat' ((with_reducible first|refine wr ?_|refine k_cu ?_ ?_|refine wb2 ?_ ?_<;>(intro hb;try simp only [hb])|fail)<;>try simp only [go_sem,seval,hdk,hw2,hwk,u2,u3,u4,u8,u9,u10,u18,u19,ne0,A0,A1])
     refine AC.call (c_name L E (A8 s) _ _ t (by repeat (first|exact A0|rw [A2 (by omega)]|rw [C0 (by omega)])) (by omega) (by have:=hn;omega)) ?_;rintro v H' c36 ⟨rfl,rfl⟩ hc36;try dsimp only
     simp only [go_sem,seval,ne0,A0,A1];repeat' ((with_reducible first|refine wr ?_|refine k_cu ?_ ?_|refine wb2 ?_ ?_<;>(intro hb;try simp only [hb])|fail)<;>try simp only [go_sem,seval,ne0,A0,A1])
     refine AC.call (c_expression L E hL f (A6 L E (A8 s) 1).2 (e,s1) hz35 (hti2) _ _ t (by repeat (first|exact A0|rw [A2 (by omega)]|rw [C0 (by omega)])) (by omega)) ?_;rintro v H' c37 ⟨rfl,rfl⟩ hc37;have ne0:=T4 t cc c3 c37 (by omega);try dsimp only
     simp only [go_sem,seval,Ex.v_w,ne0,A0,A1];repeat' ((with_reducible first|refine wr ?_|refine k_cu ?_ ?_|refine wb2 ?_ ?_<;>(intro hb;try simp only [hb])|fail)<;>try simp only [go_sem,seval,ne0,A0,A1])
     refine AC.call (c_expect L E s1 _ _ t (by repeat (first|exact A0|rw [A2 (by omega)]|rw [C0 (by omega)])) (by omega) (by have:=h1i;omega) _) ?_;rintro v H' c38 ⟨rfl,rfl⟩ hc38;try dsimp only
     simp only [go_sem,seval,ne0,A0,A1];repeat' ((with_reducible first|refine wr ?_|refine k_cu ?_ ?_|refine wb2 ?_ ?_<;>(intro hb;try simp only [hb])|fail)<;>try simp only [go_sem,seval,ne0,A0,A1])
     rw [B8 (rv7 rfl A0)];refine ⟨_,_,N5 (cc:=cc) (i:=c37) [e] (.inr ⟨rfl,rfl⟩) (.inr ⟨rfl,rfl⟩) (A9 hfr htc) (by omega) ?_ (fun j hj=>?_),(by first|rfl|(rw [Pb.St.v_w];done)|(rw [Pb.St.v_w];rfl)),rfl⟩
     ·rw [R1];dsimp only
      repeat (first|exact A0|rw [A2 (by omega)]|rw [C0 (by omega)])
     simp [Hp.upd,Hp.del,show ¬j=cc by omega,show ¬j=c3 by omega,show ¬j=c37 by omega];try (split<;>rfl)
  rw [if_neg (by omega)] at h;cases h;have e2:(2+k == 2)=false:=by simp;omega
  have e3:(2+k == 3)=false:=by simp;omega
  have e4:(2+k == 4)=false:=by simp;omega
  have e18:(2+k == 18)=false:=by simp;omega
  have e19:(2+k == 19)=false:=by simp;omega
  have e8:(2+k == 8)=false:=by simp;omega
  have e9:(2+k == 9)=false:=by simp;omega
  have e10:(2+k == 10)=false:=by simp;omega
  repeat' ((with_reducible first|refine wr ?_|refine k_cu ?_ ?_|refine wb2 ?_ ?_<;>(intro hb;try simp only [hb])|fail)<;>try simp only [go_sem,seval,hdk,hw2,hwk,u2,u3,u4,u8,u9,u10,u18,u19,e2,e3,e4,e18,e19,e8,e9,e10,ne0,A0,A1])
  refine AC.call (c_name L E (A8 s) _ _ t (by repeat (first|exact A0|rw [A2 (by omega)]|rw [C0 (by omega)])) (by omega) (by have:=hn;omega)) ?_;rintro v H' c39 ⟨rfl,rfl⟩ hc39;try dsimp only
  simp only [go_sem,seval,e8,e9,e10,ne0,A0,A1];repeat' ((with_reducible first|refine wr ?_|refine k_cu ?_ ?_|refine wb2 ?_ ?_<;>(intro hb;try simp only [hb])|fail)<;>try simp only [go_sem,seval,e8,e9,e10,ne0,A0,A1])
  refine AC.call (c_expect L E (A6 L E (A8 s) 1).2 _ _ t (by repeat (first|exact A0|rw [A2 (by omega)]|rw [C0 (by omega)])) (by omega) (by have:=hti2;omega) _) ?_;rintro v H' c40 ⟨rfl,rfl⟩ hc40;try dsimp only
  simp only [go_sem,seval,ne0,A0,A1];repeat' ((with_reducible first|refine wr ?_|refine k_cu ?_ ?_|refine wb2 ?_ ?_<;>(intro hb;try simp only [hb])|fail)<;>try simp only [go_sem,seval,ne0,A0,A1])
  rw [B8 (rv7 rfl A0)];refine ⟨_,_,gl_st (cc:=cc) (.inr ⟨rfl,rfl⟩) (.inr ⟨rfl,rfl⟩) (.inr ⟨rfl,rfl⟩) (A9 hfr htc) (fun j hj=>?_),(by first|rfl|(rw [Pb.St.v_w];done)|(rw [Pb.St.v_w];rfl)),rfl⟩;simp [Hp.upd,Hp.del,show ¬j=cc by omega,show ¬j=c3 by omega];try (split<;>rfl)
theorem c_begins (L:List Tok) (E:Int) (s:Rd) (H:Hp) (cc t:Nat) (ht:H t=some (paB L E s)) (htc:t<cc):AC Tryz.prog 210 [.ptr t 0] H cc (fun v H' c'=>v=.bool (A5r L E s)/\H'=H):=by
 refine AC.bodyT A7 rfl (Nat.le_of_ble_eq_true rfl) fun hfr=>?_;repeat' ((with_reducible first|refine wr ?_|refine k_cu ?_ ?_|refine wb2 ?_ ?_<;>(intro hb;try simp only [hb])|fail)<;>try simp only [go_sem,seval])
 refine AC.call (c_here L E s _ _ t ht (by omega)) ?_;rintro v H' c1 ⟨rfl,rfl⟩ hc;have ne0:=X5 t c1 (by omega);have hlk:=A8h B6 U0 rfl (A3 L E s).text;simp only [go_sem,seval,ne0,A0,A1];repeat' ((with_reducible first|refine wr ?_|refine k_cu ?_ ?_|refine wb2 ?_ ?_<;>(intro hb;try simp only [hb])|fail)<;>try simp only [go_sem,seval,ne0,A0,A1])
 refine AC.call (c_pok L E s _ _ t (by rw [A2 (by omega)];exact ht) (by omega)) ?_;rintro v H' c2 ⟨rfl,rfl⟩ hc2;unfold A5r;cases ho:okR s with
 | false =>
  simp only [go_sem,seval,ne0,A0,A1,ho];repeat' ((with_reducible first|refine wr ?_|refine k_cu ?_ ?_|refine wb2 ?_ ?_<;>(intro hb;try simp only [hb])|fail)<;>try simp only [go_sem,seval,ne0,A0,A1,ho])
  and_intros
  all_goals try ((repeat rw [A2 (by omega)]);exact hfr _ (by omega))
  repeat' ((with_reducible first|refine wr ?_|refine k_cu ?_ ?_|refine wb2 ?_ ?_<;>(intro hb;try simp only [hb])|fail)<;>try simp only [go_sem,seval,ne0,A0,A1,ho])
  exact ⟨_,_,V0 (fun i hi=>hfr i (by omega)),by simp [*],rfl⟩
 | true =>
  by_cases h1:(A3 L E s).kind=1
  ·have e1:((A3 L E s).kind == 1)=true:=by simpa using h1
   simp only [go_sem,seval,ne0,A0,A1,ho,e1];repeat' ((with_reducible first|refine wr ?_|refine k_cu ?_ ?_|refine wb2 ?_ ?_<;>(intro hb;try simp only [hb])|fail)<;>try simp only [go_sem,seval,ne0,A0,A1,ho,e1])
   and_intros
   all_goals try ((repeat rw [A2 (by omega)]);exact hfr _ (by omega))
   repeat' ((with_reducible first|refine wr ?_|refine k_cu ?_ ?_|refine wb2 ?_ ?_<;>(intro hb;try simp only [hb])|fail)<;>try simp only [go_sem,seval,ne0,A0,A1,ho])
   exact ⟨_,_,V0 (fun i hi=>hfr i (by omega)),by simp [*],rfl⟩
  have e1:((A3 L E s).kind == 1)=false:=by simpa using h1
  by_cases h2:(A3 L E s).kind=2
  ·have e2:((A3 L E s).kind == 2)=true:=by simpa using h2
   simp only [go_sem,seval,ne0,A0,A1,ho,e1,e2,hlk];repeat' ((with_reducible first|refine wr ?_|refine cpc c_stms ?_|refine k_cu ?_ ?_|refine wb2 ?_ ?_<;>(intro hb;try simp only [hb])|fail)<;>try simp only [go_sem,seval,ne0,A0,A1,ho,e1,e2,hlk])
   and_intros
   all_goals try ((repeat rw [A2 (by omega)]);exact hfr _ (by omega))
   repeat' ((with_reducible first|refine wr ?_|refine k_cu ?_ ?_|refine wb2 ?_ ?_<;>(intro hb;try simp only [hb])|fail)<;>try simp only [go_sem,seval,ne0,A0,A1,ho])
   exact ⟨_,_,V0 (fun i hi=>hfr i (by omega)),by simp [*],rfl⟩
  have e2:((A3 L E s).kind == 2)=false:=by simpa using h2
  simp only [go_sem,seval,ne0,A0,A1,ho,e1,e2];repeat' ((with_reducible first|refine wr ?_|refine k_cu ?_ ?_|refine wb2 ?_ ?_<;>(intro hb;try simp only [hb])|fail)<;>try simp only [go_sem,seval,ne0,A0,A1,ho,e1,e2])
  and_intros
  all_goals try ((repeat rw [A2 (by omega)]);exact hfr _ (by omega))
  repeat' ((with_reducible first|refine wr ?_|refine k_cu ?_ ?_|refine wb2 ?_ ?_<;>(intro hb;try simp only [hb])|fail)<;>try simp only [go_sem,seval,ne0,A0,A1,ho])
  exact ⟨_,_,V0 (fun i hi=>hfr i (by omega)),by simp [*],rfl⟩
abbrev PsC (L:List Tok) (E:Int) (f:Nat) (vs:List DV) (s:Rd) (q:Pb.St × Rd):Prop :=
 ∀ (H:Hp) (cc t:Nat),H t=some (paB L E s)->t<cc->AC Tryz.prog f (.ptr t 0 :: vs) H cc (fun v H' c' => ∃ x s',v=Pb.St.v x/\H'=H.upd t (paB L E s')/\Eqv s' q.2/\(okR q.2=true->x=q.1)/\PI L s')
abbrev PlC (L:List Tok) (E:Int) (f:Nat) (vs:List DV) (s:Rd) (q:List Pb.St × Rd):Prop :=
 ∀ (H:Hp) (cc t:Nat),H t=some (paB L E s)->t<cc->AC Tryz.prog f (.ptr t 0 :: vs) H cc (fun v H' c' => ∃ x s',v=F7 x/\H'=H.upd t (paB L E s')/\Eqv s' q.2/\(okR q.2=true->x=q.1)/\PI L s')
def elsM (L:List Tok) (E:Int) (f:Nat) (d:Int) (m:Rd):Option (List Pb.St × Rd):=if isR L E m [101,108,115,101]=true then K9 L E f d (A8 m) else some ([],m)
theorem A3c {L:List Tok} {E:Int} {m:Rd} {w:List UInt8} (k:okR (C1 L E m w)=true):okR m=true:=(W0 (A8n k).1).1
theorem expn_m {L:List Tok} {E:Int} {f:Nat} {m:Rd} {q:Ex × Rd} (h:F2 L E f m=some q) (k:okR q.2=true):okR m=true:=by
 cases ho:okR m with
 | true=>rfl
 | false=>obtain rfl:=expn_nok h ho;have:okR m=true:=k;rw [ho] at this;cases this
theorem blk_m {L:List Tok} {E:Int} {f:Nat} {d:Int} {m:Rd} {q:List Pb.St × Rd} (h:E9 L E f d m=some q) (k:okR q.2=true):okR m=true:=by
 cases ho:okR m with
 | true=>rfl
 | false=>obtain rfl:=blk_nok h ho;exact absurd k (by simp [ho])
theorem els_m {L:List Tok} {E:Int} {f:Nat} {d:Int} {m:Rd} {q:List Pb.St × Rd} (h:elsM L E f d m=some q) (k:okR q.2=true):okR m=true:=by
 unfold elsM at h;split at h
 ·rename_i hi;exact (W0 hi).1
 ·cases h;exact k
theorem c_pstmt (L:List Tok) (E:Int) (hL:L.length<=1000000000) (hK:∀ t∈L,F9 t) (f:Nat)
  (ib:∀ d s m r,0<=d->d<=9->Eqv s m->E9 L E f d m=some r->PI L s->PlC L E 198 [I64 d] s r)
  (io:∀ d s m r,0<=d->d<=8->Eqv s m->elsM L E f d m=some r->PI L s->PlC L E 222 [I64 (d+1)] s r)
  (d:Int) (s:Rd) (r:Pb.St × Rd) (hd0:0<=d) (hd:d<=8) (hbg:A5r L E s=true) (h:G5 L E (f+1) d s=some r) (hP:PI L s):PsC L E 211 [I64 d] s r:=by
 intro H cc t ht htc;obtain ⟨ho,hbk⟩:=(beg_amg hK).1 hbg;obtain ⟨hs1,hs2⟩:=stm_lk (E:=E) hK ho;have hri:=hP.i;unfold G5 at h;dsimp only at h;rw [U9 (by omega:¬ (8:Int)<d),if_neg (by rw [ho];decide)] at h;have hlt:s.i<L.length:=by
  rcases hbk with hk|hk
  ·exact (G3 hk).2.1
  ·exact (I7 (by decide) (K6 hk).2).2
 have hw1:IntKind.i64.wrap ((s.i:Int)+1)=((s.i+1:Nat):Int):=by rw [w64 (by omega) (by omega)];omega
 have hwd:IntKind.i64.wrap (d+1)=d+1:=w64 (by omega) (by omega);have hPn:=hP.nxt hlt;have hqn:=Eqv.refl (A8 s);refine AC.bodyT A7 rfl (Nat.le_of_ble_eq_true rfl) fun hfr=>?_;repeat' ((with_reducible first|refine wr ?_|refine k_cu ?_ ?_|refine wb2 ?_ ?_<;>(intro hb;try simp only [hb])|fail)<;>try simp only [go_sem,seval])
 refine AC.call (c_here L E s _ _ t (by rw [A2 (by omega)];exact ht) (by omega)) ?_;rintro v H' c1 ⟨rfl,rfl⟩ hc1;have ne0:=T4 t cc c1 (c1+1) (by omega);by_cases hk1:(A3 L E s).kind=1
 ·have e1:((A3 L E s).kind == 1)=true:=by simpa using hk1
  have hkk:F5 L E s 1=true:=by unfold F5;rw [ho,hk1];rfl
  have htk:A6 L E s 1=(A3 L E s,A8 s):=by unfold A6;rw [hkk,if_neg (by decide)]
  have hk:B4 L E s B6<0:=by
   by_cases hk:B4 L E s B6<0
   ·exact hk
   ·have:=(hs1 (by omega)).1;omega
  rw [if_pos hk,htk] at h;dsimp only at h;cases hz2:F2 L E f (C1 L E (A8 s) [61]) with
  | none=>rw [hz2] at h;cases h
  | some qhz2 =>
   obtain ⟨e,m2⟩:=qhz2;rw [hz2] at h;dsimp only at h;cases h;simp only [go_sem,seval,ne0,A0,A1];repeat' ((with_reducible first|refine wr ?_|refine k_cu ?_ ?_|refine wb2 ?_ ?_<;>(intro hb;try simp only [hb])|fail)<;>try simp only [go_sem,seval,e1,ht,hw1,ne0,A0,A1])
   refine AC.call (c_want L E (A8 s) _ _ t (by repeat (first|exact A0|rw [A2 (by omega)]|rw [C0 (by omega)])) (by omega) (by have:=hPn.i;omega) 5 [61]) ?_;rintro v H' c3 ⟨rfl,rfl⟩ hc3;have qc3:=hqn.want (L:=L) (E:=E) (k:=5) (w:=[61]) (fun s=>E7 hK (by decide +kernel));have bc3:=(hPn.want (E:=E) (k:=5) (w:=[61]) (by decide)).1;simp only [go_sem,seval,ne0,A0,A1];repeat' ((with_reducible first|refine wr ?_|refine k_cu ?_ ?_|refine wb2 ?_ ?_<;>(intro hb;try simp only [hb])|fail)<;>try simp only [go_sem,seval,ne0,A0,A1])
   refine AC.call (c_pexpr L E hL hK f (D9 L E (A8 s) 5 [61]) (C1 L E (A8 s) [61]) (e,m2) qc3 hz2 bc3.i _ _ t (by repeat (first|exact A0|rw [A2 (by omega)]|rw [C0 (by omega)])) (by omega)) ?_;rintro v H' c4 ⟨xc4,sc4,rfl,rfl,qc4,uc4,bc4⟩ hc4;dsimp only at qc4 uc4;have ne0:=O1 t cc c1 (c1+1) c4 (by omega);simp only [go_sem,seval,Ex.v_w,ne0,A0,A1];repeat' ((with_reducible first|refine wr ?_|refine k_cu ?_ ?_|refine wb2 ?_ ?_<;>(intro hb;try simp only [hb])|fail)<;>try simp only [go_sem,seval,ne0,A0,A1])
   refine AC.call (c_want L E sc4 _ _ t (by repeat (first|exact A0|rw [A2 (by omega)]|rw [C0 (by omega)])) (by omega) (by have:=bc4.i;omega) 5 [59]) ?_;rintro v H' c5 ⟨rfl,rfl⟩ hc5;have qc5:=qc4.want (L:=L) (E:=E) (k:=5) (w:=[59]) (fun s=>E7 hK (by decide +kernel));have bc5:=(bc4.want (E:=E) (k:=5) (w:=[59]) (by decide)).1;simp only [go_sem,seval,ne0,A0,A1];repeat' ((with_reducible first|refine wr ?_|refine k_cu ?_ ?_|refine wb2 ?_ ?_<;>(intro hb;try simp only [hb])|fail)<;>try simp only [go_sem,seval,ne0,A0,A1])
   rw [B8 (rv7 rfl A0)];refine ⟨_,_,N5 (cc:=cc) (K:=H.upd t (paB L E (D9 L E sc4 5 [59]))) (i:=c4) [xc4] (.inr ⟨rfl,rfl⟩) (.inr ⟨rfl,rfl⟩) (A9 hfr htc) (by omega) ?_ (fun j hj=>?_),.mk 1 (A3 L E s).text [] [xc4] [] [] (A3 L E s).pos,(D9 L E sc4 5 [59]),by rw [Pb.St.v_w];rfl,rfl,qc5,fun k=>?_,bc5⟩
   ·rw [R1];dsimp only
    repeat (first|exact A0|rw [A2 (by omega)]|rw [C0 (by omega)])
   ·simp [Hp.upd,Hp.del,show ¬j=cc by omega,show ¬j=c1 by omega,show ¬j=c1+1 by omega,show ¬j=c4 by omega];try (split<;>rfl)
   ·rw [uc4 (A3c k)]
 have e1:((A3 L E s).kind == 1)=false:=by simpa using hk1
 have hk0:0<=B4 L E s B6:=by
  rcases hbk with hk|hk
  ·exact hk
  ·exact absurd (K6 hk).2 hk1
 obtain ⟨hk2,hlv,hk18⟩:=hs1 hk0;have hlk:=A8h B6 U0 rfl (A3 L E s).text;rw [if_neg (by omega)] at h;generalize B4 L E s B6=k at h hlv hk0 hk18;rw [hlv] at hlk;clear hlv hs1 hs2 hbk;simp only [go_sem,seval,ne0,A0,A1];repeat' ((with_reducible first|refine wr ?_|refine cpc c_stms ?_|refine k_cu ?_ ?_|refine wb2 ?_ ?_<;>(intro hb;try simp only [hb])|fail)<;>try simp only [go_sem,seval,e1,ht,hw1,hlk,ne0,A0,A1])
 and_intros
 all_goals try ((repeat rw [A2 (by omega)]);exact hfr _ (by omega))
 by_cases k0:k=0
 ·rw [if_pos (.inl k0)] at h;cases hz6:F2 L E f (A8 s) with
  | none=>rw [hz6] at h;cases h
  | some qhz6 =>
   obtain ⟨e,m2⟩:=qhz6;rw [hz6] at h;dsimp only at h;cases hz7:E9 L E f (d+1) m2 with
   | none=>rw [hz7] at h;cases h
   | some qhz7 =>
    obtain ⟨tt,m3⟩:=qhz7;rw [hz7] at h;dsimp only at h;have h':(match elsM L E f d m3 with|none=>none|some (o,s4)=>some (Pb.St.mk 2 [] [] [e] tt o (A3 L E s).pos,s4))=some r:=by
     unfold elsM;cases hi:isR L E m3 [101,108,115,101] with
     | true=>rw [if_pos ⟨k0,hi⟩] at h;rw [if_pos rfl];exact h
     | false=>rw [if_neg (by simp [hi])] at h;rw [if_neg (by decide), <- h];subst k0;rfl
    clear h;have h:=h';clear h';cases hz8:elsM L E f d m3 with
    | none=>rw [hz8] at h;cases h
    | some qhz8 =>
     obtain ⟨oo,m4⟩:=qhz8;rw [hz8] at h;dsimp only at h;cases h;have f2:(2+k == 2)=true:=by simp;omega
     have f3:(2+k == 3)=false:=by simp;omega
     have f4:(2+k == 4)=false:=by simp;omega
     have f8:(2+k == 8)=false:=by simp;omega
     have f10:(2+k == 10)=false:=by simp;omega
     have f9:(2+k == 9)=false:=by simp;omega
     have f18:(2+k == 18)=false:=by simp;omega
     have f19:(2+k == 19)=false:=by simp;omega
     repeat' ((with_reducible first|refine wr ?_|refine k_cu ?_ ?_|refine wb2 ?_ ?_<;>(intro hb;try simp only [hb])|fail)<;>try simp only [go_sem,seval,f2,f3,f4,f8,f10,f9,f18,f19,hwd,ne0,A0,A1])
     refine AC.call (c_pexpr L E hL hK f (A8 s) (A8 s) (e,m2) hqn hz6 hPn.i _ _ t (by repeat (first|exact A0|rw [A2 (by omega)]|rw [C0 (by omega)])) (by omega)) ?_;rintro v H' c9 ⟨xc9,sc9,rfl,rfl,qc9,uc9,bc9⟩ hc9;dsimp only at qc9 uc9;have ne0:=O1 t cc c1 (c1+1) c9 (by omega);simp only [go_sem,seval,Ex.v_w,ne0,A0,A1];repeat' ((with_reducible first|refine wr ?_|refine k_cu ?_ ?_|refine wb2 ?_ ?_<;>(intro hb;try simp only [hb])|fail)<;>try simp only [go_sem,seval,hwd,ne0,A0,A1])
     refine AC.call (ib (d+1) sc9 m2 (tt,m3) (by omega) (by omega) qc9 hz7 bc9 _ _ t (by repeat (first|exact A0|rw [A2 (by omega)]|rw [C0 (by omega)])) (by omega)) ?_;rintro v H' c10 ⟨xc10,sc10,rfl,rfl,qc10,uc10,bc10⟩ hc10;dsimp only at qc10 uc10;simp only [go_sem,seval,ne0,A0,A1];repeat' ((with_reducible first|refine wr ?_|refine k_cu ?_ ?_|refine wb2 ?_ ?_<;>(intro hb;try simp only [hb])|fail)<;>try simp only [go_sem,seval,hwd,ne0,A0,A1])
     refine AC.call (io d sc10 m3 (oo,m4) (by omega) (by omega) qc10 hz8 bc10 _ _ t (by repeat (first|exact A0|rw [A2 (by omega)]|rw [C0 (by omega)])) (by omega)) ?_;rintro v H' c11 ⟨xc11,sc11,rfl,rfl,qc11,uc11,bc11⟩ hc11;dsimp only at qc11 uc11;simp only [go_sem,seval,ne0,A0,A1];repeat' ((with_reducible first|refine wr ?_|refine k_cu ?_ ?_|refine wb2 ?_ ?_<;>(intro hb;try simp only [hb])|fail)<;>try simp only [go_sem,seval,hwd,ne0,A0,A1])
     subst k0;rw [B8 (rv7 rfl A0)];refine ⟨_,_,N5 (cc:=cc) (K:=H.upd t (paB L E sc11)) (i:=c9) [xc9] (.inl rfl) (.inl rfl) (A9 hfr htc) (by omega) ?_ (fun j hj=>?_),.mk 2 [] [] [xc9] xc10 xc11 (A3 L E s).pos,sc11,by rw [Pb.St.v_w];rfl,rfl,qc11,fun k=>?_,bc11⟩
     ·rw [R1];dsimp only
      repeat (first|exact A0|rw [A2 (by omega)]|rw [C0 (by omega)])
     ·simp [Hp.upd,Hp.del,show ¬j=cc by omega,show ¬j=c1 by omega,show ¬j=c1+1 by omega,show ¬j=c9 by omega];try (split<;>rfl)
     ·have k3:=els_m hz8 k;have k2:=blk_m hz7 k3;rw [uc11 k,uc10 k3,uc9 k2]
 by_cases k1:k=1
 ·rw [if_pos (.inr k1)] at h;cases hz12:F2 L E f (A8 s) with
  | none=>rw [hz12] at h;cases h
  | some qhz12 =>
   obtain ⟨e,m2⟩:=qhz12;rw [hz12] at h;dsimp only at h;cases hz13:E9 L E f (d+1) m2 with
   | none=>rw [hz13] at h;cases h
   | some qhz13 =>
    obtain ⟨tt,m3⟩:=qhz13;rw [hz13] at h;dsimp only at h;rw [if_neg (fun h=>k0 h.1)] at h;cases h;have f2:(2+k == 2)=false:=by simp;omega
    have f3:(2+k == 3)=true:=by simp;omega
    have f4:(2+k == 4)=false:=by simp;omega
    have f8:(2+k == 8)=false:=by simp;omega
    have f10:(2+k == 10)=false:=by simp;omega
    have f9:(2+k == 9)=false:=by simp;omega
    have f18:(2+k == 18)=false:=by simp;omega
    have f19:(2+k == 19)=false:=by simp;omega
    repeat' ((with_reducible first|refine wr ?_|refine k_cu ?_ ?_|refine wb2 ?_ ?_<;>(intro hb;try simp only [hb])|fail)<;>try simp only [go_sem,seval,f2,f3,f4,f8,f10,f9,f18,f19,hwd,ne0,A0,A1])
    refine AC.call (c_pexpr L E hL hK f (A8 s) (A8 s) (e,m2) hqn hz12 hPn.i _ _ t (by repeat (first|exact A0|rw [A2 (by omega)]|rw [C0 (by omega)])) (by omega)) ?_;rintro v H' c14 ⟨xc14,sc14,rfl,rfl,qc14,uc14,bc14⟩ hc14;dsimp only at qc14 uc14;have ne0:=O1 t cc c1 (c1+1) c14 (by omega);simp only [go_sem,seval,Ex.v_w,ne0,A0,A1];repeat' ((with_reducible first|refine wr ?_|refine k_cu ?_ ?_|refine wb2 ?_ ?_<;>(intro hb;try simp only [hb])|fail)<;>try simp only [go_sem,seval,hwd,ne0,A0,A1])
    refine AC.call (ib (d+1) sc14 m2 (tt,m3) (by omega) (by omega) qc14 hz13 bc14 _ _ t (by repeat (first|exact A0|rw [A2 (by omega)]|rw [C0 (by omega)])) (by omega)) ?_;rintro v H' c15 ⟨xc15,sc15,rfl,rfl,qc15,uc15,bc15⟩ hc15;dsimp only at qc15 uc15;simp only [go_sem,seval,ne0,A0,A1];repeat' ((with_reducible first|refine wr ?_|refine k_cu ?_ ?_|refine wb2 ?_ ?_<;>(intro hb;try simp only [hb])|fail)<;>try simp only [go_sem,seval,hwd,ne0,A0,A1])
    subst k1;rw [B8 (rv7 rfl A0)];refine ⟨_,_,N5 (cc:=cc) (K:=H.upd t (paB L E sc15)) (i:=c14) [xc14] (.inl rfl) (.inr ⟨rfl,rfl⟩) (A9 hfr htc) (by omega) ?_ (fun j hj=>?_),.mk 3 [] [] [xc14] xc15 [] (A3 L E s).pos,sc15,by rw [Pb.St.v_w];rfl,rfl,qc15,fun k=>?_,bc15⟩
    ·rw [R1];dsimp only
     repeat (first|exact A0|rw [A2 (by omega)]|rw [C0 (by omega)])
    ·simp [Hp.upd,Hp.del,show ¬j=cc by omega,show ¬j=c1 by omega,show ¬j=c1+1 by omega,show ¬j=c14 by omega];try (split<;>rfl)
    ·have k2:=blk_m hz13 k;rw [uc15 k,uc14 k2];rfl
 rw [if_neg (by omega)] at h;unfold P6 at h;by_cases k4:2+k=4
 ·rw [if_pos k4] at h;cases hz16:F2 L E f (A8 s) with
  | none=>rw [hz16] at h;cases h
  | some qhz16 =>
   obtain ⟨e,m2⟩:=qhz16;rw [hz16] at h;dsimp only at h;cases h;have f2:(2+k == 2)=false:=by simp;omega
   have f3:(2+k == 3)=false:=by simp;omega
   have f4:(2+k == 4)=true:=by simp;omega
   have f8:(2+k == 8)=false:=by simp;omega
   have f10:(2+k == 10)=false:=by simp;omega
   have f9:(2+k == 9)=false:=by simp;omega
   have f18:(2+k == 18)=false:=by simp;omega
   have f19:(2+k == 19)=false:=by simp;omega
   repeat' ((with_reducible first|refine wr ?_|refine k_cu ?_ ?_|refine wb2 ?_ ?_<;>(intro hb;try simp only [hb])|fail)<;>try simp only [go_sem,seval,f2,f3,f4,f8,f10,f9,f18,f19,ne0,A0,A1])
   refine AC.call (c_pexpr L E hL hK f (A8 s) (A8 s) (e,m2) hqn hz16 hPn.i _ _ t (by repeat (first|exact A0|rw [A2 (by omega)]|rw [C0 (by omega)])) (by omega)) ?_;rintro v H' c17 ⟨xc17,sc17,rfl,rfl,qc17,uc17,bc17⟩ hc17;dsimp only at qc17 uc17;have ne0:=O1 t cc c1 (c1+1) c17 (by omega);simp only [go_sem,seval,Ex.v_w,ne0,A0,A1];repeat' ((with_reducible first|refine wr ?_|refine k_cu ?_ ?_|refine wb2 ?_ ?_<;>(intro hb;try simp only [hb])|fail)<;>try simp only [go_sem,seval,ne0,A0,A1])
   refine AC.call (c_want L E sc17 _ _ t (by repeat (first|exact A0|rw [A2 (by omega)]|rw [C0 (by omega)])) (by omega) (by have:=bc17.i;omega) 5 [59]) ?_;rintro v H' c18 ⟨rfl,rfl⟩ hc18;have qc18:=qc17.want (L:=L) (E:=E) (k:=5) (w:=[59]) (fun s=>E7 hK (by decide +kernel));have bc18:=(bc17.want (E:=E) (k:=5) (w:=[59]) (by decide)).1;simp only [go_sem,seval,ne0,A0,A1];repeat' ((with_reducible first|refine wr ?_|refine k_cu ?_ ?_|refine wb2 ?_ ?_<;>(intro hb;try simp only [hb])|fail)<;>try simp only [go_sem,seval,ne0,A0,A1])
   rw [B8 (rv7 rfl A0)];refine ⟨_,_,N5 (cc:=cc) (K:=H.upd t (paB L E (D9 L E sc17 5 [59]))) (i:=c17) [xc17] (.inr ⟨rfl,rfl⟩) (.inr ⟨rfl,rfl⟩) (A9 hfr htc) (by omega) ?_ (fun j hj=>?_),.mk (2+k) [] [] [xc17] [] [] (A3 L E s).pos,(D9 L E sc17 5 [59]),by rw [Pb.St.v_w];rfl,rfl,qc18,fun k=>?_,bc18⟩
   ·rw [R1];dsimp only
    repeat (first|exact A0|rw [A2 (by omega)]|rw [C0 (by omega)])
   ·simp [Hp.upd,Hp.del,show ¬j=cc by omega,show ¬j=c1 by omega,show ¬j=c1+1 by omega,show ¬j=c17 by omega];try (split<;>rfl)
   ·rw [uc17 (A3c k)]
 rw [if_neg k4] at h;by_cases k18:2+k=18
 ·rw [if_pos k18] at h;cases hz19:F2 L E f (C1 L E (A6 L E (A8 s) 4).2 [44]) with
  | none=>rw [hz19] at h;cases h
  | some qhz19 =>
   obtain ⟨e,m2⟩:=qhz19;rw [hz19] at h;dsimp only at h;cases h;have f2:(2+k == 2)=false:=by simp;omega
   have f3:(2+k == 3)=false:=by simp;omega
   have f4:(2+k == 4)=false:=by simp;omega
   have f8:(2+k == 8)=false:=by simp;omega
   have f10:(2+k == 10)=false:=by simp;omega
   have f9:(2+k == 9)=false:=by simp;omega
   have f18:(2+k == 18)=true:=by simp;omega
   have f19:(2+k == 19)=false:=by simp;omega
   repeat' ((with_reducible first|refine wr ?_|refine k_cu ?_ ?_|refine wb2 ?_ ?_<;>(intro hb;try simp only [hb])|fail)<;>try simp only [go_sem,seval,f2,f3,f4,f8,f10,f9,f18,f19,ne0,A0,A1])
   refine AC.call (c_ptake L E (A8 s) _ _ t (by repeat (first|exact A0|rw [A2 (by omega)]|rw [C0 (by omega)])) (by omega) (by have:=hPn.i;omega) 4) ?_;rintro v H' c20 ⟨rfl,rfl⟩ hc20;obtain ⟨qc20,vc20⟩:=hqn.take (L:=L) (E:=E) (k:=4);have bc20:=(hPn.take (E:=E) (x:=4) (by decide)).1;simp only [go_sem,seval,ne0,A0,A1];repeat' ((with_reducible first|refine wr ?_|refine k_cu ?_ ?_|refine wb2 ?_ ?_<;>(intro hb;try simp only [hb])|fail)<;>try simp only [go_sem,seval,ne0,A0,A1])
   refine AC.call (c_want L E (A6 L E (A8 s) 4).2 _ _ t (by repeat (first|exact A0|rw [A2 (by omega)]|rw [C0 (by omega)])) (by omega) (by have:=bc20.i;omega) 5 [44]) ?_;rintro v H' c21 ⟨rfl,rfl⟩ hc21;have qc21:=qc20.want (L:=L) (E:=E) (k:=5) (w:=[44]) (fun s=>E7 hK (by decide +kernel));have bc21:=(bc20.want (E:=E) (k:=5) (w:=[44]) (by decide)).1;simp only [go_sem,seval,ne0,A0,A1];repeat' ((with_reducible first|refine wr ?_|refine k_cu ?_ ?_|refine wb2 ?_ ?_<;>(intro hb;try simp only [hb])|fail)<;>try simp only [go_sem,seval,ne0,A0,A1])
   refine AC.call (c_pexpr L E hL hK f (D9 L E (A6 L E (A8 s) 4).2 5 [44]) (C1 L E (A6 L E (A8 s) 4).2 [44]) (e,m2) qc21 hz19 bc21.i _ _ t (by repeat (first|exact A0|rw [A2 (by omega)]|rw [C0 (by omega)])) (by omega)) ?_;rintro v H' c22 ⟨xc22,sc22,rfl,rfl,qc22,uc22,bc22⟩ hc22;dsimp only at qc22 uc22;have ne0:=O1 t cc c1 (c1+1) c22 (by omega);simp only [go_sem,seval,Ex.v_w,ne0,A0,A1];repeat' ((with_reducible first|refine wr ?_|refine k_cu ?_ ?_|refine wb2 ?_ ?_<;>(intro hb;try simp only [hb])|fail)<;>try simp only [go_sem,seval,ne0,A0,A1])
   refine AC.call (c_want L E sc22 _ _ t (by repeat (first|exact A0|rw [A2 (by omega)]|rw [C0 (by omega)])) (by omega) (by have:=bc22.i;omega) 5 [59]) ?_;rintro v H' c23 ⟨rfl,rfl⟩ hc23;have qc23:=qc22.want (L:=L) (E:=E) (k:=5) (w:=[59]) (fun s=>E7 hK (by decide +kernel));have bc23:=(bc22.want (E:=E) (k:=5) (w:=[59]) (by decide)).1;simp only [go_sem,seval,ne0,A0,A1];repeat' ((with_reducible first|refine wr ?_|refine k_cu ?_ ?_|refine wb2 ?_ ?_<;>(intro hb;try simp only [hb])|fail)<;>try simp only [go_sem,seval,ne0,A0,A1])
   rw [B8 (rv7 rfl A0)];refine ⟨_,_,N5 (cc:=cc) (K:=H.upd t (paB L E (D9 L E sc22 5 [59]))) (i:=c22) [xc22] (.inr ⟨rfl,rfl⟩) (.inr ⟨rfl,rfl⟩) (A9 hfr htc) (by omega) ?_ (fun j hj=>?_),.mk (2+k) [] (A6 L E (A8 s) 4).1.text [xc22] [] [] (A3 L E s).pos,(D9 L E sc22 5 [59]),by rw [Pb.St.v_w];rfl,rfl,qc23,fun k=>?_,bc23⟩
   ·rw [R1];dsimp only
    repeat (first|exact A0|rw [A2 (by omega)]|rw [C0 (by omega)])
   ·simp [Hp.upd,Hp.del,show ¬j=cc by omega,show ¬j=c1 by omega,show ¬j=c1+1 by omega,show ¬j=c22 by omega];try (split<;>rfl)
   ·rw [uc22 (A3c k)]
 rw [if_neg k18] at h;by_cases k19:2+k=19
 ·rw [if_pos k19] at h;cases h;have f2:(2+k == 2)=false:=by simp;omega
  have f3:(2+k == 3)=false:=by simp;omega
  have f4:(2+k == 4)=false:=by simp;omega
  have f8:(2+k == 8)=false:=by simp;omega
  have f10:(2+k == 10)=false:=by simp;omega
  have f9:(2+k == 9)=false:=by simp;omega
  have f18:(2+k == 18)=false:=by simp;omega
  have f19:(2+k == 19)=true:=by simp;omega
  repeat' ((with_reducible first|refine wr ?_|refine k_cu ?_ ?_|refine wb2 ?_ ?_<;>(intro hb;try simp only [hb])|fail)<;>try simp only [go_sem,seval,f2,f3,f4,f8,f10,f9,f18,f19,ne0,A0,A1])
  refine AC.call (c_want L E (A8 s) _ _ t (by repeat (first|exact A0|rw [A2 (by omega)]|rw [C0 (by omega)])) (by omega) (by have:=hPn.i;omega) 5 [59]) ?_;rintro v H' c24 ⟨rfl,rfl⟩ hc24;have qc24:=hqn.want (L:=L) (E:=E) (k:=5) (w:=[59]) (fun s=>E7 hK (by decide +kernel));have bc24:=(hPn.want (E:=E) (k:=5) (w:=[59]) (by decide)).1;simp only [go_sem,seval,ne0,A0,A1];repeat' ((with_reducible first|refine wr ?_|refine k_cu ?_ ?_|refine wb2 ?_ ?_<;>(intro hb;try simp only [hb])|fail)<;>try simp only [go_sem,seval,ne0,A0,A1])
  rw [B8 (rv7 rfl A0)];refine ⟨_,_,gl_st (cc:=cc) (K:=H.upd t (paB L E (D9 L E (A8 s) 5 [59]))) (.inr ⟨rfl,rfl⟩) (.inr ⟨rfl,rfl⟩) (.inr ⟨rfl,rfl⟩) (A9 hfr htc) (fun j hj=>?_),.mk (2+k) [] [] [] [] [] (A3 L E s).pos,(D9 L E (A8 s) 5 [59]),by rw [Pb.St.v_w];rfl,rfl,qc24,fun k=>?_,bc24⟩
  ·simp [Hp.upd,Hp.del,show ¬j=cc by omega,show ¬j=c1 by omega,show ¬j=c1+1 by omega];try (split<;>rfl)
  ·rfl
 rw [if_neg k19] at h;dsimp only at h;by_cases k8:2+k=8
 ·rw [if_pos (by omega)] at h;cases hz25:F2 L E f (A6 L E (A8 s) 1).2 with
  | none=>rw [hz25] at h;cases h
  | some qhz25 =>
   obtain ⟨e,m2⟩:=qhz25;rw [hz25] at h;dsimp only at h;rw [if_neg (by omega)] at h;cases h;have f2:(2+k == 2)=false:=by simp;omega
   have f3:(2+k == 3)=false:=by simp;omega
   have f4:(2+k == 4)=false:=by simp;omega
   have f8:(2+k == 8)=true:=by simp;omega
   have f10:(2+k == 10)=false:=by simp;omega
   have f9:(2+k == 9)=false:=by simp;omega
   have f18:(2+k == 18)=false:=by simp;omega
   have f19:(2+k == 19)=false:=by simp;omega
   repeat' ((with_reducible first|refine wr ?_|refine k_cu ?_ ?_|refine wb2 ?_ ?_<;>(intro hb;try simp only [hb])|fail)<;>try simp only [go_sem,seval,f2,f3,f4,f8,f10,f9,f18,f19,ne0,A0,A1])
   refine AC.call (c_ptake L E (A8 s) _ _ t (by repeat (first|exact A0|rw [A2 (by omega)]|rw [C0 (by omega)])) (by omega) (by have:=hPn.i;omega) 1) ?_;rintro v H' c26 ⟨rfl,rfl⟩ hc26;obtain ⟨qc26,vc26⟩:=hqn.take (L:=L) (E:=E) (k:=1);have bc26:=(hPn.take (E:=E) (x:=1) (by decide)).1;simp only [go_sem,seval,ne0,A0,A1];repeat' ((with_reducible first|refine wr ?_|refine k_cu ?_ ?_|refine wb2 ?_ ?_<;>(intro hb;try simp only [hb])|fail)<;>try simp only [go_sem,seval,ne0,A0,A1])
   refine AC.call (c_pexpr L E hL hK f (A6 L E (A8 s) 1).2 (A6 L E (A8 s) 1).2 (e,m2) qc26 hz25 bc26.i _ _ t (by repeat (first|exact A0|rw [A2 (by omega)]|rw [C0 (by omega)])) (by omega)) ?_;rintro v H' c27 ⟨xc27,sc27,rfl,rfl,qc27,uc27,bc27⟩ hc27;dsimp only at qc27 uc27;have ne0:=O1 t cc c1 (c1+1) c27 (by omega);simp only [go_sem,seval,Ex.v_w,ne0,A0,A1];repeat' ((with_reducible first|refine wr ?_|refine k_cu ?_ ?_|refine wb2 ?_ ?_<;>(intro hb;try simp only [hb])|fail)<;>try simp only [go_sem,seval,ne0,A0,A1])
   refine AC.call (c_want L E sc27 _ _ t (by repeat (first|exact A0|rw [A2 (by omega)]|rw [C0 (by omega)])) (by omega) (by have:=bc27.i;omega) 5 [59]) ?_;rintro v H' c28 ⟨rfl,rfl⟩ hc28;have qc28:=qc27.want (L:=L) (E:=E) (k:=5) (w:=[59]) (fun s=>E7 hK (by decide +kernel));have bc28:=(bc27.want (E:=E) (k:=5) (w:=[59]) (by decide)).1;simp only [go_sem,seval,ne0,A0,A1];repeat' ((with_reducible first|refine wr ?_|refine k_cu ?_ ?_|refine wb2 ?_ ?_<;>(intro hb;try simp only [hb])|fail)<;>try simp only [go_sem,seval,ne0,A0,A1])
   rw [B8 (rv7 rfl A0)];refine ⟨_,_,N5 (cc:=cc) (K:=H.upd t (paB L E (D9 L E sc27 5 [59]))) (i:=c27) [xc27] (.inr ⟨rfl,rfl⟩) (.inr ⟨rfl,rfl⟩) (A9 hfr htc) (by omega) ?_ (fun j hj=>?_),.mk (2+k) (A6 L E (A8 s) 1).1.text [] [xc27] [] [] (A3 L E s).pos,(D9 L E sc27 5 [59]),by rw [Pb.St.v_w];rfl,rfl,qc28,fun k=>?_,bc28⟩
   ·rw [R1];dsimp only
    repeat (first|exact A0|rw [A2 (by omega)]|rw [C0 (by omega)])
   ·simp [Hp.upd,Hp.del,show ¬j=cc by omega,show ¬j=c1 by omega,show ¬j=c1+1 by omega,show ¬j=c27 by omega];try (split<;>rfl)
   ·rw [uc27 (A3c k)]
 by_cases k10:2+k=10
 ·rw [if_pos (by omega)] at h;cases hz29:F2 L E f (A6 L E (A8 s) 1).2 with
  | none=>rw [hz29] at h;cases h
  | some qhz29 =>
   obtain ⟨e,m2⟩:=qhz29;rw [hz29] at h;dsimp only at h;rw [if_neg (by omega)] at h;cases h;have f2:(2+k == 2)=false:=by simp;omega
   have f3:(2+k == 3)=false:=by simp;omega
   have f4:(2+k == 4)=false:=by simp;omega
   have f8:(2+k == 8)=false:=by simp;omega
   have f10:(2+k == 10)=true:=by simp;omega
   have f9:(2+k == 9)=false:=by simp;omega
   have f18:(2+k == 18)=false:=by simp;omega
   have f19:(2+k == 19)=false:=by simp;omega
   repeat' ((with_reducible first|refine wr ?_|refine k_cu ?_ ?_|refine wb2 ?_ ?_<;>(intro hb;try simp only [hb])|fail)<;>try simp only [go_sem,seval,f2,f3,f4,f8,f10,f9,f18,f19,ne0,A0,A1])
   refine AC.call (c_ptake L E (A8 s) _ _ t (by repeat (first|exact A0|rw [A2 (by omega)]|rw [C0 (by omega)])) (by omega) (by have:=hPn.i;omega) 1) ?_;rintro v H' c30 ⟨rfl,rfl⟩ hc30;obtain ⟨qc30,vc30⟩:=hqn.take (L:=L) (E:=E) (k:=1);have bc30:=(hPn.take (E:=E) (x:=1) (by decide)).1;simp only [go_sem,seval,ne0,A0,A1];repeat' ((with_reducible first|refine wr ?_|refine k_cu ?_ ?_|refine wb2 ?_ ?_<;>(intro hb;try simp only [hb])|fail)<;>try simp only [go_sem,seval,ne0,A0,A1])
   refine AC.call (c_pexpr L E hL hK f (A6 L E (A8 s) 1).2 (A6 L E (A8 s) 1).2 (e,m2) qc30 hz29 bc30.i _ _ t (by repeat (first|exact A0|rw [A2 (by omega)]|rw [C0 (by omega)])) (by omega)) ?_;rintro v H' c31 ⟨xc31,sc31,rfl,rfl,qc31,uc31,bc31⟩ hc31;dsimp only at qc31 uc31;have ne0:=O1 t cc c1 (c1+1) c31 (by omega);simp only [go_sem,seval,Ex.v_w,ne0,A0,A1];repeat' ((with_reducible first|refine wr ?_|refine k_cu ?_ ?_|refine wb2 ?_ ?_<;>(intro hb;try simp only [hb])|fail)<;>try simp only [go_sem,seval,ne0,A0,A1])
   refine AC.call (c_want L E sc31 _ _ t (by repeat (first|exact A0|rw [A2 (by omega)]|rw [C0 (by omega)])) (by omega) (by have:=bc31.i;omega) 5 [59]) ?_;rintro v H' c32 ⟨rfl,rfl⟩ hc32;have qc32:=qc31.want (L:=L) (E:=E) (k:=5) (w:=[59]) (fun s=>E7 hK (by decide +kernel));have bc32:=(bc31.want (E:=E) (k:=5) (w:=[59]) (by decide)).1;simp only [go_sem,seval,ne0,A0,A1];repeat' ((with_reducible first|refine wr ?_|refine k_cu ?_ ?_|refine wb2 ?_ ?_<;>(intro hb;try simp only [hb])|fail)<;>try simp only [go_sem,seval,ne0,A0,A1])
   rw [B8 (rv7 rfl A0)];refine ⟨_,_,N5 (cc:=cc) (K:=H.upd t (paB L E (D9 L E sc31 5 [59]))) (i:=c31) [xc31] (.inr ⟨rfl,rfl⟩) (.inr ⟨rfl,rfl⟩) (A9 hfr htc) (by omega) ?_ (fun j hj=>?_),.mk (2+k) (A6 L E (A8 s) 1).1.text [] [xc31] [] [] (A3 L E s).pos,(D9 L E sc31 5 [59]),by rw [Pb.St.v_w];rfl,rfl,qc32,fun k=>?_,bc32⟩
   ·rw [R1];dsimp only
    repeat (first|exact A0|rw [A2 (by omega)]|rw [C0 (by omega)])
   ·simp [Hp.upd,Hp.del,show ¬j=cc by omega,show ¬j=c1 by omega,show ¬j=c1+1 by omega,show ¬j=c31 by omega];try (split<;>rfl)
   ·rw [uc31 (A3c k)]
 by_cases k9:2+k=9
 ·rw [if_pos (by omega)] at h;cases hz33:F2 L E f (A6 L E (A8 s) 1).2 with
  | none=>rw [hz33] at h;cases h
  | some qhz33 =>
   obtain ⟨e,m2⟩:=qhz33;rw [hz33] at h;dsimp only at h;rw [if_pos k9] at h;cases hz34:F2 L E f (C1 L E m2 [44]) with
   | none=>rw [hz34] at h;cases h
   | some qhz34 =>
    obtain ⟨e2,m3⟩:=qhz34;rw [hz34] at h;dsimp only at h;cases h;have f2:(2+k == 2)=false:=by simp;omega
    have f3:(2+k == 3)=false:=by simp;omega
    have f4:(2+k == 4)=false:=by simp;omega
    have f8:(2+k == 8)=false:=by simp;omega
    have f10:(2+k == 10)=false:=by simp;omega
    have f9:(2+k == 9)=true:=by simp;omega
    have f18:(2+k == 18)=false:=by simp;omega
    have f19:(2+k == 19)=false:=by simp;omega
    repeat' ((with_reducible first|refine wr ?_|refine k_cu ?_ ?_|refine wb2 ?_ ?_<;>(intro hb;try simp only [hb])|fail)<;>try simp only [go_sem,seval,f2,f3,f4,f8,f10,f9,f18,f19,ne0,A0,A1])
    refine AC.call (c_ptake L E (A8 s) _ _ t (by repeat (first|exact A0|rw [A2 (by omega)]|rw [C0 (by omega)])) (by omega) (by have:=hPn.i;omega) 1) ?_;rintro v H' c35 ⟨rfl,rfl⟩ hc35;obtain ⟨qc35,vc35⟩:=hqn.take (L:=L) (E:=E) (k:=1);have bc35:=(hPn.take (E:=E) (x:=1) (by decide)).1;simp only [go_sem,seval,ne0,A0,A1];repeat' ((with_reducible first|refine wr ?_|refine k_cu ?_ ?_|refine wb2 ?_ ?_<;>(intro hb;try simp only [hb])|fail)<;>try simp only [go_sem,seval,ne0,A0,A1])
    refine AC.call (c_pexpr L E hL hK f (A6 L E (A8 s) 1).2 (A6 L E (A8 s) 1).2 (e,m2) qc35 hz33 bc35.i _ _ t (by repeat (first|exact A0|rw [A2 (by omega)]|rw [C0 (by omega)])) (by omega)) ?_;rintro v H' c36 ⟨xc36,sc36,rfl,rfl,qc36,uc36,bc36⟩ hc36;dsimp only at qc36 uc36;have ne0:=O1 t cc c1 (c1+1) c36 (by omega);simp only [go_sem,seval,Ex.v_w,ne0,A0,A1];repeat' ((with_reducible first|refine wr ?_|refine k_cu ?_ ?_|refine wb2 ?_ ?_<;>(intro hb;try simp only [hb])|fail)<;>try simp only [go_sem,seval,ne0,A0,A1])
    refine AC.call (c_want L E sc36 _ _ t (by repeat (first|exact A0|rw [A2 (by omega)]|rw [C0 (by omega)])) (by omega) (by have:=bc36.i;omega) 5 [44]) ?_;rintro v H' c37 ⟨rfl,rfl⟩ hc37;have qc37:=qc36.want (L:=L) (E:=E) (k:=5) (w:=[44]) (fun s=>E7 hK (by decide +kernel));have bc37:=(bc36.want (E:=E) (k:=5) (w:=[44]) (by decide)).1;simp only [go_sem,seval,ne0,A0,A1];repeat' ((with_reducible first|refine wr ?_|refine k_cu ?_ ?_|refine wb2 ?_ ?_<;>(intro hb;try simp only [hb])|fail)<;>try simp only [go_sem,seval,ne0,A0,A1])
    refine AC.call (c_pexpr L E hL hK f (D9 L E sc36 5 [44]) (C1 L E m2 [44]) (e2,m3) qc37 hz34 bc37.i _ _ t (by repeat (first|exact A0|rw [A2 (by omega)]|rw [C0 (by omega)])) (by omega)) ?_;rintro v H' c38 ⟨xc38,sc38,rfl,rfl,qc38,uc38,bc38⟩ hc38;dsimp only at qc38 uc38;have ne0:=nes6 t cc c1 (c1+1) c36 (c37+4) (by omega);simp only [go_sem,seval,Ex.v_w,ne0,A0,A1];repeat' ((with_reducible first|refine wr ?_|refine k_cu ?_ ?_|refine wb2 ?_ ?_<;>(intro hb;try simp only [hb])|fail)<;>try simp only [go_sem,seval,ne0,A0,A1])
    refine ⟨?_,?_⟩
    ·and_intros
     all_goals ((repeat rw [A2 (by omega)]);exact hfr _ (by omega))
    have ne0:=nes7 t cc c1 (c1+1) c36 (c37+4) c38 (by omega);try simp only [go_sem,seval,R2,C0,S3,ne0,A0,A1]
    repeat' ((with_reducible first|refine wr ?_|refine k_cu ?_ ?_|refine wb2 ?_ ?_<;>(intro hb;try simp only [hb])|fail)<;>try simp only [go_sem,seval,R2,C0,S3,ne0,A0,A1])
    refine N1 (E0 (by rfl) (by omega) (by omega)) ?_;try simp only [go_sem,seval,C0,S3,ne0,A0,A1]
    repeat' ((with_reducible first|refine wr ?_|refine k_cu ?_ ?_|refine wb2 ?_ ?_<;>(intro hb;try simp only [hb])|fail)<;>try simp only [go_sem,seval,C0,S3,ne0,A0,A1])
    refine AC.call (c_want L E sc38 _ _ t (by repeat (first|exact A0|rw [A2 (by omega)]|rw [C0 (by omega)])) (by omega) (by have:=bc38.i;omega) 5 [59]) ?_;rintro v H' c39 ⟨rfl,rfl⟩ hc39;have qc39:=qc38.want (L:=L) (E:=E) (k:=5) (w:=[59]) (fun s=>E7 hK (by decide +kernel));have bc39:=(bc38.want (E:=E) (k:=5) (w:=[59]) (by decide)).1;simp only [go_sem,seval,ne0,A0,A1];repeat' ((with_reducible first|refine wr ?_|refine k_cu ?_ ?_|refine wb2 ?_ ?_<;>(intro hb;try simp only [hb])|fail)<;>try simp only [go_sem,seval,ne0,A0,A1])
    rw [B8 (rv7 rfl A0)];refine ⟨_,_,N5 (cc:=cc) (K:=H.upd t (paB L E (D9 L E sc38 5 [59]))) (i:=c38) [xc36,xc38] (.inr ⟨rfl,rfl⟩) (.inr ⟨rfl,rfl⟩) (A9 hfr htc) (by omega) ?_ (fun j hj=>?_),.mk (2+k) (A6 L E (A8 s) 1).1.text [] [xc36,xc38] [] [] (A3 L E s).pos,(D9 L E sc38 5 [59]),by rw [Pb.St.v_w];rfl,rfl,qc39,fun k=>?_,bc39⟩
    ·rw [A7b];dsimp only
     repeat (first|exact A0|rw [A2 (by omega)]|rw [C0 (by omega)])
    ·simp [Hp.upd,Hp.del,show ¬j=cc by omega,show ¬j=c1 by omega,show ¬j=c1+1 by omega,show ¬j=c36 by omega,show ¬j=c37+4 by omega,show ¬j=c38 by omega];try (split<;>rfl)
    ·have k2:=A3c k;have k3:=A3c (expn_m hz34 k2);rw [uc38 k2,uc36 k3]
 rw [if_neg (by omega)] at h;cases h;have f2:(2+k == 2)=false:=by simp;omega
 have f3:(2+k == 3)=false:=by simp;omega
 have f4:(2+k == 4)=false:=by simp;omega
 have f8:(2+k == 8)=false:=by simp;omega
 have f10:(2+k == 10)=false:=by simp;omega
 have f9:(2+k == 9)=false:=by simp;omega
 have f18:(2+k == 18)=false:=by simp;omega
 have f19:(2+k == 19)=false:=by simp;omega
 repeat' ((with_reducible first|refine wr ?_|refine k_cu ?_ ?_|refine wb2 ?_ ?_<;>(intro hb;try simp only [hb])|fail)<;>try simp only [go_sem,seval,f2,f3,f4,f8,f10,f9,f18,f19,ne0,A0,A1])
 refine AC.call (c_ptake L E (A8 s) _ _ t (by repeat (first|exact A0|rw [A2 (by omega)]|rw [C0 (by omega)])) (by omega) (by have:=hPn.i;omega) 1) ?_;rintro v H' c40 ⟨rfl,rfl⟩ hc40;obtain ⟨qc40,vc40⟩:=hqn.take (L:=L) (E:=E) (k:=1);have bc40:=(hPn.take (E:=E) (x:=1) (by decide)).1;simp only [go_sem,seval,ne0,A0,A1];repeat' ((with_reducible first|refine wr ?_|refine k_cu ?_ ?_|refine wb2 ?_ ?_<;>(intro hb;try simp only [hb])|fail)<;>try simp only [go_sem,seval,ne0,A0,A1])
 refine AC.call (c_want L E (A6 L E (A8 s) 1).2 _ _ t (by repeat (first|exact A0|rw [A2 (by omega)]|rw [C0 (by omega)])) (by omega) (by have:=bc40.i;omega) 5 [59]) ?_;rintro v H' c41 ⟨rfl,rfl⟩ hc41;have qc41:=qc40.want (L:=L) (E:=E) (k:=5) (w:=[59]) (fun s=>E7 hK (by decide +kernel));have bc41:=(bc40.want (E:=E) (k:=5) (w:=[59]) (by decide)).1;simp only [go_sem,seval,ne0,A0,A1];repeat' ((with_reducible first|refine wr ?_|refine k_cu ?_ ?_|refine wb2 ?_ ?_<;>(intro hb;try simp only [hb])|fail)<;>try simp only [go_sem,seval,ne0,A0,A1])
 rw [B8 (rv7 rfl A0)];refine ⟨_,_,gl_st (cc:=cc) (K:=H.upd t (paB L E (D9 L E (A6 L E (A8 s) 1).2 5 [59]))) (.inr ⟨rfl,rfl⟩) (.inr ⟨rfl,rfl⟩) (.inr ⟨rfl,rfl⟩) (A9 hfr htc) (fun j hj=>?_),.mk (2+k) (A6 L E (A8 s) 1).1.text [] [] [] [] (A3 L E s).pos,(D9 L E (A6 L E (A8 s) 1).2 5 [59]),by rw [Pb.St.v_w];rfl,rfl,qc41,fun k=>?_,bc41⟩
 ·simp [Hp.upd,Hp.del,show ¬j=cc by omega,show ¬j=c1 by omega,show ¬j=c1+1 by omega];try (split<;>rfl)
 ·rfl
theorem c_pother (L:List Tok) (E:Int) (hL:L.length<=1000000000) (hK:∀ t∈L,F9 t) (f:Nat)
  (ib:∀ g,g<f->∀ d s m r,0<=d->d<=9->Eqv s m->E9 L E g d m=some r->PI L s->PlC L E 198 [I64 d] s r)
  (is:∀ g,g<f->∀ d s r,0<=d->d<=8->A5r L E s=true->G5 L E g d s=some r->PI L s->PsC L E 211 [I64 d] s r)
  (d:Int) (s m:Rd) (r:List Pb.St × Rd) (hd0:0<=d) (hd:d<=8) (hq:Eqv s m) (h:elsM L E f d m=some r) (hP:PI L s):PlC L E 222 [I64 (d+1)] s r:=by
 intro H cc t ht htc;have hri:=hP.i;refine AC.bodyT A7 rfl (Nat.le_of_ble_eq_true rfl) fun hfr=>?_;have hio:=c_pisO L E s H (cc+1) t cc (hfr _ (Nat.le_refl _)) ht (by omega) 2 [[101,108,115,101]] (by simp);unfold elsM at h;rw [R0 hK (by decide +kernel), <- hq.isP] at h;repeat' ((with_reducible first|refine wr ?_|refine k_cu ?_ ?_|refine wb2 ?_ ?_<;>(intro hb;try simp only [hb])|fail)<;>try simp only [go_sem,seval])
 refine AC.call hio ?_;rintro v H c1 ⟨rfl,rfl⟩ hc1;cases he:isP L E s 2 [[101,108,115,101]] with
 | false =>
  rw [he,if_neg (by decide)] at h;cases h;simp only [go_sem,seval,he];repeat' ((with_reducible first|refine wr ?_|refine k_cu ?_ ?_|refine wb2 ?_ ?_<;>(intro hb;try simp only [hb])|fail)<;>try simp only [go_sem,seval,he])
  exact ⟨_,_,GL.view fun ρ vs hA=>K4 (fun v h=>h.snil_lst) vs hA,[],s,rfl,(upd_same ht).symm,hq,fun _=>rfl,hP⟩
 | true =>
  obtain ⟨ho,hlt, -⟩:=P1 (by decide) he;obtain rfl:s=m:=hq.s (by rw [<- hq.ok,ho]);rw [he,if_pos rfl] at h;have hP1:=hP.nxt hlt;have hw1:IntKind.i64.wrap ((s.i:Int)+1)=((s.i+1:Nat):Int):=by rw [w64 (by omega) (by omega)];omega
  have hio2:=c_pisO L E (A8 s) (H.upd t (paB L E (A8 s))) (c1+1) t c1 (by rw [A2 (by omega)];exact hfr _ (by omega)) A0 (by omega) 2 [[105,102]] (by simp);cases f with
  | zero=>simp [K9] at h
  | succ f =>
  unfold K9 at h;rw [R0 hK (by decide +kernel)] at h;simp only [go_sem,seval,he];repeat' ((with_reducible first|refine wr ?_|refine k_cu ?_ ?_|refine wb2 ?_ ?_<;>(intro hb;try simp only [hb])|fail)<;>try simp only [go_sem,seval,he,ht,hw1,A0,A1])
  refine AC.call hio2 ?_;rintro v H' c2 ⟨rfl,rfl⟩ hc2;cases hf:isP L E (A8 s) 2 [[105,102]] with
  | false =>
   rw [hf,if_neg (by decide)] at h;simp only [go_sem,seval,hf];repeat' ((with_reducible first|refine wr ?_|refine k_cu ?_ ?_|refine wb2 ?_ ?_<;>(intro hb;try simp only [hb])|fail)<;>try simp only [go_sem,seval,hf])
   refine AC.call (ib f (by omega) (d+1) _ _ r (by omega) (by omega) (.refl _) h hP1 _ _ t A0 (by omega)) ?_;rintro v H' c3 ⟨x,s3,rfl,rfl,q1,q2,q3⟩ hc3;simp only [go_sem,seval,A1];repeat' ((with_reducible first|refine wr ?_|refine k_cu ?_ ?_|refine wb2 ?_ ?_<;>(intro hb;try simp only [hb])|fail)<;>try simp only [go_sem,seval,A1])
   exact ⟨_,_,GL.refl _ _,x,s3,rfl,rfl,q1,q2,q3⟩
  | true =>
   rw [hf,if_pos rfl] at h;cases hs:G5 L E f (d+1) (A8 s) with
   | none=>rw [hs] at h;cases h
   | some q =>
   obtain ⟨x0,m3⟩:=q;rw [hs] at h;cases h;by_cases h8:d+1>8
   ·have hd8:decide (d+1>8)=true:=by simpa using h8
    have hm3:okR m3=false/\Eqv (pfl L E (A8 s) 50) m3:=by
     cases f with
     | zero=>simp [G5] at hs
     | succ f =>
      unfold G5 at hs;dsimp only at hs;have hl:B7 L E (A8 s) (d+1) 8 50=pfl L E (A8 s) 50:=by rw [S1,if_pos h8]
      have hnk:okR (pfl L E (A8 s) 50)=false:=by unfold pfl;exact N0 (by decide)
      rw [hl,if_pos hnk] at hs;cases hs;exact ⟨hnk,.refl _⟩
    simp only [go_sem,seval,hf];repeat' ((with_reducible first|refine wr ?_|refine k_cu ?_ ?_|refine wb2 ?_ ?_<;>(intro hb;try simp only [hb])|fail)<;>try simp only [go_sem,seval,hf,hd8])
    refine AC.call (c_pfail L E (A8 s) _ _ t A0 (by omega) 50) ?_;rintro v H' c3 ⟨rfl,rfl⟩ hc3;simp only [go_sem,seval,A1];repeat' ((with_reducible first|refine wr ?_|refine k_cu ?_ ?_|refine wb2 ?_ ?_<;>(intro hb;try simp only [hb])|fail)<;>try simp only [go_sem,seval,A1])
    exact ⟨_,_,GL.view fun ρ vs hA=>K4 (fun v h=>h.snil_lst) vs hA,[],_,rfl,rfl,hm3.2,fun k=>(by simp [hm3.1] at k),hP1.fl⟩
   ·have hd8:decide (d+1>8)=false:=by simpa using h8
    have hbg:A5r L E (A8 s)=true:=by
     obtain ⟨g1,g2,g3⟩:=P1 (by decide) hf;unfold A5r;rw [g1,g3,isP_tx hf];decide +kernel
    simp only [go_sem,seval,hf];repeat' ((with_reducible first|refine wr ?_|refine k_cu ?_ ?_|refine wb2 ?_ ?_<;>(intro hb;try simp only [hb])|fail)<;>try simp only [go_sem,seval,hf,hd8])
    refine AC.call (is f (by omega) (d+1) (A8 s) _ (by omega) (by omega) hbg hs hP1 _ _ t A0 (by omega)) ?_;rintro v H' c3 ⟨x,s3,rfl,rfl,q1,q2,q3⟩ hc3;simp only [go_sem,seval,A1,Pb.St.v_w];repeat' ((with_reducible first|refine wr ?_|refine k_cu ?_ ?_|refine wb2 ?_ ?_<;>(intro hb;try simp only [hb])|fail)<;>try simp only [go_sem,seval,A1])
    refine ⟨_,_,gl_frS (cc:=cc) (K:=H.upd t (paB L E s3)) [x] (A9 hfr htc) (by omega) (by rw [st_c1];exact A0) (fun j hj=>by rw [A2 (by omega)]),[x],s3,rfl,rfl,q1,fun k=>(by rw [q2 k]),q3⟩
theorem c_pblock (L:List Tok) (E:Int) (hL:L.length<=1000000000) (hK:∀ t∈L,F9 t) (f:Nat)
  (is:∀ g,g<=f->∀ d s r,0<=d->d<=8->A5r L E s=true->G5 L E g d s=some r->PI L s->PsC L E 211 [I64 d] s r)
  (d:Int) (s m:Rd) (r:List Pb.St × Rd) (hd0:0<=d) (hd:d<=9) (hq:Eqv s m) (h:E9 L E (f+1) d m=some r) (hP:PI L s):PlC L E 198 [I64 d] s r:=by
 intro H cc t ht htc;have hri:=hP.i;refine AC.bodyT A7 rfl (Nat.le_of_ble_eq_true rfl) fun hfr=>?_;unfold E9 at h;repeat' ((with_reducible first|refine wr ?_|refine k_cu ?_ ?_|refine wb2 ?_ ?_<;>(intro hb;try simp only [hb])|fail)<;>try simp only [go_sem,seval])
 refine AC.call (c_want L E s _ _ t ht (by omega) (by omega) 5 [123]) ?_;rintro v H' c1 ⟨rfl,rfl⟩ hc1;have q0:=hq.want (L:=L) (E:=E) (k:=5) (w:=[123]) (fun s=>E7 hK (by decide +kernel));have b0:=(hP.want (E:=E) (k:=5) (w:=[123]) (by decide)).1;simp only [go_sem,seval];repeat' ((with_reducible first|refine wr ?_|refine k_cu ?_ ?_|refine wb2 ?_ ?_<;>(intro hb;try simp only [hb])|fail)<;>try simp only [go_sem,seval])
 refine D5 (fun q:Nat × List Pb.St × Rd × Option Nat × List Pb.St × Rd=>[(0,.ptr t 0),(1,I64 d),(5,B3 q.2.2.2.1 q.2.2.2.2.1.length)]) (fun q=>C3 (H.upd t (paB L E q.2.2.2.2.2)) q.2.2.2.1 ⟨7,true,A4 (q.2.2.2.2.1.map Pb.St.v)⟩)
  (fun q c=>cc<=c/\q.1<=f/\(q.2.2.2.1=none->q.2.2.2.2.1=[])/\(∀ i,q.2.2.2.1=some i->cc<=i/\i<c)/\q.2.2.2.2.1.length<=64/\J0 L E q.1 d q.2.1 q.2.2.1=some r/\Eqv q.2.2.2.2.2 q.2.2.1/\(okR q.2.2.1=true->q.2.2.2.2.1=q.2.1)/\PI L q.2.2.2.2.2) (fun q=>q.1) (f,[],C1 L E m [123],none,[],D9 L E s 5 [123])
  (by simp [D0,tm,Tm.upd,B3]) (Sub.refl _) ⟨hc1,Nat.le_refl _,fun _=>rfl,(fun i hi=>by cases hi),by simp,h,q0,fun _=>rfl,b0⟩ ?_
 clear h q0 b0 hri;rintro ⟨g,l,m,o,xs,u⟩ c ⟨hc,hg,hno,ho,hl1,hv,hq,hxs,hP⟩;dsimp only at hc hg hno ho hl1 hv hq hxs hP ⊢;have hri:=hP.i;have hHt:C3 (H.upd t (paB L E u)) o ⟨7,true,A4 (xs.map Pb.St.v)⟩ t=some (paB L E u):=by rw [C6 (fun i hi=>by have:=ho i hi;omega),A0]
 have hfin:∀ (z:Rd) (j:Nat),j<cc->((C3 (H.upd t (paB L E u)) o ⟨7,true,A4 (xs.map Pb.St.v)⟩).upd t (paB L E z)) j=(H.upd t (paB L E z)) j:=fun z j hj=>by
  by_cases ej:j=t
  ·subst ej;rw [A0,A0]
  ·rw [A2 ej,A2 ej,C6 (fun i hi=>by have:=ho i hi;omega),A2 ej]
 have hbo:∀ (z:Rd) (i:Nat),o=some i->((C3 (H.upd t (paB L E u)) o ⟨7,true,A4 (xs.map Pb.St.v)⟩).upd t (paB L E z)) i=some ⟨7,true,A4 (xs.map Pb.St.v)⟩:=fun z i hi=>by
  have:=ho i hi;rw [A2 (by omega)];subst hi;exact A0
 have hsub:∀ z,Sub (C3 (H.upd t (paB L E z)) o ⟨7,true,A4 (xs.map Pb.St.v)⟩) ((C3 (H.upd t (paB L E u)) o ⟨7,true,A4 (xs.map Pb.St.v)⟩).upd t (paB L E z)):=fun z j b hj=>by
  by_cases e:j=t
  ·subst e;rw [C6 (fun i hi=>by have:=ho i hi;omega),A0] at hj;rw [A0];exact hj
  ·rw [A2 e];cases o with
   | none=>simp only [C3] at hj ⊢;rw [A2 e] at hj ⊢;exact hj
   | some i =>
    simp only [C3] at hj ⊢;by_cases e2:j=i
    ·subst e2;rw [A0] at hj ⊢;exact hj
    ·rw [A2 e2,A2 e] at hj ⊢;exact hj
 cases g with
 | zero=>simp [J0] at hv
 | succ g =>
 unfold J0 at hv;repeat' ((with_reducible first|refine wr ?_|refine k_cu ?_ ?_|refine wb2 ?_ ?_<;>(intro hb;try simp only [hb])|fail)<;>try simp only [go_sem,seval])
 refine AC.call (c_begins L E u _ _ t hHt (by omega)) ?_;rintro v H' c2 ⟨rfl,rfl⟩ hc2;have hba:=beg_amg (E:=E) hK (s:=u);cases hb:A5r L E u with
 | false =>
  have hres:Eqv (D9 L E u 5 [125]) r.2/\(okR r.2=true->xs=r.1):=by
   by_cases h1:okR m=true/\isR L E m [125]=false
   ·rw [if_pos h1] at hv;obtain rfl:=hq.s h1.1;have hn:¬ (0<=B4 L E u B6\/F5 L E u 1=true):=fun hh=>by
     have:=hba.2 ⟨h1.1,hh⟩;rw [hb] at this;cases this
    rw [if_pos ⟨by omega,by cases hk:F5 L E u 1 with|false=>rfl|true=>exact absurd (.inr hk) hn⟩] at hv;cases hv;have hw:D9 L E u 5 [125]=J2 L E u:=by
     rw [D9, <- E7 hK (by decide +kernel),if_pos h1.2];rfl
    rw [hw];exact ⟨.refl _,fun k=>(by rw [A2c] at k;cases k)⟩
   ·rw [if_neg h1] at hv;cases hv;exact ⟨hq.want (fun s=>E7 hK (by decide +kernel)),fun k=>hxs (A3c k)⟩
  have b1:=(hP.want (E:=E) (k:=5) (w:=[125]) (by decide)).1;simp only [go_sem,seval,hb];repeat' ((with_reducible first|refine wr ?_|refine k_cu ?_ ?_|refine wb2 ?_ ?_<;>(intro hb;try simp only [hb])|fail)<;>try simp only [go_sem,seval,hb])
  refine AC.call (c_want L E u _ _ t hHt (by omega) (by omega) 5 [125]) ?_;rintro v H' c3 ⟨rfl,rfl⟩ hc3;simp only [go_sem,seval];repeat' ((with_reducible first|refine wr ?_|refine k_cu ?_ ?_|refine wb2 ?_ ?_<;>(intro hb;try simp only [hb])|fail)<;>try simp only [go_sem,seval])
  exact ⟨_,_,A5g (cc:=cc) xs (A9 hfr htc) (fun i hi=>(ho i hi).1) hno (hbo _) (hfin _),xs,_,rfl,rfl,hres.1,hres.2,b1⟩
 | true =>
  obtain ⟨hok,hbk⟩:=hba.1 hb;obtain rfl:u=m:=hq.s (by rw [<- hq.ok,hok]);obtain rfl:xs=l:=hxs hok;have hnb:isR L E u [125]=false:=by
   rw [E7 hK (by decide +kernel)];have hk5:((A3 L E u).kind == 5)=false:=by
    rcases hbk with hk|hk
    ·have:=((stm_lk (E:=E) hK hok).1 hk).1;simp [this]
    ·have:=(K6 hk).2;simp [this]
   unfold isP;rw [hok,hk5];rfl
  rw [if_pos ⟨hok,hnb⟩,if_neg (fun hh=>by
   rcases hbk with hk|hk
   ·omega
   ·rw [hh.2] at hk;cases hk)] at hv
  have hlen:A2k (B3 o xs.length)=some (I64 xs.length):=by
   cases o with
   | none=>rw [hno rfl];rfl
   | some b=>rfl
  cases hs:G5 L E g d (B7 L E u ((xs.length:Int)+1) 64 9) with
  | none=>rw [hs] at hv;cases hv
  | some q =>
  obtain ⟨x0,m1⟩:=q;rw [hs] at hv;dsimp only at hv;by_cases h64:xs.length=64
  ·have hd64:((xs.length:Int) == 64)=true:=by simp;omega
   have hl:B7 L E u ((xs.length:Int)+1) 64 9=pfl L E u 9:=by rw [S1,if_pos (by omega)]
   have hnk:okR (pfl L E u 9)=false:=by unfold pfl;exact N0 (by decide)
   rw [hl] at hs;cases st_nok2 hs hnk;simp only [go_sem,seval,hb];repeat' ((with_reducible first|refine wr ?_|refine k_cu ?_ ?_|refine wb2 ?_ ?_<;>(intro hb;try simp only [hb])|fail)<;>try simp only [go_sem,seval,hb,hlen,hd64])
   refine AC.call (c_pfail L E u _ _ t hHt (by omega) 9) ?_;rintro v H' c3 ⟨rfl,rfl⟩ hc3;simp only [go_sem,seval];repeat' ((with_reducible first|refine wr ?_|refine k_cu ?_ ?_|refine wb2 ?_ ?_<;>(intro hb;try simp only [hb])|fail)<;>try simp only [go_sem,seval])
   refine ⟨(g,xs++[St0],pfl L E u 9,o,xs,pfl L E u 9),by simp [D0,tm,Tm.upd],?_,inv ⟨by omega,by simp only;omega,hno,(fun i hi=>⟨(ho i hi).1,by have:=(ho i hi).2;omega⟩),hl1,hv,.refl _,fun k=>(by rw [hnk] at k;cases k),hP.fl⟩,by simp only;omega⟩;exact hsub _
  have hd64:((xs.length:Int) == 64)=false:=by simp;omega
  rw [U9 (by omega)] at hs;by_cases h8:d>8
  ·have hd8:decide (d>8)=true:=by simpa using h8
   have hnk:okR (pfl L E u 50)=false:=by unfold pfl;exact N0 (by decide)
   have hm1:m1=pfl L E u 50:=by
    cases g with
    | zero=>simp [G5] at hs
    | succ g =>
     unfold G5 at hs;dsimp only at hs;have hl:B7 L E u d 8 50=pfl L E u 50:=by rw [S1,if_pos h8]
     rw [hl,if_pos hnk] at hs;cases hs;rfl
   subst hm1;simp only [go_sem,seval,hb];repeat' ((with_reducible first|refine wr ?_|refine k_cu ?_ ?_|refine wb2 ?_ ?_<;>(intro hb;try simp only [hb])|fail)<;>try simp only [go_sem,seval,hb,hlen,hd64,hd8])
   refine AC.call (c_pfail L E u _ _ t hHt (by omega) 50) ?_;rintro v H' c3 ⟨rfl,rfl⟩ hc3;simp only [go_sem,seval];repeat' ((with_reducible first|refine wr ?_|refine k_cu ?_ ?_|refine wb2 ?_ ?_<;>(intro hb;try simp only [hb])|fail)<;>try simp only [go_sem,seval])
   refine ⟨(g,xs++[x0],pfl L E u 50,o,xs,pfl L E u 50),by simp [D0,tm,Tm.upd],?_,inv ⟨by omega,by simp only;omega,hno,(fun i hi=>⟨(ho i hi).1,by have:=(ho i hi).2;omega⟩),hl1,hv,.refl _,fun k=>(by rw [hnk] at k;cases k),hP.fl⟩,by simp only;omega⟩;exact hsub _
  have hd8:decide (d>8)=false:=by simpa using h8
  simp only [go_sem,seval,hb];repeat' ((with_reducible first|refine wr ?_|refine k_cu ?_ ?_|refine wb2 ?_ ?_<;>(intro hb;try simp only [hb])|fail)<;>try simp only [go_sem,seval,hb,hlen,hd64,hd8])
  refine AC.call (is g (by omega) d u _ hd0 (by omega) hb hs hP _ _ t hHt (by omega)) ?_;rintro v H' c3 ⟨x,s3,rfl,rfl,q1,q2,q3⟩ hc3;dsimp only at q1 q2;have ne0:=K0 t c3 (c3+1) (by omega);simp only [go_sem,seval,ne0,A1,Pb.St.v_w];repeat' ((with_reducible first|refine wr ?_|refine k_cu ?_ ?_|refine wb2 ?_ ?_<;>(intro hb;try simp only [hb])|fail)<;>try simp only [go_sem,seval,ne0])
  refine D1 (F4 (cs:=A4 (xs.map Pb.St.v)) (fun e=>by rw [hno e];exact ⟨rfl,rfl⟩) (fun i hi=>?_) (by rw [C7 (u:=7) (A7q _)];simp) (by omega) (by omega) (by omega)) ?_
  ·have:=ho i hi;rw [A2 (by omega)];exact hbo _ i hi
  simp only [go_sem,seval,ne0];repeat' ((with_reducible first|refine wr ?_|refine k_cu ?_ ?_|refine wb2 ?_ ?_<;>(intro hb;try simp only [hb])|fail)<;>try simp only [go_sem,seval,ne0])
  refine ⟨(g,xs++[x0],m1,some (c3+1),xs++[x],s3),by simp only [List.length_append,List.length_singleton];rfl,?_,inv ⟨by omega,by simp only;omega,(fun h=>by cases h),(fun i hi=>by cases hi;omega),by simp only [List.length_append,List.length_singleton];omega,hv,q1,fun k=>(by simp only [q2 k]),q3⟩,by simp only;omega⟩;intro jj b hj;simp only [C3] at hj;by_cases e1:jj=c3+1
  ·subst e1;rw [A0] at hj ⊢;rw [<- hj,List.map_append,E3,st_c1]
  ·rw [A2 e1] at hj ⊢;by_cases e2:jj=t
   ·subst e2;rw [A0] at hj;rw [D4 (fun i hi=>by have:=ho i hi;omega),A2 (by omega),A0];exact hj
   ·rw [A2 e2] at hj;have hjc:jj<cc:=Classical.byContradiction fun h=>by rw [hfr jj (by omega)] at hj;cases hj
    rw [D4 (fun i hi=>by have:=ho i hi;omega),A2 (by omega),A2 e2,C6 (fun i hi=>by have:=ho i hi;omega),A2 e2];exact hj
theorem c_pst (L:List Tok) (E:Int) (hL:L.length<=1000000000) (hK:∀ t∈L,F9 t):∀ f:Nat,
  (∀ d s m r,0<=d->d<=9->Eqv s m->E9 L E f d m=some r->PI L s->PlC L E 198 [I64 d] s r) /\
  (∀ d s r,0<=d->d<=8->A5r L E s=true->G5 L E f d s=some r->PI L s->PsC L E 211 [I64 d] s r):=by
 intro f
 induction f using Nat.strongRecOn with
 | _ f ih =>
  cases f with
  | zero=>exact ⟨fun d s m r _ _ _ h=>by simp [E9] at h,fun d s r _ _ _ h=>by simp [G5] at h⟩
  | succ f =>
   exact ⟨fun d s m r h1 h2 hq h hP=>c_pblock L E hL hK f (fun g hg=>(ih g (by omega)).2) d s m r h1 h2 hq h hP,
    fun d s r h1 h2 hb h hP=>c_pstmt L E hL hK f (ih f (by omega)).1 (fun d s m r h1 h2 hq h hP=>c_pother L E hL hK f (fun g hg=>(ih g (by omega)).1) (fun g hg=>(ih g (by omega)).2) d s m r h1 h2 hq h hP) d s r h1 h2 hb h hP⟩
end Go.Proofs.YthlpinppaclofaaGreatDoor
set_option maxHeartbeats 4000000
namespace Go.Proofs.YthlpinppaclofaaGreatDoor
open Go.Eng (IC IOper DReg IFn B5)
open Go.Sym Go.Pb
theorem c_stm (L:List Tok) (E:Int) (hL:L.length<=1000000000):∀ f:Nat,
  (∀ d s r,0<=d->d<=100->G5 L E f d s=some r->s.i<=L.length->RdC L E 176 [I64 d] s (r.1.v,r.2)) /\
  (∀ d s r,0<=d->d<=100->E9 L E f d s=some r->s.i<=L.length->RdC L E 141 [I64 d] s (F7 r.1,r.2)) /\
  (∀ d s r,0<=d->d<=99->K9 L E f d s=some r->s.i<=L.length->RdC L E 199 [I64 d] s (F7 r.1,r.2)):=by
 intro f
 induction f using Nat.strongRecOn with
 | _ f ih =>
  cases f with
  | zero=>exact ⟨fun d s r _ _ h=>by simp [G5] at h,fun d s r _ _ h=>by simp [E9] at h,fun d s r _ _ h=>by simp [K9] at h⟩
  | succ f =>
   have i0:=ih f (by omega);exact ⟨fun d s r h1 h2 h hi=>c_statement L E hL f i0.2.1 i0.2.2 d s r h1 h2 h hi,
    fun d s r h1 h2 h hi=>c_block L E hL f (fun g hg=>(ih g (by omega)).1) d s r h1 h2 h hi,
    fun d s r h1 h2 h hi=>c_other L E hL f i0.1 i0.2.1 d s r h1 h2 h hi⟩
theorem c_declaration (L:List Tok) (E:Int) (s:Rd) (H:Hp) (cc t:Nat) (ht:H t=some (rdR L E s)) (htc:t<cc) (hL:L.length<=1000000000) (hv:∀ x∈L,0<=x.value/\x.value<=9223372036854775807) (k:Int) (hk0:0<=k) (hk:k<8) (hi:s.i<L.length):AC Tryz.prog 87 [.ptr t 0,I64 k] H cc (fun v H' c'=>v=(S4 L E k s).1.v/\H'=H.upd t (rdR L E (S4 L E k s).2)):=by
 refine AC.bodyT A7 rfl (Nat.le_of_ble_eq_true rfl) fun hfr=>?_;have hwk:IntKind.i64.wrap (1+k)=1+k:=w64 (by omega) (by omega);have hw:IntKind.i64.wrap ((s.i:Int)+1)=((s.i+1:Nat):Int):=by rw [w64 (by omega) (by omega)];omega
 have hn:(A8 s).i<=L.length:=hi;have hti:=G7 (E:=E) (x:=1) (by decide) hn;repeat' ((with_reducible first|refine wr ?_|refine k_cu ?_ ?_|refine wb2 ?_ ?_<;>(intro hb;try simp only [hb])|fail)<;>try simp only [go_sem,seval])
 refine AC.call (c_peek L E s _ _ t (by rw [A2 (by omega)];exact ht) (by omega)) ?_;rintro v H' c1 ⟨rfl,rfl⟩ hc1;have ne0:=K0 t cc c1 (by omega);simp only [go_sem,seval,ne0,hwk];repeat' ((with_reducible first|refine wr ?_|refine k_cu ?_ ?_|refine wb2 ?_ ?_<;>(intro hb;try simp only [hb])|fail)<;>try simp only [go_sem,seval,ht,hw,hwk,ne0,A0,A1])
 refine AC.call (c_name L E (A8 s) _ _ t (by repeat (first|exact A0|rw [A2 (by omega)])) (by omega) (by omega)) ?_;rintro v H' c2 ⟨rfl,rfl⟩ hc2;have hval:∀ z,0<=(A6 L E z 3).1.value/\(A6 L E z 3).1.value<=9223372036854775807:=fun z=>by
  unfold A6;split
  ·exact ⟨Int.le_refl 0,(by decide:(0:Int)<=9223372036854775807)⟩
  ·show 0<=(A3 L E z).value/\(A3 L E z).value<=9223372036854775807;unfold A3;rw [List.getD_eq_getElem?_getD];cases hg:L[z.i]? with
   | none=>exact ⟨Int.le_refl 0,(by decide:(0:Int)<=9223372036854775807)⟩
   | some x=>exact hv x (List.mem_of_getElem? hg)
 obtain ⟨D,hD⟩:∃ D,D=S4 L E k s:=⟨_,rfl⟩;rw [<- hD];unfold S4 at hD;dsimp only at hD;generalize (A3 L E s).pos=p at hD ⊢;generalize (A6 L E (A8 s) 1).1.text=n at hD ⊢;generalize (A6 L E (A8 s) 1).2=s2 at hD hti ⊢;by_cases h6:k+1<=6
 ·rw [if_pos h6] at hD;have hd6:decide (1+k<=6)=true:=by simp;omega
  have hw2:IntKind.i64.wrap ((s2.i:Int)+1)=((s2.i+1:Nat):Int):=by rw [w64 (by omega) (by omega)];omega
  by_cases h5:k=5
  ·subst h5;simp only [go_sem,seval,hd6,ne0,A0,A1];repeat' ((with_reducible first|refine wr ?_|refine k_cu ?_ ?_|refine wb2 ?_ ?_<;>(intro hb;try simp only [hb])|fail)<;>try simp only [go_sem,seval,hd6,ne0,A0,A1])
   refine AC.call (c_is L E s2 _ _ t (by repeat (first|exact A0|rw [A2 (by omega)])) (by omega) _) ?_;rintro v H' c3 ⟨rfl,rfl⟩ hc3;cases hq:isR L E s2 [45] with
   | true =>
    rw [hq] at hD;have hn2:(A8 s2).i<=L.length:=(W0 hq).2;have hv2:=hval (A8 s2);have hneg:IntKind.i64.wrap (0-(A6 L E (A8 s2) 3).1.value) = -(A6 L E (A8 s2) 3).1.value:=by rw [w64 (by omega) (by omega)];omega
    simp only [go_sem,seval,hq,hw2,ne0,A0,A1];repeat' ((with_reducible first|refine wr ?_|refine k_cu ?_ ?_|refine wb2 ?_ ?_<;>(intro hb;try simp only [hb])|fail)<;>try simp only [go_sem,seval,hw2,ne0,A0,A1])
    have h4i:=G7 (E:=E) (x:=3) (by decide) hn2;subst hD;refine AC.call (c_take L E (A8 s2) _ _ t (by repeat (first|exact A0|rw [A2 (by omega)])) (by omega) (by omega) 3) ?_;rintro v H' c4 ⟨rfl,rfl⟩ hc4;try dsimp only
    simp only [go_sem,seval,hneg,ne0,A0,A1];repeat' ((with_reducible first|refine wr ?_|refine k_cu ?_ ?_|refine wb2 ?_ ?_<;>(intro hb;try simp only [hb])|fail)<;>try simp only [go_sem,seval,hneg,ne0,A0,A1])
    refine AC.call (c_expect L E (A6 L E (A8 s2) 3).2 _ _ t (by repeat (first|exact A0|rw [A2 (by omega)])) (by omega) (by omega) _) ?_;rintro v H' c9 ⟨rfl,rfl⟩ hc9;simp only [go_sem,seval,ne0,A0,A1];repeat' ((with_reducible first|refine wr ?_|refine k_cu ?_ ?_|refine wb2 ?_ ?_<;>(intro hb;try simp only [hb])|fail)<;>try simp only [go_sem,seval,ne0,A0,A1])
    rw [B8 (rv4 rfl A0)];refine ⟨_,_,F6 (cc:=cc) (A9 hfr htc) (fun j hj=>?_),rfl,rfl⟩;simp [Hp.upd,show ¬j=cc by omega,show ¬j=c1 by omega];try (split<;>rfl)
   | false =>
    rw [hq] at hD;simp only [go_sem,seval,hq,ne0,A0,A1];repeat' ((with_reducible first|refine wr ?_|refine k_cu ?_ ?_|refine wb2 ?_ ?_<;>(intro hb;try simp only [hb])|fail)<;>try simp only [go_sem,seval,ne0,A0,A1])
    have h4i:=G7 (E:=E) (x:=3) (by decide) hti;subst hD;refine AC.call (c_take L E s2 _ _ t (by repeat (first|exact A0|rw [A2 (by omega)])) (by omega) (by omega) 3) ?_;rintro v H' c4 ⟨rfl,rfl⟩ hc4;try dsimp only
    simp only [go_sem,seval,ne0,A0,A1];repeat' ((with_reducible first|refine wr ?_|refine k_cu ?_ ?_|refine wb2 ?_ ?_<;>(intro hb;try simp only [hb])|fail)<;>try simp only [go_sem,seval,ne0,A0,A1])
    refine AC.call (c_expect L E (A6 L E s2 3).2 _ _ t (by repeat (first|exact A0|rw [A2 (by omega)])) (by omega) (by omega) _) ?_;rintro v H' c9 ⟨rfl,rfl⟩ hc9;simp only [go_sem,seval,ne0,A0,A1];repeat' ((with_reducible first|refine wr ?_|refine k_cu ?_ ?_|refine wb2 ?_ ?_<;>(intro hb;try simp only [hb])|fail)<;>try simp only [go_sem,seval,ne0,A0,A1])
    rw [B8 (rv4 rfl A0)];refine ⟨_,_,F6 (cc:=cc) (A9 hfr htc) (fun j hj=>?_),rfl,rfl⟩;simp [Hp.upd,show ¬j=cc by omega,show ¬j=c1 by omega];try (split<;>rfl)
  ·have hd5:(1+k == 6)=false:=by simp;omega
   have hm:(k+1 == 6)=false:=by simp;omega
   rw [hm] at hD;simp only [go_sem,seval,hd6,hd5,ne0,A0,A1];repeat' ((with_reducible first|refine wr ?_|refine k_cu ?_ ?_|refine wb2 ?_ ?_<;>(intro hb;try simp only [hb])|fail)<;>try simp only [go_sem,seval,hd6,hd5,ne0,A0,A1])
   have h4i:=G7 (E:=E) (x:=3) (by decide) hti;subst hD;refine AC.call (c_take L E s2 _ _ t (by repeat (first|exact A0|rw [A2 (by omega)])) (by omega) (by omega) 3) ?_;rintro v H' c4 ⟨rfl,rfl⟩ hc4;try dsimp only
   simp only [go_sem,seval,ne0,A0,A1];repeat' ((with_reducible first|refine wr ?_|refine k_cu ?_ ?_|refine wb2 ?_ ?_<;>(intro hb;try simp only [hb])|fail)<;>try simp only [go_sem,seval,ne0,A0,A1])
   refine AC.call (c_expect L E (A6 L E s2 3).2 _ _ t (by repeat (first|exact A0|rw [A2 (by omega)])) (by omega) (by omega) _) ?_;rintro v H' c9 ⟨rfl,rfl⟩ hc9;simp only [go_sem,seval,ne0,A0,A1];repeat' ((with_reducible first|refine wr ?_|refine k_cu ?_ ?_|refine wb2 ?_ ?_<;>(intro hb;try simp only [hb])|fail)<;>try simp only [go_sem,seval,ne0,A0,A1])
   rw [B8 (rv4 rfl A0)];refine ⟨_,_,F6 (cc:=cc) (A9 hfr htc) (fun j hj=>?_),rfl,rfl⟩;simp [Hp.upd,show ¬j=cc by omega,show ¬j=c1 by omega];try (split<;>rfl)
 ·rw [if_neg h6] at hD;have hd6:decide (1+k<=6)=false:=by simp;omega
  subst hD;simp only [go_sem,seval,hd6,ne0,A0,A1];repeat' ((with_reducible first|refine wr ?_|refine k_cu ?_ ?_|refine wb2 ?_ ?_<;>(intro hb;try simp only [hb])|fail)<;>try simp only [go_sem,seval,hd6,ne0,A0,A1])
  refine AC.call (c_expect L E s2 _ _ t (by repeat (first|exact A0|rw [A2 (by omega)])) (by omega) (by omega) _) ?_;rintro v H' c3 ⟨rfl,rfl⟩ hc3;simp only [go_sem,seval,ne0,A0,A1];repeat' ((with_reducible first|refine wr ?_|refine k_cu ?_ ?_|refine wb2 ?_ ?_<;>(intro hb;try simp only [hb])|fail)<;>try simp only [go_sem,seval,ne0,A0,A1])
  rw [B8 (rv4 rfl A0)];refine ⟨_,_,F6 (cc:=cc) (A9 hfr htc) (fun j hj=>?_),rfl,rfl⟩;simp [Hp.upd,show ¬j=cc by omega,show ¬j=c1 by omega];try (split<;>rfl)
theorem v_md {ρ : Ren} {v:Value} {a b e:DV} (h:VRel ρ (.agg [a,b,.snil,e]) v):VRel ρ (.agg [a,b,.lst [],e]) v:=by
 obtain ⟨bb,rfl,k1,k2⟩:=h.agg_inv;refine .agg _ _ k1 fun j x y hx hy=>?_
 match j with
 | 0=>cases hx;exact k2 0 _ y rfl hy
 | 1=>cases hx;exact k2 1 _ y rfl hy
 | 2=>cases hx;exact (k2 2 _ y rfl hy).snil_lst
 | 3=>cases hx;exact k2 3 _ y rfl hy
 | _+4=>cases hx
theorem gl_md {K H':Hp} {cc:Nat} {o:Option Nat} {a b e:DV} (l:List Hd) (hK:∀ i,cc<=i->K i=none) (ho:∀ i,o=some i->cc<=i) (hno:o=none->l=[]) (hb:∀ i,o=some i->H' i=some ⟨4,true,A4 (l.map Hd.v)⟩) (h:∀ j,j<cc->H' j=K j) :
  GL H' [.agg [a,b,B3 o l.length,e]] K [.agg [a,b,A2l l,e]]:=by
 cases o with
 | none =>
  obtain rfl:=hno rfl;exact (F6 hK h).trans (GL.view fun ρ vs hA=>K4 (fun v h=>v_md h) vs hA)
 | some i =>
  have:=ho i rfl;exact GL.frzS (id:=i) (hb i rfl) rfl (fun j=>by
   by_cases hj:j<cc
   ·exact .inr ⟨by omega,(h j hj).symm⟩
   ·exact .inl (hK j (by omega))) (.cons _ _ _ _ (.agg _ _ (.cons _ _ _ _ (.same _) (.cons _ _ _ _ (.same _) (.cons _ _ _ _ (M0 (u:=4) (by simp) (A4c l) ⟨[],by simp⟩) (.cons _ _ _ _ (.same _) .nil))))) .nil)
theorem c_mode (L:List Tok) (E:Int) (hL:L.length<=1000000000) (f:Nat) (s:Rd) (r:Md × Rd) (h:Z8 L E f s=some r) (hi:s.i<=L.length):RdC L E 89 [] s (r.1.v,r.2):=by
 intro H cc t ht htc;refine AC.bodyT A7 rfl (Nat.le_of_ble_eq_true rfl) fun hfr=>?_;unfold Z8 at h;dsimp only at h;have i1:=H9 (E:=E) (x:=[109,111,100,101]) hi;generalize hs1:C1 L E s [109,111,100,101]=s1 at h i1;have i2:=G7 (E:=E) (x:=1) (by decide) i1;have i3:=G7 (E:=E) (x:=3) (by decide) i2;have i4:=H9 (E:=E) (x:=[123]) i3;repeat' ((with_reducible first|refine wr ?_|refine k_cu ?_ ?_|refine wb2 ?_ ?_<;>(intro hb;try simp only [hb])|fail)<;>try simp only [go_sem,seval])
 refine AC.call (c_peek L E s _ _ t (by rw [A2 (by omega)];exact ht) (by omega)) ?_;rintro v H' c1 ⟨rfl,rfl⟩ hc1;have ne0:=K0 t cc c1 (by omega);simp only [go_sem,seval,ne0];repeat' ((with_reducible first|refine wr ?_|refine k_cu ?_ ?_|refine wb2 ?_ ?_<;>(intro hb;try simp only [hb])|fail)<;>try simp only [go_sem,seval,ne0,A0,A1])
 refine AC.call (c_expect L E s _ _ t (by repeat (first|exact ht|rw [A2 (by omega)])) (by omega) (by omega) _) ?_;rintro v H' c2 ⟨rfl,rfl⟩ hc2;rw [hs1];simp only [go_sem,seval,ne0];repeat' ((with_reducible first|refine wr ?_|refine k_cu ?_ ?_|refine wb2 ?_ ?_<;>(intro hb;try simp only [hb])|fail)<;>try simp only [go_sem,seval,ne0,A0,A1])
 refine AC.call (c_name L E s1 _ _ t (by repeat (first|exact A0|rw [A2 (by omega)])) (by omega) (by omega)) ?_;rintro v H' c3 ⟨rfl,rfl⟩ hc3;generalize (A6 L E s1 1).1.text=n at h ⊢;generalize (A6 L E s1 1).2=s2 at h i2 i3 i4 ⊢;simp only [go_sem,seval,ne0,A0,A1];repeat' ((with_reducible first|refine wr ?_|refine k_cu ?_ ?_|refine wb2 ?_ ?_<;>(intro hb;try simp only [hb])|fail)<;>try simp only [go_sem,seval,ne0,A0,A1])
 refine AC.call (c_take L E s2 _ _ t (by repeat (first|exact A0|rw [A2 (by omega)])) (by omega) (by omega) 3) ?_;rintro v H' c4 ⟨rfl,rfl⟩ hc4;try dsimp only
 simp only [go_sem,seval,ne0,A0,A1];repeat' ((with_reducible first|refine wr ?_|refine k_cu ?_ ?_|refine wb2 ?_ ?_<;>(intro hb;try simp only [hb])|fail)<;>try simp only [go_sem,seval,ne0,A0,A1])
 refine AC.call (c_expect L E (A6 L E s2 3).2 _ _ t (by repeat (first|exact A0|rw [A2 (by omega)])) (by omega) (by omega) _) ?_;rintro v H' c5 ⟨rfl,rfl⟩ hc5;generalize (A6 L E s2 3).1.value=z at h ⊢;generalize C1 L E (A6 L E s2 3).2 [123]=s3 at h i4 ⊢;generalize (A3 L E s).pos=p at h ⊢;cases hm:L9 L E f [] s3 with
 | none=>rw [hm] at h;cases h
 | some q =>
  obtain ⟨hl,s4⟩:=q;rw [hm] at h;dsimp only at h;cases h;simp only [go_sem,seval,ne0,A0,A1];repeat' ((with_reducible first|refine wr ?_|refine k_cu ?_ ?_|refine wb2 ?_ ?_<;>(intro hb;try simp only [hb])|fail)<;>try simp only [go_sem,seval,ne0,A0,A1])
  refine D5 (fun _:Nat × Option Nat × List Hd × Rd=>[(0,.ptr t 0),(2,.ptr cc 0),(3,.ptr c1 0)]) (fun q=>C3 (((H.upd cc ⟨0,true,[.str [],I64 0,.snil,I64 0]⟩).upd c1 ⟨0,true,[.str n,I64 z,B3 q.2.1 q.2.2.1.length,I64 p]⟩).upd t (rdR L E q.2.2.2)) q.2.1 ⟨4,true,A4 (q.2.2.1.map Hd.v)⟩)
   (fun q c=>c1+1<=c/\q.1<=f/\q.2.2.2.i<=L.length/\(q.2.1=none->q.2.2.1=[])/\(∀ i,q.2.1=some i->c1<i/\i<c)/\q.2.2.1.length<=32/\L9 L E q.1 q.2.2.1 q.2.2.2=some (hl,s4)) (fun q=>q.1) (f,none,[],s3)
   (by simp [D0,tm,Tm.upd]) (fun j b hj=>?_) ⟨by omega,Nat.le_refl _,i4,fun _=>rfl,(fun i hi=>by cases hi),by simp,hm⟩ ?_
  ·simp only [C3,A2a] at hj;by_cases e1:j=t
   ·subst e1;rw [A0] at hj ⊢;exact hj
   ·rw [A2 e1] at hj ⊢;by_cases e2:j=c1
    ·subst e2;rw [A0] at hj ⊢;exact hj
    ·rw [A2 e2] at hj ⊢;simp only [A2 e1,A2 e2];exact hj
  clear hm i1 i2 i3 i4;rintro ⟨g,o,l,u⟩ c ⟨hc,hg,hi5,hno,ho,hl1,hv⟩;dsimp only at hc hg hi5 hno ho hl1 hv ⊢;cases g with
  | zero=>simp [L9] at hv
  | succ g =>
  unfold L9 at hv;dsimp only at hv;have hHt:C3 (((H.upd cc ⟨0,true,[.str [],I64 0,.snil,I64 0]⟩).upd c1 ⟨0,true,[.str n,I64 z,B3 o l.length,I64 p]⟩).upd t (rdR L E u)) o ⟨4,true,A4 (l.map Hd.v)⟩ t=some (rdR L E u):=by rw [C6 (fun i hi=>by have:=ho i hi;omega),A0]
  repeat' ((with_reducible first|refine wr ?_|refine k_cu ?_ ?_|refine wb2 ?_ ?_<;>(intro hb;try simp only [hb])|fail)<;>try simp only [go_sem,seval])
  refine AC.call (c_rdok L E u _ _ t hHt (by omega)) ?_;rintro v H' c6 ⟨rfl,rfl⟩ hc6;have hbx:(C3 (((H.upd cc ⟨0,true,[.str [],I64 0,.snil,I64 0]⟩).upd c1 ⟨0,true,[.str n,I64 z,B3 o l.length,I64 p]⟩).upd t (rdR L E u)) o ⟨4,true,A4 (l.map Hd.v)⟩) c1=some ⟨0,true,[.str n,I64 z,B3 o l.length,I64 p]⟩:=by rw [C6 (fun i hi=>by have:=ho i hi;omega),A2 (by omega),A0]
  have hbo:∀ i:Nat,o=some i->(C3 (((H.upd cc ⟨0,true,[.str [],I64 0,.snil,I64 0]⟩).upd c1 ⟨0,true,[.str n,I64 z,B3 o l.length,I64 p]⟩).upd t (rdR L E u)) o ⟨4,true,A4 (l.map Hd.v)⟩) i=some ⟨4,true,A4 (l.map Hd.v)⟩:=fun i hi=>by subst hi;exact A0
  have hbj:∀ j:Nat,j<cc->¬ j=t->(C3 (((H.upd cc ⟨0,true,[.str [],I64 0,.snil,I64 0]⟩).upd c1 ⟨0,true,[.str n,I64 z,B3 o l.length,I64 p]⟩).upd t (rdR L E u)) o ⟨4,true,A4 (l.map Hd.v)⟩) j=H j:=fun j h1 h2=>by rw [C6 (fun i hi=>by have:=ho i hi;omega),A2 h2,A2 (by omega),A2 (by omega)]
  have hb0:(C3 (((H.upd cc ⟨0,true,[.str [],I64 0,.snil,I64 0]⟩).upd c1 ⟨0,true,[.str n,I64 z,B3 o l.length,I64 p]⟩).upd t (rdR L E u)) o ⟨4,true,A4 (l.map Hd.v)⟩) cc=some ⟨0,true,[.str [],I64 0,.snil,I64 0]⟩:=by rw [C6 (fun i hi=>by have:=ho i hi;omega),A2 (by omega),A2 (by omega),A0]
  have hT:(B3 o l.length).one=true:=by cases o<;>rfl
  generalize hHH:C3 (((H.upd cc ⟨0,true,[.str [],I64 0,.snil,I64 0]⟩).upd c1 ⟨0,true,[.str n,I64 z,B3 o l.length,I64 p]⟩).upd t (rdR L E u)) o ⟨4,true,A4 (l.map Hd.v)⟩=HH at hHt hbx hbo hbj hb0 ⊢;have fin:∀ (u2:Rd) (e:DV) (x:Blk) (q1 q2:DV),GL ((HH.upd t (rdR L E u2)).upd cc x) [.agg [q1,q2,B3 o l.length,e]] (H.upd t (rdR L E u2)) [.agg [q1,q2,A2l l,e]]:=fun u2 e x q1 q2 =>
   gl_md (cc:=cc) l (A9 hfr htc) (fun i hi=>by have:=ho i hi;omega) hno (fun i hi=>by have:=ho i hi;rw [A2 (by omega),A2 (by omega)];exact hbo i hi) (fun j hj=>by
    rw [A2 (by omega)];by_cases e1:j=t
    ·subst e1;rw [A0,A0]
    ·rw [A2 e1,A2 e1,hbj j hj e1])
  cases hok:okR u with
  | false =>
   rw [if_neg (by simp [hok])] at hv;have e1:l=hl:=congrArg Prod.fst (Option.some.inj hv);have e2:C1 L E u [125]=s4:=congrArg Prod.snd (Option.some.inj hv);subst e1 e2;simp only [go_sem,seval,hok];repeat' ((with_reducible first|refine wr ?_|refine k_cu ?_ ?_|refine wb2 ?_ ?_<;>(intro hb;try simp only [hb])|fail)<;>try simp only [go_sem,seval,hok])
   refine AC.call (c_expect L E u _ _ t hHt (by omega) (by omega) _) ?_;rintro v H' c7 ⟨rfl,rfl⟩ hc7;simp only [go_sem,seval,ne0,A0,hbx,hb0,hT];repeat' ((with_reducible first|refine wr ?_|refine k_cu ?_ ?_|refine wb2 ?_ ?_<;>(intro hb;try simp only [hb])|fail)<;>try simp only [go_sem,seval,ne0,A0,hbx,hb0,hT])
   refine D1 (A3i (by rfl) (by decide) (by clear hHH;cases o<;>rfl)) ?_;simp only [go_sem,seval,ne0,A0];repeat' ((with_reducible first|refine wr ?_|refine k_cu ?_ ?_|refine wb2 ?_ ?_<;>(intro hb;try simp only [hb])|fail)<;>try simp only [go_sem,seval,ne0,A0])
   rw [B8 (rv4 rfl A0)];exact ⟨_,_,fin _ _ _ _ _,rfl,rfl⟩
  | true =>
   simp only [go_sem,seval,hok];repeat' ((with_reducible first|refine wr ?_|refine k_cu ?_ ?_|refine wb2 ?_ ?_<;>(intro hb;try simp only [hb])|fail)<;>try simp only [go_sem,seval,hok])
   refine AC.call (c_is L E u _ _ t hHt (by omega) _) ?_;rintro v H' c7 ⟨rfl,rfl⟩ hc7;cases hq:isR L E u [125] with
   | true =>
    rw [if_neg (by simp [hq])] at hv;have e1:l=hl:=congrArg Prod.fst (Option.some.inj hv);have e2:C1 L E u [125]=s4:=congrArg Prod.snd (Option.some.inj hv);subst e1 e2;simp only [go_sem,seval,hq];repeat' ((with_reducible first|refine wr ?_|refine k_cu ?_ ?_|refine wb2 ?_ ?_<;>(intro hb;try simp only [hb])|fail)<;>try simp only [go_sem,seval,hq])
    refine AC.call (c_expect L E u _ _ t hHt (by omega) (by omega) _) ?_;rintro v H' c8 ⟨rfl,rfl⟩ hc8;simp only [go_sem,seval,ne0,A0,hbx,hb0,hT];repeat' ((with_reducible first|refine wr ?_|refine k_cu ?_ ?_|refine wb2 ?_ ?_<;>(intro hb;try simp only [hb])|fail)<;>try simp only [go_sem,seval,ne0,A0,hbx,hb0,hT])
    refine D1 (A3i (by rfl) (by decide) (by clear hHH;cases o<;>rfl)) ?_;simp only [go_sem,seval,ne0,A0];repeat' ((with_reducible first|refine wr ?_|refine k_cu ?_ ?_|refine wb2 ?_ ?_<;>(intro hb;try simp only [hb])|fail)<;>try simp only [go_sem,seval,ne0,A0])
    rw [B8 (rv4 rfl A0)];exact ⟨_,_,fin _ _ _ _ _,rfl,rfl⟩
   | false =>
    rw [if_pos ⟨hok,hq⟩] at hv;simp only [go_sem,seval,hq];repeat' ((with_reducible first|refine wr ?_|refine k_cu ?_ ?_|refine wb2 ?_ ?_<;>(intro hb;try simp only [hb])|fail)<;>try simp only [go_sem,seval,hq])
    refine AC.call (c_is L E u _ _ t hHt (by omega) _) ?_;rintro v H' c8 ⟨rfl,rfl⟩ hc8;cases hon:isR L E u [111,110] with
    | false =>
     rw [if_pos hon] at hv;have e1:l=hl:=congrArg Prod.fst (Option.some.inj hv);have e2:J2 L E u=s4:=congrArg Prod.snd (Option.some.inj hv);subst e1 e2;simp only [go_sem,seval,hon];repeat' ((with_reducible first|refine wr ?_|refine k_cu ?_ ?_|refine wb2 ?_ ?_<;>(intro hb;try simp only [hb])|fail)<;>try simp only [go_sem,seval,hon])
     refine AC.call (c_syntax L E u _ _ t hHt (by omega)) ?_;rintro v H' c9 ⟨rfl,rfl⟩ hc9;simp only [go_sem,seval,ne0,A0,hbx,hb0,hT];repeat' ((with_reducible first|refine wr ?_|refine k_cu ?_ ?_|refine wb2 ?_ ?_<;>(intro hb;try simp only [hb])|fail)<;>try simp only [go_sem,seval,ne0,A0,hbx,hb0,hT])
     refine D1 (A3i (by rfl) (by decide) (by clear hHH;cases o<;>rfl)) ?_;simp only [go_sem,seval,ne0,A0];repeat' ((with_reducible first|refine wr ?_|refine k_cu ?_ ?_|refine wb2 ?_ ?_<;>(intro hb;try simp only [hb])|fail)<;>try simp only [go_sem,seval,ne0,A0])
     rw [B8 (rv4 rfl A0)];exact ⟨_,_,fin _ _ _ _ _,rfl,rfl⟩
    | true =>
     rw [if_neg (by simp [hon])] at hv;have hlen:A2k (B3 o l.length)=some (I64 l.length):=by
      cases o with
      | none=>rw [hno rfl];rfl
      | some b=>rfl
     have hwl:IntKind.i64.wrap ((l.length:Int)+1)=(l.length:Int)+1:=w64 (by omega) (by omega);simp only [go_sem,seval,hon];repeat' ((with_reducible first|refine wr ?_|refine k_cu ?_ ?_|refine wb2 ?_ ?_<;>(intro hb;try simp only [hb])|fail)<;>try simp only [go_sem,seval,hon,hbx,hlen,hwl])
     refine AC.call (c_limit L E u _ _ t hHt (by omega) _ _ _) ?_;rintro v H' c9 ⟨rfl,rfl⟩ hc9;have j1:(B7 L E u ((l.length:Int)+1) 32 9).i<=L.length:=by rw [F0];exact hi5
     generalize hlq:B7 L E u ((l.length:Int)+1) 32 9=u1 at hv j1 ⊢;have j2:=H9 (E:=E) (x:=[111,110]) j1;simp only [go_sem,seval];repeat' ((with_reducible first|refine wr ?_|refine k_cu ?_ ?_|refine wb2 ?_ ?_<;>(intro hb;try simp only [hb])|fail)<;>try simp only [go_sem,seval])
     refine AC.call (c_peek L E u1 _ _ t A0 (by omega)) ?_;rintro v H' c10 ⟨rfl,rfl⟩ hc10;have ne0:=T4 t cc c1 c10 (by omega);simp only [go_sem,seval,ne0];repeat' ((with_reducible first|refine wr ?_|refine k_cu ?_ ?_|refine wb2 ?_ ?_<;>(intro hb;try simp only [hb])|fail)<;>try simp only [go_sem,seval,ne0,A0,A1])
     refine AC.call (c_expect L E u1 _ _ t (by repeat (first|exact A0|rw [A2 (by omega)])) (by omega) (by omega) _) ?_;rintro v H' c11 ⟨rfl,rfl⟩ hc11;generalize hu2:C1 L E u1 [111,110]=u2 at hv j2 ⊢;simp only [go_sem,seval,ne0];repeat' ((with_reducible first|refine wr ?_|refine cpc c_trigs31 ?_|refine k_cu ?_ ?_|refine wb2 ?_ ?_<;>(intro hb;try simp only [hb])|fail)<;>try simp only [go_sem,seval,ne0,A0,A1])
     refine AC.call (c_among L E u2 _ _ t (by repeat (first|exact A0|rw [A2 (by omega)])) (by omega) C9 (by decide)) ?_;rintro v H' c12 ⟨rfl,rfl⟩ hc12;have hkr : -1<=B4 L E u2 C9/\B4 L E u2 C9<6:=Y1 L E u2 C9 0;have hnn:0<=B4 L E u2 C9->okR u2=true/\u2.i<L.length:=fun h=>⟨(G3 h).1,(G3 h).2.1⟩;generalize B4 L E u2 C9=k at hv hkr hnn;by_cases hk:k<0
     ·rw [if_pos hk] at hv;have e1:l=hl:=congrArg Prod.fst (Option.some.inj hv);have e2:J2 L E u2=s4:=congrArg Prod.snd (Option.some.inj hv);subst e1 e2;have hdk:decide (k<0)=true:=by simpa using hk
      simp only [go_sem,seval,ne0,hdk];repeat' ((with_reducible first|refine wr ?_|refine k_cu ?_ ?_|refine wb2 ?_ ?_<;>(intro hb;try simp only [hb])|fail)<;>try simp only [go_sem,seval,hdk])
      refine AC.call (c_syntax L E u2 _ _ t (by repeat (first|exact A0|rw [A2 (by omega)])) (by omega)) ?_;rintro v H' c13 ⟨rfl,rfl⟩ hc13;simp only [go_sem,seval,ne0,A0,hbx,hb0,hT];repeat' ((with_reducible first|refine wr ?_|refine k_cu ?_ ?_|refine wb2 ?_ ?_<;>(intro hb;try simp only [hb])|fail)<;>try simp only [go_sem,seval,ne0,A0,hbx,hb0,hT])
      refine D1 (A3i (by rfl) (by decide) (by clear hHH;cases o<;>rfl)) ?_;simp only [go_sem,seval,ne0,A0];repeat' ((with_reducible first|refine wr ?_|refine k_cu ?_ ?_|refine wb2 ?_ ?_<;>(intro hb;try simp only [hb])|fail)<;>try simp only [go_sem,seval,ne0,A0])
      rw [B8 (rv4 rfl A0)];refine ⟨_,_,gl_md (cc:=cc) l (A9 hfr htc) (fun i hi=>by have:=ho i hi;omega) hno (fun i hi=>?_) (fun j hj=>?_),rfl,rfl⟩
      ·have:=ho i hi;dsimp only
       repeat rw [A2 (by omega)]
       exact hbo i hi
      ·by_cases e1:j=t
       ·subst e1;dsimp only;rw [A2 (by omega),A0,A0]
       ·dsimp only
        repeat rw [A2 (by omega)]
        exact hbj j hj e1
     rw [if_neg hk] at hv;have hdk:decide (k<0)=false:=by simpa using hk
     obtain ⟨hok2,hi2⟩:=hnn (by omega);have hw2:IntKind.i64.wrap ((u2.i:Int)+1)=((u2.i+1:Nat):Int):=by rw [w64 (by omega) (by omega)];omega
     have hwk:IntKind.i64.wrap (1+k)=1+k:=w64 (by omega) (by omega);have hn2:(A8 u2).i<=L.length:=hi2;have ht2:=G7 (E:=E) (x:=1) (by decide) hn2;have hl32:l.length+1<=32:=by
      have hok1:okR u1=true:=by
       cases hz:okR u1 with
       | true=>rfl
       | false =>
        have:C1 L E u1 [111,110]=J2 L E u1:=by unfold C1 isR;rw [hz];rfl
        rw [<- hu2,this,A2c] at hok2;cases hok2
      have:=(I1 (L:=L) (E:=E) (s:=u) (n:=(l.length:Int)+1) (m:=32) (e:=9) (by decide) (by rw [hlq];exact hok1)).2.1;omega
     simp only [go_sem,seval,ne0,hdk];by_cases hk2:2<=k
     ·rw [if_pos hk2,if_pos hk2] at hv;have hd2:decide (k≥2)=true:=by simpa using hk2
      repeat' ((with_reducible first|refine wr ?_|refine k_cu ?_ ?_|refine wb2 ?_ ?_<;>(intro hb;try simp only [hb])|fail)<;>try simp only [go_sem,seval,hdk,hd2,hw2,hwk,ne0,A0,A1])
      refine AC.call (c_name L E (A8 u2) _ _ t (by repeat (first|exact A0|rw [A2 (by omega)])) (by omega) (by omega)) ?_;rintro v H' c14 ⟨rfl,rfl⟩ hc14;simp only [go_sem,seval,ne0,A0,A1];repeat' ((with_reducible first|refine wr ?_|refine k_cu ?_ ?_|refine wb2 ?_ ?_<;>(intro hb;try simp only [hb])|fail)<;>try simp only [go_sem,seval,ne0,A0,A1])
      cases hb:E9 L E g 1 (A6 L E (A8 u2) 1).2 with
      | none=>rw [hb] at hv;cases hv
      | some qb =>
       obtain ⟨bd,s6⟩:=qb;rw [hb] at hv;dsimp only at hv;have j6:=(II.all g).1 _ _ _ hb ht2;refine AC.call ((c_stm L E hL g).2.1 1 (A6 L E (A8 u2) 1).2 (bd,s6) (by decide) (by decide) hb ht2 _ _ t (by repeat (first|exact A0|rw [A2 (by omega)])) (by omega)) ?_;rintro v H' c15 ⟨rfl,rfl⟩ hc15;try dsimp only
       have ne0:=O1 t cc c1 c10 c15 (by omega);simp only [go_sem,seval,ne0,A0,A1,hbx];repeat' ((with_reducible first|refine wr ?_|refine k_cu ?_ ?_|refine wb2 ?_ ?_<;>(intro hb;try simp only [hb])|fail)<;>try simp only [go_sem,seval,ne0,A0,A1,hbx])
       have hl4:(A4 (l.map Hd.v)).length=l.length * 4:=C7 (u:=4) (A4c _) |>.trans (by simp);refine D1 (F4 (cs:=A4 (l.map Hd.v)) (fun e=>by rw [hno e];exact ⟨rfl,rfl⟩) (fun i hi=>?_) hl4 (by omega) (by omega) (by omega)) ?_
       ·have:=ho i hi
        repeat rw [A2 (by omega)]
        exact hbo i hi
       have hdx:∀ X:Hp,R2 X o c1=X c1:=fun X=>D4 (fun i hi=>by have:=ho i hi;omega);have ne0:=nes6 t cc c1 c10 c15 (c15+1) (by omega);simp only [go_sem,seval,ne0,A0,A1,hdx,hbx];repeat' ((with_reducible first|refine wr ?_|refine k_cu ?_ ?_|refine wb2 ?_ ?_<;>(intro hb;try simp only [hb])|fail)<;>try simp only [go_sem,seval,ne0,A0,A1,hdx,hbx])
       refine ⟨(g,some (c15+1),l++[⟨1+k,(A6 L E (A8 u2) 1).1.text,bd,(A3 L E u1).pos⟩],s6),?_,inv ⟨by omega,by simp only;omega,j6,(fun h=>by cases h),(fun i hi=>by cases hi;omega),by simp only [List.length_append,List.length_singleton];omega,hv⟩,by simp only;omega⟩;intro j b hj;simp only [C3,X0,List.length_append,List.length_singleton,List.map_append,E3] at hj;by_cases e1:j=c15+1
       ·subst e1;rw [A0] at hj;rw [A2 (by omega),A0, <- hj];rfl
       rw [A2 e1] at hj;by_cases e2:j=t
       ·subst e2;rw [A0] at hj;rw [A2 (by omega),A2 (by omega),D4 (fun i hi=>by have:=ho i hi;omega),A2 (by omega),A2 (by omega),A0];exact hj
       rw [A2 e2] at hj;by_cases e3:j=c1
       ·subst e3;rw [A0] at hj ⊢;exact hj
       rw [A2 e3] at hj ⊢;by_cases e4:j=cc
       ·subst e4;rw [A0] at hj;rw [A2 (by omega),D4 (fun i hi=>by have:=ho i hi;omega)]
        repeat rw [A2 (by omega)]
        rw [hb0];exact hj
       ·rw [A2 e4] at hj;have hjc:j<cc:=Classical.byContradiction fun h=>by rw [hfr j (by omega)] at hj;cases hj
        rw [A2 (by omega),D4 (fun i hi=>by have:=ho i hi;omega)]
        repeat rw [A2 (by omega)]
        rw [hbj j hjc e2];exact hj
     ·rw [if_neg hk2,if_neg hk2] at hv;have hd2:decide (k≥2)=false:=by simpa using hk2
      repeat' ((with_reducible first|refine wr ?_|refine k_cu ?_ ?_|refine wb2 ?_ ?_<;>(intro hb;try simp only [hb])|fail)<;>try simp only [go_sem,seval,hdk,hd2,hw2,hwk,ne0,A0,A1])
      cases hb:E9 L E g 1 (A8 u2) with
      | none=>rw [hb] at hv;cases hv
      | some qb =>
       obtain ⟨bd,s6⟩:=qb;rw [hb] at hv;dsimp only at hv;have j6:=(II.all g).1 _ _ _ hb hn2;refine AC.call ((c_stm L E hL g).2.1 1 (A8 u2) (bd,s6) (by decide) (by decide) hb hn2 _ _ t (by repeat (first|exact A0|rw [A2 (by omega)])) (by omega)) ?_;rintro v H' c15 ⟨rfl,rfl⟩ hc15;try dsimp only
       have ne0:=O1 t cc c1 c10 c15 (by omega);simp only [go_sem,seval,ne0,A0,A1,hbx];repeat' ((with_reducible first|refine wr ?_|refine k_cu ?_ ?_|refine wb2 ?_ ?_<;>(intro hb;try simp only [hb])|fail)<;>try simp only [go_sem,seval,ne0,A0,A1,hbx])
       have hl4:(A4 (l.map Hd.v)).length=l.length * 4:=C7 (u:=4) (A4c _) |>.trans (by simp);refine D1 (F4 (cs:=A4 (l.map Hd.v)) (fun e=>by rw [hno e];exact ⟨rfl,rfl⟩) (fun i hi=>?_) hl4 (by omega) (by omega) (by omega)) ?_
       ·have:=ho i hi
        repeat rw [A2 (by omega)]
        exact hbo i hi
       have hdx:∀ X:Hp,R2 X o c1=X c1:=fun X=>D4 (fun i hi=>by have:=ho i hi;omega);have ne0:=nes6 t cc c1 c10 c15 (c15+1) (by omega);simp only [go_sem,seval,ne0,A0,A1,hdx,hbx];repeat' ((with_reducible first|refine wr ?_|refine k_cu ?_ ?_|refine wb2 ?_ ?_<;>(intro hb;try simp only [hb])|fail)<;>try simp only [go_sem,seval,ne0,A0,A1,hdx,hbx])
       refine ⟨(g,some (c15+1),l++[⟨1+k,[],bd,(A3 L E u1).pos⟩],s6),?_,inv ⟨by omega,by simp only;omega,j6,(fun h=>by cases h),(fun i hi=>by cases hi;omega),by simp only [List.length_append,List.length_singleton];omega,hv⟩,by simp only;omega⟩;intro j b hj;simp only [C3,X0,List.length_append,List.length_singleton,List.map_append,E3] at hj;by_cases e1:j=c15+1
       ·subst e1;rw [A0] at hj;rw [A2 (by omega),A0, <- hj];rfl
       rw [A2 e1] at hj;by_cases e2:j=t
       ·subst e2;rw [A0] at hj;rw [A2 (by omega),A2 (by omega),D4 (fun i hi=>by have:=ho i hi;omega),A2 (by omega),A2 (by omega),A0];exact hj
       rw [A2 e2] at hj;by_cases e3:j=c1
       ·subst e3;rw [A0] at hj ⊢;exact hj
       rw [A2 e3] at hj ⊢;by_cases e4:j=cc
       ·subst e4;rw [A0] at hj;rw [A2 (by omega),D4 (fun i hi=>by have:=ho i hi;omega)]
        repeat rw [A2 (by omega)]
        rw [hb0];exact hj
       ·rw [A2 e4] at hj;have hjc:j<cc:=Classical.byContradiction fun h=>by rw [hfr j (by omega)] at hj;cases hj
        rw [A2 (by omega),D4 (fun i hi=>by have:=ho i hi;omega)]
        repeat rw [A2 (by omega)]
        rw [hbj j hjc e2];exact hj
end Go.Proofs.YthlpinppaclofaaGreatDoor
set_option maxHeartbeats 8000000
namespace Go.Proofs.YthlpinppaclofaaGreatDoor
open Go.Eng (IC IOper DReg IFn B5)
open Go.Sym Go.Pb
theorem want_exp {L:List Tok} {E:Int} {s:Rd} {k:Int} {w:List UInt8} (h:isR L E s w=isP L E s k [w]):D9 L E s k w=C1 L E s w:=by unfold D9 C1;rw [h];rfl
theorem W9 {L:List Tok} {E:Int} (hK:∀ t∈L,F9 t) {s:Rd} {w:List UInt8} (h:D8 w=false):D9 L E s 5 w=C1 L E s w:=want_exp (E7 hK h)
theorem c_pdecl (L:List Tok) (E:Int) (s:Rd) (H:Hp) (cc t:Nat) (ht:H t=some (paB L E s)) (htc:t<cc) (hL:L.length<=1000000000) (hv:∀ x∈L,0<=x.value/\x.value<=9223372036854775807) (hK:∀ t∈L,F9 t) (hd:isP L E s 2 C5=true) :
  AC Tryz.prog 126 [.ptr t 0] H cc (fun v H' c'=>v=(S4 L E (B4 L E s C5) s).1.v/\H'=H.upd t (paB L E (S4 L E (B4 L E s C5) s).2)):=by
 obtain ⟨hok,hi,hk2⟩:=P1 (by decide) hd;have hkd:B4 L E s C5=N4 (A3 L E s).text 0 C5:=U6 (A0v hK s (by decide +kernel)) (by rw [hok,hk2];rfl) 0;have hk0:0<=B4 L E s C5:=by
  have:=A4b (A0v (E:=E) hK s (l:=C5) (by decide +kernel));rw [hd] at this;exact of_decide_eq_true this.symm
 have hk8:B4 L E s C5<8:=(Y1 L E s C5 0).2;have htk:A6 L E s 2=(A3 L E s,A8 s):=by
  have hkk:F5 L E s 2=true:=by unfold F5;rw [hok,hk2];rfl
  unfold A6;rw [hkk,if_neg (by decide)]
 have hix:=c_Idx (A3 L E s).text C5 (by decide);rw [<- hkd] at hix;generalize B4 L E s C5=k at *;have hwk:IntKind.i64.wrap (1+k)=1+k:=w64 (by omega) (by omega);have hn:(A8 s).i<=L.length:=hi;have hti:=G7 (E:=E) (x:=1) (by decide) hn;refine AC.bodyT A7 rfl (Nat.le_of_ble_eq_true rfl) fun hfr=>?_;repeat' ((with_reducible first|refine wr ?_|refine k_cu ?_ ?_|refine wb2 ?_ ?_<;>(intro hb;try simp only [hb])|fail)<;>try simp only [go_sem,seval])
 refine AC.call (c_ptake L E s _ _ t (by rw [A2 (by omega)];exact ht) (by omega) (by omega) 2) ?_;rintro v H' c1 ⟨rfl,rfl⟩ hc1;rw [htk];have ne0:=T4 t cc c1 (c1+1+8) (by omega);simp only [go_sem,seval,ne0,A0,A1];repeat' ((with_reducible first|refine wr ?_|refine cpc c_pdecls ?_|refine cpc hix ?_|refine k_cu ?_ ?_|refine wb2 ?_ ?_<;>(intro hb;try simp only [hb])|fail)<;>try simp only [go_sem,seval,hwk,ne0,A0,A1])
 refine ⟨by and_intros<;>((repeat rw [A2 (by omega)]);exact hfr _ (by omega)),?_⟩;repeat' ((with_reducible first|refine wr ?_|refine cpc c_pdecls ?_|refine cpc hix ?_|refine k_cu ?_ ?_|refine wb2 ?_ ?_<;>(intro hb;try simp only [hb])|fail)<;>try simp only [go_sem,seval,hwk,ne0,A0,A1])
 refine ⟨by and_intros<;>((repeat rw [A2 (by omega)]);exact hfr _ (by omega)),?_⟩;repeat' ((with_reducible first|refine wr ?_|refine cpc c_pdecls ?_|refine cpc hix ?_|refine k_cu ?_ ?_|refine wb2 ?_ ?_<;>(intro hb;try simp only [hb])|fail)<;>try simp only [go_sem,seval,hwk,ne0,A0,A1])
 refine AC.call (c_ptake L E (A8 s) _ _ t (by repeat (first|exact A0|rw [A2 (by omega)])) (by omega) (by omega) 1) ?_;rintro v H' c2 ⟨rfl,rfl⟩ hc2;have hval:∀ z,0<=(A6 L E z 3).1.value/\(A6 L E z 3).1.value<=9223372036854775807:=fun z=>by
  unfold A6;split
  ·exact ⟨Int.le_refl 0,(by decide:(0:Int)<=9223372036854775807)⟩
  ·show 0<=(A3 L E z).value/\(A3 L E z).value<=9223372036854775807;unfold A3;rw [List.getD_eq_getElem?_getD];cases hg:L[z.i]? with
   | none=>exact ⟨Int.le_refl 0,(by decide:(0:Int)<=9223372036854775807)⟩
   | some x=>exact hv x (List.mem_of_getElem? hg)
 obtain ⟨D,hD⟩:∃ D,D=S4 L E k s:=⟨_,rfl⟩;rw [<- hD];unfold S4 at hD;dsimp only at hD;generalize (A3 L E s).pos=p at hD ⊢;generalize (A6 L E (A8 s) 1).2=s2 at hD hti ⊢;by_cases h6:k+1<=6
 ·rw [if_pos h6] at hD;have f7:(1+k == 7)=false:=by simp;omega
  have f8:(1+k == 8)=false:=by simp;omega
  have hw2:IntKind.i64.wrap ((s2.i:Int)+1)=((s2.i+1:Nat):Int):=by rw [w64 (by omega) (by omega)];omega
  by_cases h5:k=5
  ·have f6:(1+k == 6)=true:=by simp;omega
   have hm:(k+1 == 6)=true:=by simp;omega
   rw [hm,Bool.true_and] at hD;have hm2:isR L E s2 [45]=isP L E s2 5 [[45]]:=E7 hK (by decide +kernel);rw [hm2] at hD;simp only [go_sem,seval,ne0,A0,A1];repeat' ((with_reducible first|refine wr ?_|refine k_cu ?_ ?_|refine wb2 ?_ ?_<;>(intro hb;try simp only [hb])|fail)<;>try simp only [go_sem,seval,f6,f7,f8,ne0,A0,A1])
   refine AC.call (c_pisO L E s2 _ _ t c2 (by (repeat rw [A2 (by omega)]);exact hfr _ (by omega)) (by repeat (first|exact A0|rw [A2 (by omega)])) (by omega) 5 [[45]] (by simp)) ?_;rintro v H' c3 ⟨rfl,rfl⟩ hc3;cases hq:isP L E s2 5 [[45]] with
   | true =>
    rw [hq,if_pos rfl,if_pos rfl] at hD;have hn2:(A8 s2).i<=L.length:=(P1 (by decide) hq).2.1;have hv2:=hval (A8 s2);have hneg:IntKind.i64.wrap (0-(A6 L E (A8 s2) 3).1.value) = -(A6 L E (A8 s2) 3).1.value:=by rw [w64 (by omega) (by omega)];omega
    simp only [go_sem,seval,hq,hw2,ne0,A0,A1];repeat' ((with_reducible first|refine wr ?_|refine k_cu ?_ ?_|refine wb2 ?_ ?_<;>(intro hb;try simp only [hb])|fail)<;>try simp only [go_sem,seval,hw2,ne0,A0,A1])
    have h4i:=G7 (E:=E) (x:=3) (by decide) hn2;subst hD;refine AC.call (c_ptake L E (A8 s2) _ _ t (by repeat (first|exact A0|rw [A2 (by omega)])) (by omega) (by omega) 3) ?_;rintro v H' c4 ⟨rfl,rfl⟩ hc4;try dsimp only
    simp only [go_sem,seval,hneg,ne0,A0,A1];repeat' ((with_reducible first|refine wr ?_|refine k_cu ?_ ?_|refine wb2 ?_ ?_<;>(intro hb;try simp only [hb])|fail)<;>try simp only [go_sem,seval,hneg,ne0,A0,A1])
    refine AC.call (c_want L E (A6 L E (A8 s2) 3).2 _ _ t (by repeat (first|exact A0|rw [A2 (by omega)])) (by omega) (by omega) 5 [59]) ?_;rintro v H' c9 ⟨rfl,rfl⟩ hc9;rw [W9 hK (by decide +kernel)];simp only [go_sem,seval,ne0,A0,A1];repeat' ((with_reducible first|refine wr ?_|refine k_cu ?_ ?_|refine wb2 ?_ ?_<;>(intro hb;try simp only [hb])|fail)<;>try simp only [go_sem,seval,ne0,A0,A1])
    rw [B8 (rv4 rfl A0)];refine ⟨_,_,F6 (cc:=cc) (A9 hfr htc) (fun j hj=>?_),rfl,rfl⟩;simp [Hp.upd,show ¬j=cc by omega,show ¬j=c1 by omega,show ¬j=c1+1+8 by omega];try (split<;>rfl)
   | false =>
    rw [hq,if_neg (by decide),if_neg (by decide)] at hD;simp only [go_sem,seval,hq,ne0,A0,A1];repeat' ((with_reducible first|refine wr ?_|refine k_cu ?_ ?_|refine wb2 ?_ ?_<;>(intro hb;try simp only [hb])|fail)<;>try simp only [go_sem,seval,ne0,A0,A1])
    have h4i:=G7 (E:=E) (x:=3) (by decide) hti;subst hD;refine AC.call (c_ptake L E s2 _ _ t (by repeat (first|exact A0|rw [A2 (by omega)])) (by omega) (by omega) 3) ?_;rintro v H' c4 ⟨rfl,rfl⟩ hc4;try dsimp only
    simp only [go_sem,seval,ne0,A0,A1];repeat' ((with_reducible first|refine wr ?_|refine k_cu ?_ ?_|refine wb2 ?_ ?_<;>(intro hb;try simp only [hb])|fail)<;>try simp only [go_sem,seval,ne0,A0,A1])
    refine AC.call (c_want L E (A6 L E s2 3).2 _ _ t (by repeat (first|exact A0|rw [A2 (by omega)])) (by omega) (by omega) 5 [59]) ?_;rintro v H' c9 ⟨rfl,rfl⟩ hc9;rw [W9 hK (by decide +kernel)];simp only [go_sem,seval,ne0,A0,A1];repeat' ((with_reducible first|refine wr ?_|refine k_cu ?_ ?_|refine wb2 ?_ ?_<;>(intro hb;try simp only [hb])|fail)<;>try simp only [go_sem,seval,ne0,A0,A1])
    rw [B8 (rv4 rfl A0)];refine ⟨_,_,F6 (cc:=cc) (A9 hfr htc) (fun j hj=>?_),rfl,rfl⟩;simp [Hp.upd,show ¬j=cc by omega,show ¬j=c1 by omega,show ¬j=c1+1+8 by omega];try (split<;>rfl)
  ·have hm:(k+1 == 6)=false:=by simp;omega
   have f6:(1+k == 6)=false:=by simp;omega
   rw [hm,Bool.false_and,if_neg (by decide)] at hD;simp only [go_sem,seval,ne0,A0,A1];repeat' ((with_reducible first|refine wr ?_|refine k_cu ?_ ?_|refine wb2 ?_ ?_<;>(intro hb;try simp only [hb])|fail)<;>try simp only [go_sem,seval,f6,f7,f8,ne0,A0,A1])
   have h4i:=G7 (E:=E) (x:=3) (by decide) hti;subst hD;refine AC.call (c_ptake L E s2 _ _ t (by repeat (first|exact A0|rw [A2 (by omega)])) (by omega) (by omega) 3) ?_;rintro v H' c4 ⟨rfl,rfl⟩ hc4;try dsimp only
   simp only [go_sem,seval,ne0,A0,A1];repeat' ((with_reducible first|refine wr ?_|refine k_cu ?_ ?_|refine wb2 ?_ ?_<;>(intro hb;try simp only [hb])|fail)<;>try simp only [go_sem,seval,ne0,A0,A1])
   refine AC.call (c_want L E (A6 L E s2 3).2 _ _ t (by repeat (first|exact A0|rw [A2 (by omega)])) (by omega) (by omega) 5 [59]) ?_;rintro v H' c9 ⟨rfl,rfl⟩ hc9;rw [W9 hK (by decide +kernel)];simp only [go_sem,seval,ne0,A0,A1];repeat' ((with_reducible first|refine wr ?_|refine k_cu ?_ ?_|refine wb2 ?_ ?_<;>(intro hb;try simp only [hb])|fail)<;>try simp only [go_sem,seval,ne0,A0,A1])
   rw [B8 (rv4 rfl A0)];refine ⟨_,_,F6 (cc:=cc) (A9 hfr htc) (fun j hj=>?_),rfl,rfl⟩;simp [Hp.upd,show ¬j=cc by omega,show ¬j=c1 by omega,show ¬j=c1+1+8 by omega];try (split<;>rfl)
 ·rw [if_neg h6] at hD;have f:((1+k == 7)=true)\/((1+k == 7)=false/\(1+k == 8)=true):=by
   by_cases hh:k=6
   ·left;simp;omega
   ·right;constructor<;>simp<;>omega
  subst hD;rcases f with f7|⟨f7,f8⟩
  ·simp only [go_sem,seval,ne0,A0,A1];repeat' ((with_reducible first|refine wr ?_|refine k_cu ?_ ?_|refine wb2 ?_ ?_<;>(intro hb;try simp only [hb])|fail)<;>try simp only [go_sem,seval,f7,ne0,A0,A1])
   refine AC.call (c_want L E s2 _ _ t (by repeat (first|exact A0|rw [A2 (by omega)])) (by omega) (by omega) 5 [59]) ?_;rintro v H' c9 ⟨rfl,rfl⟩ hc9;rw [W9 hK (by decide +kernel)];simp only [go_sem,seval,ne0,A0,A1];repeat' ((with_reducible first|refine wr ?_|refine k_cu ?_ ?_|refine wb2 ?_ ?_<;>(intro hb;try simp only [hb])|fail)<;>try simp only [go_sem,seval,ne0,A0,A1])
   rw [B8 (rv4 rfl A0)];refine ⟨_,_,F6 (cc:=cc) (A9 hfr htc) (fun j hj=>?_),rfl,rfl⟩;simp [Hp.upd,show ¬j=cc by omega,show ¬j=c1 by omega,show ¬j=c1+1+8 by omega];try (split<;>rfl)
  ·simp only [go_sem,seval,ne0,A0,A1];repeat' ((with_reducible first|refine wr ?_|refine k_cu ?_ ?_|refine wb2 ?_ ?_<;>(intro hb;try simp only [hb])|fail)<;>try simp only [go_sem,seval,f7,f8,ne0,A0,A1])
   refine AC.call (c_want L E s2 _ _ t (by repeat (first|exact A0|rw [A2 (by omega)])) (by omega) (by omega) 5 [59]) ?_;rintro v H' c9 ⟨rfl,rfl⟩ hc9;rw [W9 hK (by decide +kernel)];simp only [go_sem,seval,ne0,A0,A1];repeat' ((with_reducible first|refine wr ?_|refine k_cu ?_ ?_|refine wb2 ?_ ?_<;>(intro hb;try simp only [hb])|fail)<;>try simp only [go_sem,seval,ne0,A0,A1])
   rw [B8 (rv4 rfl A0)];refine ⟨_,_,F6 (cc:=cc) (A9 hfr htc) (fun j hj=>?_),rfl,rfl⟩;simp [Hp.upd,show ¬j=cc by omega,show ¬j=c1 by omega,show ¬j=c1+1+8 by omega];try (split<;>rfl)
def hdM (L:List Tok) (E:Int) (f:Nat) (s:Rd):Option (Hd × Rd) :=
 let p:=(A3 L E s).pos
 let s2:=A8 s
 let k:=B4 L E s2 C9
 if k<0 then some (⟨0,[],[],p⟩,J2 L E s2) else
 let s3:=A8 s2
 let n:=if 2<=k then (A6 L E s3 1).1.text else []
 let s4:=if 2<=k then (A6 L E s3 1).2 else s3
 match E9 L E f 1 s4 with
 | none=>none
 | some (b,s5)=>some (⟨1+k,n,b,p⟩,s5)
theorem c_phand (L:List Tok) (E:Int) (hL:L.length<=1000000000) (hK:∀ t∈L,F9 t) (f:Nat) (s:Rd) (q:Hd × Rd) (h:hdM L E f s=some q) (hP:PI L s) (hon:isP L E s 2 [[111,110]]=true) :
  ∀ (H:Hp) (cc t:Nat),H t=some (paB L E s)->t<cc->AC Tryz.prog 172 [.ptr t 0] H cc (fun v H' c' => ∃ x s',v=Hd.v x/\H'=H.upd t (paB L E s')/\Eqv s' q.2/\(okR q.2=true->x=q.1)/\PI L s'):=by
 intro H cc t ht htc;obtain ⟨hok,hi,hk2⟩:=P1 (by decide) hon;have htk:A6 L E s 2=(A3 L E s,A8 s):=by
  have hkk:F5 L E s 2=true:=by unfold F5;rw [hok,hk2];rfl
  unfold A6;rw [hkk,if_neg (by decide)]
 have hP1:=hP.nxt hi;have hri:=hP1.i;have hri0:=hP.i;unfold hdM at h;dsimp only at h;have hpa:=A4b (A0v (E:=E) hK (A8 s) (l:=C9) (by decide +kernel));have hkr:B4 L E (A8 s) C9<6:=(Y1 L E (A8 s) C9 0).2;have hkx:0<=B4 L E (A8 s) C9->B4 L E (A8 s) C9=N4 (A3 L E (A8 s)).text 0 C9/\(A3 L E (A8 s)).kind=2/\(A8 s).i<L.length:=fun hh=>by
  rw [decide_eq_true hh] at hpa;obtain ⟨g1,g2,g3⟩:=P1 (by decide) hpa;exact ⟨U6 (A0v hK (A8 s) (by decide +kernel)) (by rw [g1,g3];rfl) 0,g3,g2⟩
 have hix:=c_Idx (A3 L E (A8 s)).text C9 (by decide);refine AC.bodyT A7 rfl (Nat.le_of_ble_eq_true rfl) fun hfr=>?_;repeat' ((with_reducible first|refine wr ?_|refine k_cu ?_ ?_|refine wb2 ?_ ?_<;>(intro hb;try simp only [hb])|fail)<;>try simp only [go_sem,seval])
 refine AC.call (c_ptake L E s _ _ t (by rw [A2 (by omega)];exact ht) (by omega) (by omega) 2) ?_;rintro v H' c1 ⟨rfl,rfl⟩ hc1;rw [htk];have ne0:=K0 t cc c1 (by omega);simp only [go_sem,seval,ne0,A0,A1];repeat' ((with_reducible first|refine wr ?_|refine cpc c_ptrigs ?_|refine k_cu ?_ ?_|refine wb2 ?_ ?_<;>(intro hb;try simp only [hb])|fail)<;>try simp only [go_sem,seval,ne0,A0,A1])
 refine AC.call (c_pis L E (A8 s) _ _ t (by repeat (first|exact A0|rw [A2 (by omega)])) (by omega) 2 C9 (by decide)) ?_;rintro v H' c2 ⟨rfl,rfl⟩ hc2;by_cases hk:B4 L E (A8 s) C9<0
 ·rw [if_pos hk] at h;cases h;have hpf:isP L E (A8 s) 2 C9=false:=by rw [hpa];exact decide_eq_false (by omega)
  simp only [go_sem,seval,hpf,ne0,A0,A1];repeat' ((with_reducible first|refine wr ?_|refine cpc c_ptrigs ?_|refine k_cu ?_ ?_|refine wb2 ?_ ?_<;>(intro hb;try simp only [hb])|fail)<;>try simp only [go_sem,seval,ne0,A0,A1])
  refine AC.call (c_pfail L E (A8 s) _ _ t (by repeat (first|exact A0|rw [A2 (by omega)])) (by omega) 4) ?_;rintro v H' c3 ⟨rfl,rfl⟩ hc3;simp only [go_sem,seval,ne0,A0,A1];repeat' ((with_reducible first|refine wr ?_|refine k_cu ?_ ?_|refine wb2 ?_ ?_<;>(intro hb;try simp only [hb])|fail)<;>try simp only [go_sem,seval,ne0,A0,A1])
  rw [B8 (rv4 rfl A0)];refine ⟨_,_,(F6 (cc:=cc) (K:=H.upd t (paB L E (pfl L E (A8 s) 4))) (A9 hfr htc) (fun j hj=>?_)).trans (GL.view fun ρ vs hA=>K4 (fun v h=>v_md h) vs hA),⟨0,[],[],(A3 L E s).pos⟩,_,rfl,rfl,.refl _,fun k=>?_,hP1.fl⟩
  ·simp [Hp.upd,show ¬j=cc by omega,show ¬j=c1 by omega];try (split<;>rfl)
  ·exact absurd k (by rw [A2c];decide)
 rw [if_neg hk] at h;obtain ⟨hk1,hkd2,hi2⟩:=hkx (by omega);rw [<- hk1] at hix;have hpt:isP L E (A8 s) 2 C9=true:=by rw [hpa];exact decide_eq_true (by omega)
 have htk2:A6 L E (A8 s) 2=(A3 L E (A8 s),A8 (A8 s)):=by
  have hkk:F5 L E (A8 s) 2=true:=by unfold F5;rw [(P1 (by decide) hpt).1,hkd2];rfl
  unfold A6;rw [hkk,if_neg (by decide)]
 have hP2:=hP1.nxt hi2;have hri2:=hP2.i;generalize B4 L E (A8 s) C9=k at *;have hwk:IntKind.i64.wrap (1+k)=1+k:=w64 (by omega) (by omega);simp only [go_sem,seval,hpt,ne0,A0,A1];repeat' ((with_reducible first|refine wr ?_|refine cpc c_ptrigs ?_|refine k_cu ?_ ?_|refine wb2 ?_ ?_<;>(intro hb;try simp only [hb])|fail)<;>try simp only [go_sem,seval,ne0,A0,A1])
 refine AC.call (c_ptake L E (A8 s) _ _ t (by repeat (first|exact A0|rw [A2 (by omega)])) (by omega) (by omega) 2) ?_;rintro v H' c3 ⟨rfl,rfl⟩ hc3;rw [htk2];by_cases hk2':2<=k
 ·rw [if_pos hk2',if_pos hk2'] at h;have hd3:decide (1+k≥3)=true:=by simp;omega
  simp only [go_sem,seval,hwk,ne0,A0,A1];repeat' ((with_reducible first|refine wr ?_|refine cpc hix ?_|refine k_cu ?_ ?_|refine wb2 ?_ ?_<;>(intro hb;try simp only [hb])|fail)<;>try simp only [go_sem,seval,hwk,hd3,ne0,A0,A1])
  refine AC.call (c_ptake L E (A8 (A8 s)) _ _ t (by repeat (first|exact A0|rw [A2 (by omega)])) (by omega) (by omega) 1) ?_;rintro v H' c4 ⟨rfl,rfl⟩ hc4;have hP3:=(hP2.take (E:=E) (x:=1) (by decide)).1;cases hb:E9 L E f 1 (A6 L E (A8 (A8 s)) 1).2 with
  | none=>rw [hb] at h;cases h
  | some qb =>
   obtain ⟨bd,m5⟩:=qb;rw [hb] at h;dsimp only at h;cases h;simp only [go_sem,seval,ne0,A0,A1];repeat' ((with_reducible first|refine wr ?_|refine k_cu ?_ ?_|refine wb2 ?_ ?_<;>(intro hb;try simp only [hb])|fail)<;>try simp only [go_sem,seval,ne0,A0,A1])
   refine AC.call ((c_pst L E hL hK f).1 1 _ _ (bd,m5) (by decide) (by decide) (.refl _) hb hP3 _ _ t (by repeat (first|exact A0|rw [A2 (by omega)])) (by omega)) ?_;rintro v H' c5 ⟨x,s5,rfl,rfl,q1,q2,q3⟩ hc5;dsimp only at q1 q2;simp only [go_sem,seval,ne0,A0,A1];repeat' ((with_reducible first|refine wr ?_|refine k_cu ?_ ?_|refine wb2 ?_ ?_<;>(intro hb;try simp only [hb])|fail)<;>try simp only [go_sem,seval,ne0,A0,A1])
   rw [B8 (rv4 rfl A0)];refine ⟨_,_,F6 (cc:=cc) (K:=H.upd t (paB L E s5)) (A9 hfr htc) (fun j hj=>?_),⟨1+k,(A6 L E (A8 (A8 s)) 1).1.text,x,(A3 L E s).pos⟩,s5,rfl,rfl,q1,fun k=>(by rw [q2 k]),q3⟩;simp [Hp.upd,show ¬j=cc by omega,show ¬j=c1 by omega];try (split<;>rfl)
 ·rw [if_neg hk2',if_neg hk2'] at h;have hd3:decide (1+k≥3)=false:=by simp;omega
  cases hb:E9 L E f 1 (A8 (A8 s)) with
  | none=>rw [hb] at h;cases h
  | some qb =>
   obtain ⟨bd,m5⟩:=qb;rw [hb] at h;dsimp only at h;cases h;simp only [go_sem,seval,hwk,ne0,A0,A1];repeat' ((with_reducible first|refine wr ?_|refine cpc hix ?_|refine k_cu ?_ ?_|refine wb2 ?_ ?_<;>(intro hb;try simp only [hb])|fail)<;>try simp only [go_sem,seval,hwk,hd3,ne0,A0,A1])
   refine AC.call ((c_pst L E hL hK f).1 1 _ _ (bd,m5) (by decide) (by decide) (.refl _) hb hP2 _ _ t (by repeat (first|exact A0|rw [A2 (by omega)])) (by omega)) ?_;rintro v H' c5 ⟨x,s5,rfl,rfl,q1,q2,q3⟩ hc5;dsimp only at q1 q2;simp only [go_sem,seval,ne0,A0,A1];repeat' ((with_reducible first|refine wr ?_|refine k_cu ?_ ?_|refine wb2 ?_ ?_<;>(intro hb;try simp only [hb])|fail)<;>try simp only [go_sem,seval,ne0,A0,A1])
   rw [B8 (rv4 rfl A0)];refine ⟨_,_,F6 (cc:=cc) (K:=H.upd t (paB L E s5)) (A9 hfr htc) (fun j hj=>?_),⟨1+k,[],x,(A3 L E s).pos⟩,s5,rfl,rfl,q1,fun k=>(by rw [q2 k]),q3⟩;simp [Hp.upd,show ¬j=cc by omega,show ¬j=c1 by omega];try (split<;>rfl)
theorem mlp_nok {L:List Tok} {E:Int} {g:Nat} {l:List Hd} {s:Rd} {r:List Hd × Rd} (h:L9 L E g l s=some r) (ho:okR s=false):r.2=s:=by
 cases g with
 | zero=>simp [L9] at h
 | succ g =>
  unfold L9 at h;dsimp only at h;rw [ho,if_neg (by simp),A1s ho] at h;cases h;rfl
theorem exp_at {L:List Tok} {E:Int} {s:Rd} {w:List UInt8} (h:isR L E s w=true):C1 L E s w=A8 s:=by unfold C1;rw [h,if_neg (by decide)]
theorem mlp_step {L:List Tok} {E:Int} {g:Nat} {l:List Hd} {u:Rd} {r:List Hd × Rd} (hok:okR u=true) (hnb:isR L E u [125]=false) (hon:isR L E u [111,110]=true) (hl:l.length+1<=32) (h:L9 L E (g+1) l u=some r) :
  ∃ q,hdM L E g u=some q/\(okR q.2=true->L9 L E g (l++[q.1]) q.2=some r)/\(okR q.2=false->r.2=q.2):=by
 unfold L9 at h;dsimp only at h;rw [if_pos ⟨hok,hnb⟩,if_neg (by simp [hon]),U9 (by omega),exp_at hon] at h;unfold hdM;dsimp only;by_cases hk:B4 L E (A8 u) C9<0
 ·rw [if_pos hk] at h ⊢;cases h;exact ⟨_,rfl,fun k=>(by rw [A2c] at k;cases k),fun _=>rfl⟩
 ·rw [if_neg hk] at h ⊢;generalize (if 2<=B4 L E (A8 u) C9 then (A6 L E (A8 (A8 u)) 1).2 else A8 (A8 u))=s4 at h ⊢;cases hb:E9 L E g 1 s4 with
  | none=>rw [hb] at h;cases h
  | some qb =>
   obtain ⟨bd,m5⟩:=qb;rw [hb] at h;dsimp only at h ⊢;exact ⟨_,rfl,fun _=>h,fun k=>mlp_nok h k⟩
theorem c_pmode (L:List Tok) (E:Int) (hL:L.length<=1000000000) (hK:∀ t∈L,F9 t) (f:Nat) (s:Rd) (r:Md × Rd) (h:Z8 L E f s=some r) (hP:PI L s) (hmo:isP L E s 2 [[109,111,100,101]]=true) :
  ∀ (H:Hp) (cc t:Nat),H t=some (paB L E s)->t<cc->AC Tryz.prog 127 [.ptr t 0] H cc (fun v H' c' => ∃ x s',v=Md.v x/\H'=H.upd t (paB L E s')/\Eqv s' r.2/\(okR r.2=true->x=r.1)/\PI L s'):=by
 intro H cc t ht htc;obtain ⟨hok0,hi0,hk2⟩:=P1 (by decide) hmo;have htk:A6 L E s 2=(A3 L E s,A8 s):=by
  have hkk:F5 L E s 2=true:=by unfold F5;rw [hok0,hk2];rfl
  unfold A6;rw [hkk,if_neg (by decide)]
 have hP1:=hP.nxt hi0;unfold Z8 at h;dsimp only at h;have hmoR:isR L E s [109,111,100,101]=true:=by rw [R0 hK (by decide +kernel)];exact hmo
 rw [exp_at hmoR] at h;have hri0:=hP.i;have hri1:=hP1.i;have b2:=(hP1.take (E:=E) (x:=1) (by decide)).1;generalize hs1:A8 s=s1 at h b2 hP1 hri1 htk;have b3:=(b2.take (E:=E) (x:=3) (by decide)).1;have b4:=(b3.want (E:=E) (k:=5) (w:=[123]) (by decide)).1;rw [W9 hK (by decide +kernel)] at b4;refine AC.bodyT A7 rfl (Nat.le_of_ble_eq_true rfl) fun hfr=>?_;repeat' ((with_reducible first|refine wr ?_|refine k_cu ?_ ?_|refine wb2 ?_ ?_<;>(intro hb;try simp only [hb])|fail)<;>try simp only [go_sem,seval])
 refine AC.call (c_ptake L E s _ _ t (by rw [A2 (by omega)];exact ht) (by omega) (by omega) 2) ?_;rintro v H' c1 ⟨rfl,rfl⟩ hc1;rw [htk];have ne0:=K0 t cc c1 (by omega);simp only [go_sem,seval,ne0,A0,A1];repeat' ((with_reducible first|refine wr ?_|refine k_cu ?_ ?_|refine wb2 ?_ ?_<;>(intro hb;try simp only [hb])|fail)<;>try simp only [go_sem,seval,ne0,A0,A1])
 refine AC.call (c_ptake L E s1 _ _ t (by repeat (first|exact A0|rw [A2 (by omega)])) (by omega) (by omega) 1) ?_;rintro v H' c3 ⟨rfl,rfl⟩ hc3;simp only [go_sem,seval,ne0,A0,A1];repeat' ((with_reducible first|refine wr ?_|refine k_cu ?_ ?_|refine wb2 ?_ ?_<;>(intro hb;try simp only [hb])|fail)<;>try simp only [go_sem,seval,ne0,A0,A1])
 generalize (A6 L E s1 1).1.text=n at h ⊢;generalize (A6 L E s1 1).2=s2 at h b2 b3 b4 ⊢;have hri2:=b2.i;refine AC.call (c_ptake L E s2 _ _ t (by repeat (first|exact A0|rw [A2 (by omega)])) (by omega) (by omega) 3) ?_;rintro v H' c4 ⟨rfl,rfl⟩ hc4;simp only [go_sem,seval,ne0,A0,A1];repeat' ((with_reducible first|refine wr ?_|refine k_cu ?_ ?_|refine wb2 ?_ ?_<;>(intro hb;try simp only [hb])|fail)<;>try simp only [go_sem,seval,ne0,A0,A1])
 have hri3:=b3.i;refine AC.call (c_want L E (A6 L E s2 3).2 _ _ t (by repeat (first|exact A0|rw [A2 (by omega)])) (by omega) (by omega) 5 [123]) ?_;rintro v H' c5 ⟨rfl,rfl⟩ hc5;rw [W9 hK (by decide +kernel)];generalize (A6 L E s2 3).1.value=z at h ⊢;generalize C1 L E (A6 L E s2 3).2 [123]=s3 at h b4 ⊢;generalize (A3 L E s).pos=p at h ⊢;cases hm:L9 L E f [] s3 with
 | none=>rw [hm] at h;cases h
 | some q =>
  obtain ⟨hl,s4⟩:=q;rw [hm] at h;dsimp only at h;cases h;simp only [go_sem,seval,ne0,A0,A1];repeat' ((with_reducible first|refine wr ?_|refine k_cu ?_ ?_|refine wb2 ?_ ?_<;>(intro hb;try simp only [hb])|fail)<;>try simp only [go_sem,seval,ne0,A0,A1])
  refine D5 (fun _:Nat × Option Nat × List Hd × Rd=>[(0,.ptr t 0),(2,.ptr cc 0),(3,.ptr c1 0)]) (fun q=>C3 (((H.upd cc ⟨0,true,[.str [],I64 0,.snil,I64 0]⟩).upd c1 ⟨0,true,[.str n,I64 z,B3 q.2.1 q.2.2.1.length,I64 p]⟩).upd t (paB L E q.2.2.2)) q.2.1 ⟨4,true,A4 (q.2.2.1.map Hd.v)⟩)
   (fun q c=>c1+1<=c/\q.1<=f/\(q.2.1=none->q.2.2.1=[])/\(∀ i,q.2.1=some i->c1<i/\i<c)/\q.2.2.1.length<=32/\PI L q.2.2.2/\((okR q.2.2.2=true/\L9 L E q.1 q.2.2.1 q.2.2.2=some (hl,s4))\/(okR q.2.2.2=false/\Eqv q.2.2.2 s4))) (fun q=>q.1) (f,none,[],s3)
   (by simp [D0,tm,Tm.upd]) (fun j b hj=>?_) ⟨by omega,Nat.le_refl _,fun _=>rfl,(fun i hi=>by cases hi),by simp,b4,by
    cases ho:okR s3 with
    | true=>exact .inl ⟨rfl,hm⟩
    | false=>exact .inr ⟨rfl,by have:=mlp_nok hm ho;dsimp only at this;rw [this];exact .refl _⟩⟩ ?_
  ·simp only [C3,A2a] at hj;by_cases e1:j=t
   ·subst e1;rw [A0] at hj ⊢;exact hj
   ·rw [A2 e1] at hj ⊢;by_cases e2:j=c1
    ·subst e2;rw [A0] at hj ⊢;exact hj
    ·rw [A2 e2] at hj ⊢;simp only [A2 e1,A2 e2];exact hj
  clear hm b2 b3 b4;rintro ⟨g,o,l,u⟩ c ⟨hc,hg,hno,ho,hl1,hPu,hv⟩;dsimp only at hc hg hno ho hl1 hPu hv ⊢;have hriu:=hPu.i;have hHt:C3 (((H.upd cc ⟨0,true,[.str [],I64 0,.snil,I64 0]⟩).upd c1 ⟨0,true,[.str n,I64 z,B3 o l.length,I64 p]⟩).upd t (paB L E u)) o ⟨4,true,A4 (l.map Hd.v)⟩ t=some (paB L E u):=by rw [C6 (fun i hi=>by have:=ho i hi;omega),A0]
  have hbx:(C3 (((H.upd cc ⟨0,true,[.str [],I64 0,.snil,I64 0]⟩).upd c1 ⟨0,true,[.str n,I64 z,B3 o l.length,I64 p]⟩).upd t (paB L E u)) o ⟨4,true,A4 (l.map Hd.v)⟩) c1=some ⟨0,true,[.str n,I64 z,B3 o l.length,I64 p]⟩:=by rw [C6 (fun i hi=>by have:=ho i hi;omega),A2 (by omega),A0]
  have hbo:∀ i:Nat,o=some i->(C3 (((H.upd cc ⟨0,true,[.str [],I64 0,.snil,I64 0]⟩).upd c1 ⟨0,true,[.str n,I64 z,B3 o l.length,I64 p]⟩).upd t (paB L E u)) o ⟨4,true,A4 (l.map Hd.v)⟩) i=some ⟨4,true,A4 (l.map Hd.v)⟩:=fun i hi=>by subst hi;exact A0
  have hbj:∀ j:Nat,j<cc->¬ j=t->(C3 (((H.upd cc ⟨0,true,[.str [],I64 0,.snil,I64 0]⟩).upd c1 ⟨0,true,[.str n,I64 z,B3 o l.length,I64 p]⟩).upd t (paB L E u)) o ⟨4,true,A4 (l.map Hd.v)⟩) j=H j:=fun j h1 h2=>by rw [C6 (fun i hi=>by have:=ho i hi;omega),A2 h2,A2 (by omega),A2 (by omega)]
  have hb0:(C3 (((H.upd cc ⟨0,true,[.str [],I64 0,.snil,I64 0]⟩).upd c1 ⟨0,true,[.str n,I64 z,B3 o l.length,I64 p]⟩).upd t (paB L E u)) o ⟨4,true,A4 (l.map Hd.v)⟩) cc=some ⟨0,true,[.str [],I64 0,.snil,I64 0]⟩:=by rw [C6 (fun i hi=>by have:=ho i hi;omega),A2 (by omega),A2 (by omega),A0]
  have hbn:∀ j:Nat,c<=j->(C3 (((H.upd cc ⟨0,true,[.str [],I64 0,.snil,I64 0]⟩).upd c1 ⟨0,true,[.str n,I64 z,B3 o l.length,I64 p]⟩).upd t (paB L E u)) o ⟨4,true,A4 (l.map Hd.v)⟩) j=none:=fun j h1=>by rw [C6 (fun i hi=>by have:=ho i hi;omega),A2 (by omega),A2 (by omega),A2 (by omega)];exact hfr _ (by omega)
  have hT:(B3 o l.length).one=true:=by cases o<;>rfl
  have hlen:A2k (B3 o l.length)=some (I64 l.length):=by
   cases o with
   | none=>rw [hno rfl];rfl
   | some b=>rfl
  generalize hHH:C3 (((H.upd cc ⟨0,true,[.str [],I64 0,.snil,I64 0]⟩).upd c1 ⟨0,true,[.str n,I64 z,B3 o l.length,I64 p]⟩).upd t (paB L E u)) o ⟨4,true,A4 (l.map Hd.v)⟩=HH at hHt hbx hbo hbj hb0 hbn ⊢;have fin:∀ (u2:Rd) (e:DV) (x:Blk) (q1 q2:DV),GL ((HH.upd t (paB L E u2)).upd cc x) [.agg [q1,q2,B3 o l.length,e]] (H.upd t (paB L E u2)) [.agg [q1,q2,A2l l,e]]:=fun u2 e x q1 q2 =>
   gl_md (cc:=cc) l (A9 hfr htc) (fun i hi=>by have:=ho i hi;omega) hno (fun i hi=>by have:=ho i hi;rw [A2 (by omega),A2 (by omega)];exact hbo i hi) (fun j hj=>by
    rw [A2 (by omega)];by_cases e1:j=t
    ·subst e1;rw [A0,A0]
    ·rw [A2 e1,A2 e1,hbj j hj e1])
  repeat' ((with_reducible first|refine wr ?_|refine k_cu ?_ ?_|refine wb2 ?_ ?_<;>(intro hb;try simp only [hb])|fail)<;>try simp only [go_sem,seval])
  refine AC.call (c_pisO L E u HH _ t c (hbn c (Nat.le_refl _)) hHt (by omega) 2 [[111,110]] (by simp)) ?_;rintro v H' c6 ⟨rfl,rfl⟩ hc6;have hend:isP L E u 2 [[111,110]]=false->Eqv (D9 L E u 5 [125]) s4/\(okR s4=true->l=hl):=fun hon=>by
   rcases hv with ⟨hok,hv⟩|⟨hok,hv⟩
   ·cases g with
    | zero=>simp [L9] at hv
    | succ g =>
     unfold L9 at hv;dsimp only at hv;by_cases hb:isR L E u [125]=false
     ·rw [if_pos ⟨hok,hb⟩,if_pos (by rw [R0 hK (by decide +kernel)];exact hon)] at hv;cases hv;have hw:D9 L E u 5 [125]=J2 L E u:=by rw [D9, <- E7 hK (by decide +kernel),if_pos hb];rfl
      rw [hw];exact ⟨.refl _,fun _=>rfl⟩
     ·rw [if_neg (fun hh=>hb hh.2)] at hv;cases hv;rw [W9 hK (by decide +kernel)];exact ⟨.refl _,fun _=>rfl⟩
   ·rw [A4h hok];exact ⟨hv,fun k=>by rw [<- hv.ok,hok] at k;cases k⟩
  cases hon:isP L E u 2 [[111,110]] with
  | false =>
   obtain ⟨r1,r2⟩:=hend hon;have b7:=(hPu.want (E:=E) (k:=5) (w:=[125]) (by decide)).1;simp only [go_sem,seval,hon];repeat' ((with_reducible first|refine wr ?_|refine k_cu ?_ ?_|refine wb2 ?_ ?_<;>(intro hb;try simp only [hb])|fail)<;>try simp only [go_sem,seval,hon])
   refine AC.call (c_want L E u _ _ t hHt (by omega) (by omega) 5 [125]) ?_;rintro v H' c7 ⟨rfl,rfl⟩ hc7;simp only [go_sem,seval,ne0,A0,hbx,hb0,hT];repeat' ((with_reducible first|refine wr ?_|refine k_cu ?_ ?_|refine wb2 ?_ ?_<;>(intro hb;try simp only [hb])|fail)<;>try simp only [go_sem,seval,ne0,A0,hbx,hb0,hT])
   refine D1 (A3i (by rfl) (by decide) (by clear hHH;cases o<;>rfl)) ?_;simp only [go_sem,seval,ne0,A0];repeat' ((with_reducible first|refine wr ?_|refine k_cu ?_ ?_|refine wb2 ?_ ?_<;>(intro hb;try simp only [hb])|fail)<;>try simp only [go_sem,seval,ne0,A0])
   rw [B8 (rv4 rfl A0)];exact ⟨_,_,fin _ _ _ _ _,⟨n,z,l,p⟩,_,rfl,rfl,r1,fun k=>(by rw [r2 k]),b7⟩
  | true =>
   obtain ⟨hok,hlt,hkd2⟩:=P1 (by decide) hon;have hv:L9 L E g l u=some (hl,s4):=by
    rcases hv with ⟨-,hv⟩|⟨hn, -⟩
    ·exact hv
    ·rw [hok] at hn;cases hn
   have hnb:isR L E u [125]=false:=by
    rw [E7 hK (by decide +kernel)];unfold isP;rw [hkd2];simp
   have honR:isR L E u [111,110]=true:=by rw [R0 hK (by decide +kernel)];exact hon
   cases g with
   | zero=>simp [L9] at hv
   | succ g =>
   by_cases h32:l.length=32
   ·have hd32:((l.length:Int) == 32)=true:=by simp;omega
    have hs4:s4=pfl L E u 9:=by
     unfold L9 at hv;dsimp only at hv;have hl9:B7 L E u ((l.length:Int)+1) 32 9=pfl L E u 9:=by rw [S1,if_pos (by omega)]
     have hnk:okR (pfl L E u 9)=false:=by unfold pfl;exact N0 (by decide)
     rw [if_pos ⟨hok,hnb⟩,if_neg (by simp [honR]),hl9,A1s hnk,B4,Y0 hnk,if_pos (by decide),A3q hnk] at hv;cases hv;rfl
    have hnk:okR (pfl L E u 9)=false:=by unfold pfl;exact N0 (by decide)
    simp only [go_sem,seval,hon];repeat' ((with_reducible first|refine wr ?_|refine k_cu ?_ ?_|refine wb2 ?_ ?_<;>(intro hb;try simp only [hb])|fail)<;>try simp only [go_sem,seval,hon,hbx,hlen,hd32])
    refine AC.call (c_pfail L E u _ _ t hHt (by omega) 9) ?_;rintro v H' c7 ⟨rfl,rfl⟩ hc7;have b7:=hPu.fl (E:=E) (e:=9);have hri7:=b7.i;simp only [go_sem,seval];repeat' ((with_reducible first|refine wr ?_|refine k_cu ?_ ?_|refine wb2 ?_ ?_<;>(intro hb;try simp only [hb])|fail)<;>try simp only [go_sem,seval])
    refine AC.call (c_want L E (pfl L E u 9) _ _ t A0 (by omega) (by omega) 5 [125]) ?_;rintro v H' c8 ⟨rfl,rfl⟩ hc8;rw [A4h hnk,A1];simp only [go_sem,seval,ne0,A0,hbx,hb0,hT];repeat' ((with_reducible first|refine wr ?_|refine k_cu ?_ ?_|refine wb2 ?_ ?_<;>(intro hb;try simp only [hb])|fail)<;>try simp only [go_sem,seval,ne0,A0,hbx,hb0,hT])
    refine D1 (A3i (by rfl) (by decide) (by clear hHH;cases o<;>rfl)) ?_;simp only [go_sem,seval,ne0,A0];repeat' ((with_reducible first|refine wr ?_|refine k_cu ?_ ?_|refine wb2 ?_ ?_<;>(intro hb;try simp only [hb])|fail)<;>try simp only [go_sem,seval,ne0,A0])
    rw [B8 (rv4 rfl A0)];refine ⟨_,_,fin _ _ _ _ _,⟨n,z,l,p⟩,_,rfl,rfl,by rw [hs4];exact .refl _,fun k=>?_,b7⟩;rw [hs4,hnk] at k;cases k
   have hd32:((l.length:Int) == 32)=false:=by simp;omega
   obtain ⟨q,hq1,hq2,hq3⟩:=mlp_step hok hnb honR (by omega) hv;simp only [go_sem,seval,hon];repeat' ((with_reducible first|refine wr ?_|refine k_cu ?_ ?_|refine wb2 ?_ ?_<;>(intro hb;try simp only [hb])|fail)<;>try simp only [go_sem,seval,hon,hbx,hlen,hd32])
   refine AC.call (c_phand L E hL hK g u q hq1 hPu hon _ _ t hHt (by omega)) ?_;rintro v H' c7 ⟨x,s5,rfl,rfl,y1,y2,y3⟩ hc7;have ne0:=O1 t cc c1 (c6+4) c7 (by omega);simp only [go_sem,seval,ne0,A0,A1,hbx];repeat' ((with_reducible first|refine wr ?_|refine k_cu ?_ ?_|refine wb2 ?_ ?_<;>(intro hb;try simp only [hb])|fail)<;>try simp only [go_sem,seval,ne0,A0,A1,hbx])
   refine ⟨⟨by rw [A2 (by omega)];exact hbn _ (by omega),by rw [A2 (by omega)];exact hbn _ (by omega)⟩,?_⟩;have hl4:(A4 (l.map Hd.v)).length=l.length * 4:=C7 (u:=4) (A4c _) |>.trans (by simp);refine N1 (F4 (cs:=A4 (l.map Hd.v)) (fun e=>by rw [hno e];exact ⟨rfl,rfl⟩) (fun i hi=>?_) hl4 (by omega) (by omega) (by omega)) ?_
   ·have:=ho i hi
    repeat rw [A2 (by omega)]
    exact hbo i hi
   have hdx:∀ X:Hp,R2 X o c1=X c1:=fun X=>D4 (fun i hi=>by have:=ho i hi;omega);simp only [go_sem,seval,ne0,A0,A1,hdx,hbx];repeat' ((with_reducible first|refine wr ?_|refine k_cu ?_ ?_|refine wb2 ?_ ?_<;>(intro hb;try simp only [hb])|fail)<;>try simp only [go_sem,seval,ne0,A0,A1,hdx,hbx])
   refine ⟨(g,some c7,l++[x],s5),?_,inv ⟨by omega,by simp only;omega,(fun h=>by cases h),(fun i hi=>by cases hi;omega),by simp only [List.length_append,List.length_singleton];omega,y3,?_⟩,by simp only;omega⟩
   ·intro j b hj;simp only [C3,X0,List.length_append,List.length_singleton,List.map_append,E3] at hj;by_cases e1:j=c7
    ·subst e1;rw [A0] at hj;rw [A2 (by omega),A0, <- hj];rfl
    rw [A2 e1] at hj;by_cases e2:j=t
    ·subst e2;rw [A0] at hj;rw [A2 (by omega),A2 (by omega),D4 (fun i hi=>by have:=ho i hi;omega),A2 (by omega),A0];exact hj
    rw [A2 e2] at hj;by_cases e3:j=c1
    ·subst e3;rw [A0] at hj ⊢;exact hj
    rw [A2 e3] at hj ⊢;by_cases e4:j=cc
    ·subst e4;rw [A0] at hj;rw [A2 (by omega),D4 (fun i hi=>by have:=ho i hi;omega)]
     repeat rw [A2 (by omega)]
     rw [hb0];exact hj
    ·rw [A2 e4] at hj;have hjc:j<cc:=Classical.byContradiction fun h=>by rw [hfr j (by omega)] at hj;cases hj
     rw [A2 (by omega),D4 (fun i hi=>by have:=ho i hi;omega)]
     repeat rw [A2 (by omega)]
     rw [hbj j hjc e2];exact hj
   ·dsimp only;cases k:okR q.2 with
    | true =>
     have e5:=y1.s k;rw [y2 k,e5];exact .inl ⟨k,hq2 k⟩
    | false =>
     have e5:=hq3 k;dsimp only at e5;rw [e5];exact .inr ⟨by rw [y1.ok,k],y1⟩
end Go.Proofs.YthlpinppaclofaaGreatDoor
end

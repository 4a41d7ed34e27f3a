/-
  HELPERS of the claim: part 9 of its texts.
-/
import Derived.Test.YthlpinppaclofaaGreatDoorSyxh
import Derived.Maps.RangeRun
import Derived.Test.YthlpinppaclofaaGreatDoorProg
noncomputable section
set_option maxHeartbeats 8000000
set_option maxRecDepth 100000
set_option linter.unusedSimpArgs false
set_option linter.unusedVariables false
namespace Go.Proofs.YthlpinppaclofaaGreatDoor
open Go.Eng (IC IOper DReg IFn B5)
open Go.Sym Go.Pb
theorem mlp_nok {L:List Tok} {E:Int} {g:Nat} {l:List Hd} {s:Rd} {r:List Hd × Rd} (h:R8 L E g l s=some r) (ho:okR s=false):r.2=s:=by
 cases g with
 | zero=>simp [R8] at h
 | succ g =>
  unfold R8 at h;dsimp only at h;rw [ho,if_neg (by simp),A3k ho] at h;cases h;rfl
theorem exp_at {L:List Tok} {E:Int} {s:Rd} {w:List UInt8} (h:isR L E s w=true):C7 L E s w=B3 s:=by unfold C7;rw [h,if_neg (by decide)]
theorem mlp_step {L:List Tok} {E:Int} {g:Nat} {l:List Hd} {u:Rd} {r:List Hd × Rd} (hok:okR u=true) (hnb:isR L E u [125]=false) (hon:isR L E u [111,110]=true) (hl:l.length+1<=32) (h:R8 L E (g+1) l u=some r) :
  ∃ q,hdM L E g u=some q/\(okR q.2=true->R8 L E g (l++[q.1]) q.2=some r)/\(okR q.2=false->r.2=q.2):=by
 unfold R8 at h;dsimp only at h;rw [if_pos ⟨hok,hnb⟩,if_neg (by simp [hon]),W7 (by omega),exp_at hon] at h;unfold hdM;dsimp only;by_cases hk:B7 L E (B3 u) E1<0
 ·rw [if_pos hk] at h ⊢;cases h;exact ⟨_,rfl,fun k=>(by rw [Z4] at k;cases k),fun _=>rfl⟩
 ·rw [if_neg hk] at h ⊢;generalize (if 2<=B7 L E (B3 u) E1 then (A9 L E (B3 (B3 u)) 1).2 else B3 (B3 u))=s4 at h ⊢;cases hb:I8 L E g 1 s4 with
  | none=>rw [hb] at h;cases h
  | some qb =>
   obtain ⟨bd,m5⟩:=qb;rw [hb] at h;dsimp only at h ⊢;exact ⟨_,rfl,fun _=>h,fun k=>mlp_nok h k⟩
theorem c_pmode (L:List Tok) (E:Int) (hL:L.length<=1000000000) (hK:∀ t∈L,G4 t) (f:Nat) (s:Rd) (r:Md × Rd) (h:A8d L E f s=some r) (hP:PI L s) (hmo:isP L E s 2 [[109,111,100,101]]=true) :
  ∀ (H:Hp) (cc t:Nat),H t=some (paB L E s)->t<cc->AC Tryz.prog 127 [.ptr t 0] H cc (fun v H' c' => ∃ x s',v=Md.v x/\H'=H.upd t (paB L E s')/\Eqv s' r.2/\(okR r.2=true->x=r.1)/\PI L s'):=by
 intro H cc t ht htc;obtain ⟨hok0,hi0,hk2⟩:=P3 (by decide) hmo;have htk:A9 L E s 2=(A3 L E s,B3 s):=by
  have hkk:F2 L E s 2=true:=by unfold F2;rw [hok0,hk2];rfl
  unfold A9;rw [hkk,if_neg (by decide)]
 have hP1:=hP.nxt hi0;unfold A8d at h;dsimp only at h;have hmoR:isR L E s [109,111,100,101]=true:=by rw [R1 hK (by decide +kernel)];exact hmo
 rw [exp_at hmoR] at h;have hri0:=hP.i;have hri1:=hP1.i;have b2:=(hP1.take (E:=E) (x:=1) (by decide)).1;generalize hs1:B3 s=s1 at h b2 hP1 hri1 htk;have b3:=(b2.take (E:=E) (x:=3) (by decide)).1;have b4:=(b3.want (E:=E) (k:=5) (w:=[123]) (by decide)).1;rw [Z2 hK (by decide +kernel)] at b4;refine AC.bodyT A6 rfl (Nat.le_of_ble_eq_true rfl) fun hfr=>?_;repeat' ((with_reducible first|refine wr ?_|refine k_cu ?_ ?_|refine wb2 ?_ ?_<;>(intro hb;try simp only [hb])|fail)<;>try simp only [go_sem,seval])
 refine AC.call (c_ptake L E s _ _ t (by rw [A2 (by omega)];exact ht) (by omega) (by omega) 2) ?_;rintro v H' c1 ⟨rfl,rfl⟩ hc1;rw [htk];have ne0:=O0 t cc c1 (by omega);simp only [go_sem,seval,ne0,A0,A1];repeat' ((with_reducible first|refine wr ?_|refine k_cu ?_ ?_|refine wb2 ?_ ?_<;>(intro hb;try simp only [hb])|fail)<;>try simp only [go_sem,seval,ne0,A0,A1])
 refine AC.call (c_ptake L E s1 _ _ t (by repeat (first|exact A0|rw [A2 (by omega)])) (by omega) (by omega) 1) ?_;rintro v H' c3 ⟨rfl,rfl⟩ hc3;simp only [go_sem,seval,ne0,A0,A1];repeat' ((with_reducible first|refine wr ?_|refine k_cu ?_ ?_|refine wb2 ?_ ?_<;>(intro hb;try simp only [hb])|fail)<;>try simp only [go_sem,seval,ne0,A0,A1])
 generalize (A9 L E s1 1).1.text=n at h ⊢;generalize (A9 L E s1 1).2=s2 at h b2 b3 b4 ⊢;have hri2:=b2.i;refine AC.call (c_ptake L E s2 _ _ t (by repeat (first|exact A0|rw [A2 (by omega)])) (by omega) (by omega) 3) ?_;rintro v H' c4 ⟨rfl,rfl⟩ hc4;simp only [go_sem,seval,ne0,A0,A1];repeat' ((with_reducible first|refine wr ?_|refine k_cu ?_ ?_|refine wb2 ?_ ?_<;>(intro hb;try simp only [hb])|fail)<;>try simp only [go_sem,seval,ne0,A0,A1])
 have hri3:=b3.i;refine AC.call (c_want L E (A9 L E s2 3).2 _ _ t (by repeat (first|exact A0|rw [A2 (by omega)])) (by omega) (by omega) 5 [123]) ?_;rintro v H' c5 ⟨rfl,rfl⟩ hc5;rw [Z2 hK (by decide +kernel)];generalize (A9 L E s2 3).1.value=z at h ⊢;generalize C7 L E (A9 L E s2 3).2 [123]=s3 at h b4 ⊢;generalize (A3 L E s).pos=p at h ⊢;cases hm:R8 L E f [] s3 with
 | none=>rw [hm] at h;cases h
 | some q =>
  obtain ⟨hl,s4⟩:=q;rw [hm] at h;dsimp only at h;cases h;simp only [go_sem,seval,ne0,A0,A1];repeat' ((with_reducible first|refine wr ?_|refine k_cu ?_ ?_|refine wb2 ?_ ?_<;>(intro hb;try simp only [hb])|fail)<;>try simp only [go_sem,seval,ne0,A0,A1])
  refine D6 (fun _:Nat × Option Nat × List Hd × Rd=>[(0,.ptr t 0),(2,.ptr cc 0),(3,.ptr c1 0)]) (fun q=>D1 (((H.upd cc ⟨0,true,[.str [],I64 0,.snil,I64 0]⟩).upd c1 ⟨0,true,[.str n,I64 z,C2 q.2.1 q.2.2.1.length,I64 p]⟩).upd t (paB L E q.2.2.2)) q.2.1 ⟨4,true,A7 (q.2.2.1.map Hd.v)⟩)
   (fun q c=>c1+1<=c/\q.1<=f/\(q.2.1=none->q.2.2.1=[])/\(∀ i,q.2.1=some i->c1<i/\i<c)/\q.2.2.1.length<=32/\PI L q.2.2.2/\((okR q.2.2.2=true/\R8 L E q.1 q.2.2.1 q.2.2.2=some (hl,s4))\/(okR q.2.2.2=false/\Eqv q.2.2.2 s4))) (fun q=>q.1) (f,none,[],s3)
   (by simp [C5,tm,Tm.upd]) (fun j b hj=>?_) ⟨by omega,Nat.le_refl _,fun _=>rfl,(fun i hi=>by cases hi),by simp,b4,by
    cases ho:okR s3 with
    | true=>exact .inl ⟨rfl,hm⟩
    | false=>exact .inr ⟨rfl,by have:=mlp_nok hm ho;dsimp only at this;rw [this];exact .refl _⟩⟩ ?_
  ·simp only [D1,A9r] at hj;by_cases e1:j=t
   ·subst e1;rw [A0] at hj ⊢;exact hj
   ·rw [A2 e1] at hj ⊢;by_cases e2:j=c1
    ·subst e2;rw [A0] at hj ⊢;exact hj
    ·rw [A2 e2] at hj ⊢;simp only [A2 e1,A2 e2];exact hj
  clear hm b2 b3 b4;rintro ⟨g,o,l,u⟩ c ⟨hc,hg,hno,ho,hl1,hPu,hv⟩;dsimp only at hc hg hno ho hl1 hPu hv ⊢;have hriu:=hPu.i;have hHt:D1 (((H.upd cc ⟨0,true,[.str [],I64 0,.snil,I64 0]⟩).upd c1 ⟨0,true,[.str n,I64 z,C2 o l.length,I64 p]⟩).upd t (paB L E u)) o ⟨4,true,A7 (l.map Hd.v)⟩ t=some (paB L E u):=by rw [F5 (fun i hi=>by have:=ho i hi;omega),A0]
  have hbx:(D1 (((H.upd cc ⟨0,true,[.str [],I64 0,.snil,I64 0]⟩).upd c1 ⟨0,true,[.str n,I64 z,C2 o l.length,I64 p]⟩).upd t (paB L E u)) o ⟨4,true,A7 (l.map Hd.v)⟩) c1=some ⟨0,true,[.str n,I64 z,C2 o l.length,I64 p]⟩:=by rw [F5 (fun i hi=>by have:=ho i hi;omega),A2 (by omega),A0]
  have hbo:∀ i:Nat,o=some i->(D1 (((H.upd cc ⟨0,true,[.str [],I64 0,.snil,I64 0]⟩).upd c1 ⟨0,true,[.str n,I64 z,C2 o l.length,I64 p]⟩).upd t (paB L E u)) o ⟨4,true,A7 (l.map Hd.v)⟩) i=some ⟨4,true,A7 (l.map Hd.v)⟩:=fun i hi=>by subst hi;exact A0
  have hbj:∀ j:Nat,j<cc->¬ j=t->(D1 (((H.upd cc ⟨0,true,[.str [],I64 0,.snil,I64 0]⟩).upd c1 ⟨0,true,[.str n,I64 z,C2 o l.length,I64 p]⟩).upd t (paB L E u)) o ⟨4,true,A7 (l.map Hd.v)⟩) j=H j:=fun j h1 h2=>by rw [F5 (fun i hi=>by have:=ho i hi;omega),A2 h2,A2 (by omega),A2 (by omega)]
  have hb0:(D1 (((H.upd cc ⟨0,true,[.str [],I64 0,.snil,I64 0]⟩).upd c1 ⟨0,true,[.str n,I64 z,C2 o l.length,I64 p]⟩).upd t (paB L E u)) o ⟨4,true,A7 (l.map Hd.v)⟩) cc=some ⟨0,true,[.str [],I64 0,.snil,I64 0]⟩:=by rw [F5 (fun i hi=>by have:=ho i hi;omega),A2 (by omega),A2 (by omega),A0]
  have hbn:∀ j:Nat,c<=j->(D1 (((H.upd cc ⟨0,true,[.str [],I64 0,.snil,I64 0]⟩).upd c1 ⟨0,true,[.str n,I64 z,C2 o l.length,I64 p]⟩).upd t (paB L E u)) o ⟨4,true,A7 (l.map Hd.v)⟩) j=none:=fun j h1=>by rw [F5 (fun i hi=>by have:=ho i hi;omega),A2 (by omega),A2 (by omega),A2 (by omega)];exact hfr _ (by omega)
  have hT:(C2 o l.length).one=true:=by cases o<;>rfl
  have hlen:B0n (C2 o l.length)=some (I64 l.length):=by
   cases o with
   | none=>rw [hno rfl];rfl
   | some b=>rfl
  generalize hHH:D1 (((H.upd cc ⟨0,true,[.str [],I64 0,.snil,I64 0]⟩).upd c1 ⟨0,true,[.str n,I64 z,C2 o l.length,I64 p]⟩).upd t (paB L E u)) o ⟨4,true,A7 (l.map Hd.v)⟩=HH at hHt hbx hbo hbj hb0 hbn ⊢;have fin:∀ (u2:Rd) (e:DV) (x:Blk) (q1 q2:DV),GL ((HH.upd t (paB L E u2)).upd cc x) [.agg [q1,q2,C2 o l.length,e]] (H.upd t (paB L E u2)) [.agg [q1,q2,A8e l,e]]:=fun u2 e x q1 q2 =>
   gl_md (cc:=cc) l (B9 hfr htc) (fun i hi=>by have:=ho i hi;omega) hno (fun i hi=>by have:=ho i hi;rw [A2 (by omega),A2 (by omega)];exact hbo i hi) (fun j hj=>by
    rw [A2 (by omega)];by_cases e1:j=t
    ·subst e1;rw [A0,A0]
    ·rw [A2 e1,A2 e1,hbj j hj e1])
  repeat' ((with_reducible first|refine wr ?_|refine k_cu ?_ ?_|refine wb2 ?_ ?_<;>(intro hb;try simp only [hb])|fail)<;>try simp only [go_sem,seval])
  refine AC.call (c_pisO L E u HH _ t c (hbn c (Nat.le_refl _)) hHt (by omega) 2 [[111,110]] (by simp)) ?_;rintro v H' c6 ⟨rfl,rfl⟩ hc6;have hend:isP L E u 2 [[111,110]]=false->Eqv (E0 L E u 5 [125]) s4/\(okR s4=true->l=hl):=fun hon=>by
   rcases hv with ⟨hok,hv⟩|⟨hok,hv⟩
   ·cases g with
    | zero=>simp [R8] at hv
    | succ g =>
     unfold R8 at hv;dsimp only at hv;by_cases hb:isR L E u [125]=false
     ·rw [if_pos ⟨hok,hb⟩,if_pos (by rw [R1 hK (by decide +kernel)];exact hon)] at hv;cases hv;have hw:E0 L E u 5 [125]=K8 L E u:=by rw [E0, <- E8 hK (by decide +kernel),if_pos hb];rfl
      rw [hw];exact ⟨.refl _,fun _=>rfl⟩
     ·rw [if_neg (fun hh=>hb hh.2)] at hv;cases hv;rw [Z2 hK (by decide +kernel)];exact ⟨.refl _,fun _=>rfl⟩
   ·rw [A5z hok];exact ⟨hv,fun k=>by rw [<- hv.ok,hok] at k;cases k⟩
  cases hon:isP L E u 2 [[111,110]] with
  | false =>
   obtain ⟨r1,r2⟩:=hend hon;have b7:=(hPu.want (E:=E) (k:=5) (w:=[125]) (by decide)).1;simp only [go_sem,seval,hon];repeat' ((with_reducible first|refine wr ?_|refine k_cu ?_ ?_|refine wb2 ?_ ?_<;>(intro hb;try simp only [hb])|fail)<;>try simp only [go_sem,seval,hon])
   refine AC.call (c_want L E u _ _ t hHt (by omega) (by omega) 5 [125]) ?_;rintro v H' c7 ⟨rfl,rfl⟩ hc7;simp only [go_sem,seval,ne0,A0,hbx,hb0,hT];repeat' ((with_reducible first|refine wr ?_|refine k_cu ?_ ?_|refine wb2 ?_ ?_<;>(intro hb;try simp only [hb])|fail)<;>try simp only [go_sem,seval,ne0,A0,hbx,hb0,hT])
   refine D4 (b_st (by rfl) (by decide) (by clear hHH;cases o<;>rfl)) ?_;simp only [go_sem,seval,ne0,A0];repeat' ((with_reducible first|refine wr ?_|refine k_cu ?_ ?_|refine wb2 ?_ ?_<;>(intro hb;try simp only [hb])|fail)<;>try simp only [go_sem,seval,ne0,A0])
   rw [C3 (rv4 rfl A0)];exact ⟨_,_,fin _ _ _ _ _,⟨n,z,l,p⟩,_,rfl,rfl,r1,fun k=>(by rw [r2 k]),b7⟩
  | true =>
   obtain ⟨hok,hlt,hkd2⟩:=P3 (by decide) hon;have hv:R8 L E g l u=some (hl,s4):=by
    rcases hv with ⟨-,hv⟩|⟨hn, -⟩
    ·exact hv
    ·rw [hok] at hn;cases hn
   have hnb:isR L E u [125]=false:=by
    rw [E8 hK (by decide +kernel)];unfold isP;rw [hkd2];simp
   have honR:isR L E u [111,110]=true:=by rw [R1 hK (by decide +kernel)];exact hon
   cases g with
   | zero=>simp [R8] at hv
   | succ g =>
   by_cases h32:l.length=32
   ·have hd32:((l.length:Int) == 32)=true:=by simp;omega
    have hs4:s4=pfl L E u 9:=by
     unfold R8 at hv;dsimp only at hv;have hl9:C0 L E u ((l.length:Int)+1) 32 9=pfl L E u 9:=by rw [S7,if_pos (by omega)]
     have hnk:okR (pfl L E u 9)=false:=by unfold pfl;exact M8 (by decide)
     rw [if_pos ⟨hok,hnb⟩,if_neg (by simp [honR]),hl9,A3k hnk,B7,A0f hnk,if_pos (by decide),A5i hnk] at hv;cases hv;rfl
    have hnk:okR (pfl L E u 9)=false:=by unfold pfl;exact M8 (by decide)
    simp only [go_sem,seval,hon];repeat' ((with_reducible first|refine wr ?_|refine k_cu ?_ ?_|refine wb2 ?_ ?_<;>(intro hb;try simp only [hb])|fail)<;>try simp only [go_sem,seval,hon,hbx,hlen,hd32])
    refine AC.call (c_pfail L E u _ _ t hHt (by omega) 9) ?_;rintro v H' c7 ⟨rfl,rfl⟩ hc7;have b7:=hPu.fl (E:=E) (e:=9);have hri7:=b7.i;simp only [go_sem,seval];repeat' ((with_reducible first|refine wr ?_|refine k_cu ?_ ?_|refine wb2 ?_ ?_<;>(intro hb;try simp only [hb])|fail)<;>try simp only [go_sem,seval])
    refine AC.call (c_want L E (pfl L E u 9) _ _ t A0 (by omega) (by omega) 5 [125]) ?_;rintro v H' c8 ⟨rfl,rfl⟩ hc8;rw [A5z hnk,A1];simp only [go_sem,seval,ne0,A0,hbx,hb0,hT];repeat' ((with_reducible first|refine wr ?_|refine k_cu ?_ ?_|refine wb2 ?_ ?_<;>(intro hb;try simp only [hb])|fail)<;>try simp only [go_sem,seval,ne0,A0,hbx,hb0,hT])
    refine D4 (b_st (by rfl) (by decide) (by clear hHH;cases o<;>rfl)) ?_;simp only [go_sem,seval,ne0,A0];repeat' ((with_reducible first|refine wr ?_|refine k_cu ?_ ?_|refine wb2 ?_ ?_<;>(intro hb;try simp only [hb])|fail)<;>try simp only [go_sem,seval,ne0,A0])
    rw [C3 (rv4 rfl A0)];refine ⟨_,_,fin _ _ _ _ _,⟨n,z,l,p⟩,_,rfl,rfl,by rw [hs4];exact .refl _,fun k=>?_,b7⟩;rw [hs4,hnk] at k;cases k
   have hd32:((l.length:Int) == 32)=false:=by simp;omega
   obtain ⟨q,hq1,hq2,hq3⟩:=mlp_step hok hnb honR (by omega) hv;simp only [go_sem,seval,hon];repeat' ((with_reducible first|refine wr ?_|refine k_cu ?_ ?_|refine wb2 ?_ ?_<;>(intro hb;try simp only [hb])|fail)<;>try simp only [go_sem,seval,hon,hbx,hlen,hd32])
   refine AC.call (c_phand L E hL hK g u q hq1 hPu hon _ _ t hHt (by omega)) ?_;rintro v H' c7 ⟨x,s5,rfl,rfl,y1,y2,y3⟩ hc7;have ne0:=R7 t cc c1 (c6+4) c7 (by omega);simp only [go_sem,seval,ne0,A0,A1,hbx];repeat' ((with_reducible first|refine wr ?_|refine k_cu ?_ ?_|refine wb2 ?_ ?_<;>(intro hb;try simp only [hb])|fail)<;>try simp only [go_sem,seval,ne0,A0,A1,hbx])
   refine ⟨⟨by rw [A2 (by omega)];exact hbn _ (by omega),by rw [A2 (by omega)];exact hbn _ (by omega)⟩,?_⟩;have hl4:(A7 (l.map Hd.v)).length=l.length * 4:=C8 (u:=4) (hd_unit _) |>.trans (by simp);refine N8 (F7 (cs:=A7 (l.map Hd.v)) (fun e=>by rw [hno e];exact ⟨rfl,rfl⟩) (fun i hi=>?_) hl4 (by omega) (by omega) (by omega)) ?_
   ·have:=ho i hi
    repeat rw [A2 (by omega)]
    exact hbo i hi
   have hdx:∀ X:Hp,Q1 X o c1=X c1:=fun X=>K0 (fun i hi=>by have:=ho i hi;omega);simp only [go_sem,seval,ne0,A0,A1,hdx,hbx];repeat' ((with_reducible first|refine wr ?_|refine k_cu ?_ ?_|refine wb2 ?_ ?_<;>(intro hb;try simp only [hb])|fail)<;>try simp only [go_sem,seval,ne0,A0,A1,hdx,hbx])
   refine ⟨(g,some c7,l++[x],s5),?_,inv ⟨by omega,by simp only;omega,(fun h=>by cases h),(fun i hi=>by cases hi;omega),by simp only [List.length_append,List.length_singleton];omega,y3,?_⟩,by simp only;omega⟩
   ·intro j b hj;simp only [D1,A6g,List.length_append,List.length_singleton,List.map_append,F0] at hj;by_cases e1:j=c7
    ·subst e1;rw [A0] at hj;rw [A2 (by omega),A0, <- hj];rfl
    rw [A2 e1] at hj;by_cases e2:j=t
    ·subst e2;rw [A0] at hj;rw [A2 (by omega),A2 (by omega),K0 (fun i hi=>by have:=ho i hi;omega),A2 (by omega),A0];exact hj
    rw [A2 e2] at hj;by_cases e3:j=c1
    ·subst e3;rw [A0] at hj ⊢;exact hj
    rw [A2 e3] at hj ⊢;by_cases e4:j=cc
    ·subst e4;rw [A0] at hj;rw [A2 (by omega),K0 (fun i hi=>by have:=ho i hi;omega)]
     repeat rw [A2 (by omega)]
     rw [hb0];exact hj
    ·rw [A2 e4] at hj;have hjc:j<cc:=Classical.byContradiction fun h=>by rw [hfr j (by omega)] at hj;cases hj
     rw [A2 (by omega),K0 (fun i hi=>by have:=ho i hi;omega)]
     repeat rw [A2 (by omega)]
     rw [hbj j hjc e2];exact hj
   ·dsimp only;cases k:okR q.2 with
    | true =>
     have e5:=y1.s k;rw [y2 k,e5];exact .inl ⟨k,hq2 k⟩
    | false =>
     have e5:=hq3 k;dsimp only at e5;rw [e5];exact .inr ⟨by rw [y1.ok,k],y1⟩
theorem A5n {L:List Tok} {E:Int} {g:Nat} {l:List Md} {s:Rd} {r:List Md × Rd} (h:R4 L E g l s=some r) (ho:okR s=false):r=(l,s):=by
 cases g with
 | zero=>simp [R4] at h
 | succ g =>
  unfold R4 at h;dsimp only at h;rw [ho,if_neg (by simp)] at h;cases h;rfl
theorem rld_nok {L:List Tok} {E:Int} {g:Nat} {l:List Dc} {s:Rd} {r:List Dc × Rd} (h:W4 L E g l s=some r) (ho:okR s=false):r=(l,s):=by
 cases g with
 | zero=>simp [W4] at h
 | succ g =>
  unfold W4 at h;dsimp only at h;rw [B7,A0f ho,if_pos (by decide)] at h;cases h;rfl
theorem pi_exp {L:List Tok} {E:Int} (hK:∀ t∈L,G4 t) {s:Rd} {w:List UInt8} (hw:C9 w=false) (h:PI L s):PI L (C7 L E s w):=by
 rw [<- Z2 hK hw];exact (h.want (by decide)).1
theorem pi_dcl {L:List Tok} {E:Int} (hK:∀ t∈L,G4 t) {s:Rd} {k:Int} (h:PI L s) (hi:s.i<L.length):PI L (A4f L E k s).2:=by
 unfold A4f;dsimp only;have h1:=((h.nxt hi).take (E:=E) (x:=1) (by decide)).1;generalize (A9 L E (B3 s) 1).2=s2 at h1 ⊢;split
 ·have h2:PI L (if (k+1 == 6 && isR L E s2 [45])=true then B3 s2 else s2):=by
   split
   ·rename_i hh;simp only [Bool.and_eq_true] at hh;exact h1.nxt (A3g hh.2).2
   ·exact h1
  exact pi_exp hK (by decide +kernel) ((h2.take (E:=E) (x:=3) (by decide)).1)
 ·exact pi_exp hK (by decide +kernel) h1
theorem c_prules (L:List Tok) (E:Int) (hL:L.length<=1000000000) (hv0:∀ x∈L,0<=x.value/\x.value<=9223372036854775807) (hK:∀ t∈L,G4 t) (f:Nat) (s:Rd) (r:Ru × Rd) (h:A8a L E f s=some r) (hP:PI L s) :
  ∀ (H:Hp) (cc t:Nat),H t=some (paB L E s)->t<cc->AC Tryz.prog 73 [.ptr t 0] H cc (fun v H' c' => ∃ x s',v=Ru.v x/\H'=H.upd t (paB L E s')/\Eqv s' r.2/\(okR r.2=true->x=r.1)/\PI L s'):=by
 intro H cc t ht htc;refine AC.bodyT A6 rfl (Nat.le_of_ble_eq_true rfl) fun hfr=>?_;unfold A8a at h;cases hd:W4 L E f [] s with
 | none=>rw [hd] at h;cases h
 | some q =>
 obtain ⟨dl,s1⟩:=q;rw [hd] at h;dsimp only at h;cases hm:R4 L E f [] s1 with
 | none=>rw [hm] at h;cases h
 | some q =>
 obtain ⟨ml,s2⟩:=q;rw [hm] at h;cases h;have tail:∀ (o:Option Nat) (l:List Dc) (u:Rd) (c:Nat),cc+2<=c->(o=none->l=[])->(∀ i,o=some i->cc+1<i/\i<c)->PI L u->((okR u=true/\l=dl/\u=s1)\/(okR u=false/\Eqv u s1)) ->
   IW Tryz.prog 39 (pz Tryz.prog 73 (.o (.o (.o (.i .h))))) ⟨tm [(0,.ptr t 0),(2,.ptr cc 0),(3,.ptr (cc+1) 0)],D1 (((H.upd cc ⟨0,true,[.snil,.snil]⟩).upd t (paB L E u)).upd (cc+1) ⟨0,true,[C2 o l.length,.snil]⟩) o ⟨4,true,A7 (l.map Dc.v)⟩,c⟩ (rt [.cell 2 2 true] fun v H' c' => ∃ v2 H2,GL H' [v] H2 [v2]/\∃ x s',v2=Ru.v x/\H2=H.upd t (paB L E s')/\Eqv s' s2/\(okR s2=true->x=⟨dl,ml⟩)/\PI L s'):=by
  intro o l u c hc hno ho hPu hv;refine IW.keep [0,2,3] [.ptr t 0,.ptr cc 0,.ptr (cc+1) 0] (g_fin (Hb:=(H.upd cc ⟨0,true,[.snil,.snil]⟩).upd t (paB L E u)) (ci:=cc+1) (u:=4) (pre:=[]) (suf:=[.snil]) (xs:=l.map Dc.v) (by simp [DV.one]) (fun h=>by rw [hno h];rfl) (fun i hi=>by have:=ho i hi;exact ⟨by omega,by rw [A2 (by omega),A2 (by omega)];exact hfr i (by omega)⟩) (by simp) (dc_unit _)) ?_;repeat' ((with_reducible first|refine wr ?_|refine k_cu ?_ ?_|refine wb2 ?_ ?_<;>(intro hb;try simp only [hb])|fail)<;>try simp only [go_sem,seval])
  refine D6 (fun q:Nat × Option Nat × List Md × Rd=>[(0,.ptr t 0),(2,.ptr cc 0),(3,.ptr (cc+1) 0)]) (fun q=>D1 (((H.upd cc ⟨0,true,[.snil,.snil]⟩).upd t (paB L E q.2.2.2)).upd (cc+1) ⟨0,true,[A0p l,C2 q.2.1 q.2.2.1.length]⟩) q.2.1 ⟨4,true,A7 (q.2.2.1.map Md.v)⟩)
   (fun q c=>cc+2<=c/\q.1<=f/\(q.2.1=none->q.2.2.1=[])/\(∀ i,q.2.1=some i->cc+1<i/\i<c)/\q.2.2.1.length<=16/\PI L q.2.2.2/\((okR q.2.2.2=true/\l=dl/\R4 L E q.1 q.2.2.1 q.2.2.2=some (ml,s2))\/(okR q.2.2.2=false/\Eqv q.2.2.2 s2))) (fun q=>q.1) (f,none,[],u)
   (by simp [C5,tm,Tm.upd]) (fun j b hj=>hj) ⟨by omega,Nat.le_refl _,fun _=>rfl,(fun i hi=>by cases hi),by simp,hPu,by
    rcases hv with ⟨g1,g2,g3⟩|⟨g1,g2⟩
    ·exact .inl ⟨g1,g2,by dsimp only;rw [g3];exact hm⟩
    ·have:=A5n hm (by rw [<- g2.ok];exact g1);cases this;exact .inr ⟨g1,g2⟩⟩ ?_
  clear hv hno ho hPu;rintro ⟨g,o,m,u⟩ c ⟨hc,hg,hno,ho,hl1,hPu,hv⟩;dsimp only at hc hg hno ho hl1 hPu hv ⊢;have hriu:=hPu.i;have hlen:B0n (C2 o m.length)=some (I64 m.length):=by
   cases o with
   | none=>rw [hno rfl];rfl
   | some b=>rfl
  have hHt:D1 (((H.upd cc ⟨0,true,[.snil,.snil]⟩).upd t (paB L E u)).upd (cc+1) ⟨0,true,[A0p l,C2 o m.length]⟩) o ⟨4,true,A7 (m.map Md.v)⟩ t=some (paB L E u):=by rw [F5 (fun i hi=>by have:=ho i hi;omega),A2 (by omega),A0]
  have hbx:D1 (((H.upd cc ⟨0,true,[.snil,.snil]⟩).upd t (paB L E u)).upd (cc+1) ⟨0,true,[A0p l,C2 o m.length]⟩) o ⟨4,true,A7 (m.map Md.v)⟩ (cc+1)=some ⟨0,true,[A0p l,C2 o m.length]⟩:=by rw [F5 (fun i hi=>by have:=ho i hi;omega),A0]
  have hbo:∀ i:Nat,o=some i->D1 (((H.upd cc ⟨0,true,[.snil,.snil]⟩).upd t (paB L E u)).upd (cc+1) ⟨0,true,[A0p l,C2 o m.length]⟩) o ⟨4,true,A7 (m.map Md.v)⟩ i=some ⟨4,true,A7 (m.map Md.v)⟩:=fun i hi=>by subst hi;exact A0
  have hbj:∀ j:Nat,j<cc->¬ j=t->D1 (((H.upd cc ⟨0,true,[.snil,.snil]⟩).upd t (paB L E u)).upd (cc+1) ⟨0,true,[A0p l,C2 o m.length]⟩) o ⟨4,true,A7 (m.map Md.v)⟩ j=H j:=fun j h1 h2=>by rw [F5 (fun i hi=>by have:=ho i hi;omega),A2 (by omega),A2 h2,A2 (by omega)]
  have hb0:D1 (((H.upd cc ⟨0,true,[.snil,.snil]⟩).upd t (paB L E u)).upd (cc+1) ⟨0,true,[A0p l,C2 o m.length]⟩) o ⟨4,true,A7 (m.map Md.v)⟩ cc=some ⟨0,true,[.snil,.snil]⟩:=by rw [F5 (fun i hi=>by have:=ho i hi;omega),A2 (by omega),A2 (by omega),A0]
  have hbn:∀ j:Nat,c<=j->D1 (((H.upd cc ⟨0,true,[.snil,.snil]⟩).upd t (paB L E u)).upd (cc+1) ⟨0,true,[A0p l,C2 o m.length]⟩) o ⟨4,true,A7 (m.map Md.v)⟩ j=none:=fun j h1=>by rw [F5 (fun i hi=>by have:=ho i hi;omega),A2 (by omega),A2 (by omega),A2 (by omega)];exact hfr _ (by omega)
  have hT:(C2 o m.length).one=true:=by cases o<;>rfl
  generalize hHH:D1 (((H.upd cc ⟨0,true,[.snil,.snil]⟩).upd t (paB L E u)).upd (cc+1) ⟨0,true,[A0p l,C2 o m.length]⟩) o ⟨4,true,A7 (m.map Md.v)⟩=HH at hHt hbx hbo hbj hb0 hbn ⊢;have fin:∀ (u2:Rd) (x:Blk),GL ((HH.upd t (paB L E u2)).upd cc x) [.agg [A0p l,C2 o m.length]] (H.upd t (paB L E u2)) [.agg [A0p l,B0l m]]:=fun u2 x =>
   gl_ru (cc:=cc) m (B9 hfr htc) (fun i hi=>by have:=ho i hi;omega) hno (fun i hi=>by have:=ho i hi;rw [A2 (by omega),A2 (by omega)];exact hbo i hi) (fun j hj=>by
    rw [A2 (by omega)];by_cases e1:j=t
    ·subst e1;rw [A0,A0]
    ·rw [A2 e1,A2 e1,hbj j hj e1])
  have ne0:=O0 t cc (cc+1) (by omega);repeat' ((with_reducible first|refine wr ?_|refine k_cu ?_ ?_|refine wb2 ?_ ?_<;>(intro hb;try simp only [hb])|fail)<;>try simp only [go_sem,seval])
  refine AC.call (c_pisO L E u HH _ t c (hbn c (Nat.le_refl _)) hHt (by omega) 2 [[109,111,100,101]] (by simp)) ?_;rintro v H' c2 ⟨rfl,rfl⟩ hc2;cases hmo:isP L E u 2 [[109,111,100,101]] with
  | false =>
   have hres:Eqv (if u.i<L.length then pfl L E u 4 else u) s2/\(okR s2=true->(⟨l,m⟩:Ru)=⟨dl,ml⟩):=by
    rcases hv with ⟨hok,g1,hv⟩|⟨hok,hv⟩
    ·cases g with
     | zero=>simp [R4] at hv
     | succ g =>
      unfold R4 at hv;dsimp only at hv;by_cases hlt:u.i<L.length
      ·rw [if_pos ⟨hok,hlt⟩,if_pos (by rw [R1 hK (by decide +kernel)];exact hmo)] at hv;cases hv;rw [if_pos hlt,g1];exact ⟨.refl _,fun _=>rfl⟩
      ·rw [if_neg (fun hh=>hlt hh.2)] at hv;cases hv;rw [if_neg hlt,g1];exact ⟨.refl _,fun _=>rfl⟩
    ·rw [show (if u.i<L.length then pfl L E u 4 else u)=u by rw [S4 hok];split<;>rfl];exact ⟨hv,fun k=>by rw [<- hv.ok,hok] at k;cases k⟩
   have b3:PI L (if u.i<L.length then pfl L E u 4 else u):=by
    split
    ·exact hPu.fl
    ·exact hPu
   simp only [go_sem,seval,hmo];repeat' ((with_reducible first|refine wr ?_|refine k_cu ?_ ?_|refine wb2 ?_ ?_<;>(intro hb;try simp only [hb])|fail)<;>try simp only [go_sem,seval,hmo])
   refine AC.call (c_pend L E u _ _ t hHt (by omega)) ?_;rintro v H' c3 ⟨rfl,rfl⟩ hc3;generalize (if u.i<L.length then pfl L E u 4 else u)=u3 at hres b3 ⊢;simp only [go_sem,seval,ne0,A0,hbx,hb0,hT];repeat' ((with_reducible first|refine wr ?_|refine k_cu ?_ ?_|refine wb2 ?_ ?_<;>(intro hb;try simp only [hb])|fail)<;>try simp only [go_sem,seval,ne0,A0,hbx,hb0,hT])
   refine D4 (b_st (by rfl) (by decide) (by clear hHH;cases o<;>rfl)) ?_;simp only [go_sem,seval,ne0,A0];repeat' ((with_reducible first|refine wr ?_|refine k_cu ?_ ?_|refine wb2 ?_ ?_<;>(intro hb;try simp only [hb])|fail)<;>try simp only [go_sem,seval,ne0,A0])
   rw [C3 (rv2 rfl A0)];exact ⟨_,_,fin _ _,⟨l,m⟩,u3,rfl,rfl,hres.1,hres.2,b3⟩
  | true =>
   obtain ⟨hok,hlt,hkd2⟩:=P3 (by decide) hmo;obtain ⟨hdl,hv⟩:l=dl/\R4 L E g m u=some (ml,s2):=by
    rcases hv with ⟨-,g1,hv⟩|⟨hn, -⟩
    ·exact ⟨g1,hv⟩
    ·rw [hok] at hn;cases hn
   have hmoR:isR L E u [109,111,100,101]=true:=by rw [R1 hK (by decide +kernel)];exact hmo
   cases g with
   | zero=>simp [R4] at hv
   | succ g =>
   unfold R4 at hv;dsimp only at hv;rw [if_pos ⟨hok,hlt⟩,if_neg (by simp [hmoR])] at hv;by_cases h16:m.length=16
   ·have hd16:((m.length:Int) == 16)=true:=by simp;omega
    have hl9:C0 L E u ((m.length:Int)+1) 16 9=pfl L E u 9:=by rw [S7,if_pos (by omega)]
    have hnk:okR (pfl L E u 9)=false:=by unfold pfl;exact M8 (by decide)
    rw [hl9,if_neg (by rw [hnk];decide)] at hv;have e1:m=ml:=(congrArg Prod.fst (A5n hv hnk)).symm;have e2:pfl L E u 9=s2:=(congrArg Prod.snd (A5n hv hnk)).symm;subst e1 e2;have b3:=hPu.fl (E:=E) (e:=9);simp only [go_sem,seval,hmo];repeat' ((with_reducible first|refine wr ?_|refine k_cu ?_ ?_|refine wb2 ?_ ?_<;>(intro hb;try simp only [hb])|fail)<;>try simp only [go_sem,seval,hmo,hbx,hlen,hd16])
    refine AC.call (c_pfail L E u _ _ t hHt (by omega) 9) ?_;rintro v H' c3 ⟨rfl,rfl⟩ hc3;simp only [go_sem,seval];repeat' ((with_reducible first|refine wr ?_|refine k_cu ?_ ?_|refine wb2 ?_ ?_<;>(intro hb;try simp only [hb])|fail)<;>try simp only [go_sem,seval])
    refine AC.call (c_pend L E (pfl L E u 9) _ _ t A0 (by omega)) ?_;rintro v H' c4 ⟨rfl,rfl⟩ hc4;rw [show (if (pfl L E u 9).i<L.length then pfl L E (pfl L E u 9) 4 else pfl L E u 9)=pfl L E u 9 by rw [S4 hnk];split<;>rfl,A1];simp only [go_sem,seval,ne0,A0,hbx,hb0,hT];repeat' ((with_reducible first|refine wr ?_|refine k_cu ?_ ?_|refine wb2 ?_ ?_<;>(intro hb;try simp only [hb])|fail)<;>try simp only [go_sem,seval,ne0,A0,hbx,hb0,hT])
    refine D4 (b_st (by rfl) (by decide) (by clear hHH;cases o<;>rfl)) ?_;simp only [go_sem,seval,ne0,A0];repeat' ((with_reducible first|refine wr ?_|refine k_cu ?_ ?_|refine wb2 ?_ ?_<;>(intro hb;try simp only [hb])|fail)<;>try simp only [go_sem,seval,ne0,A0])
    rw [C3 (rv2 rfl A0)];exact ⟨_,_,fin _ _,⟨l,m⟩,_,rfl,rfl,.refl _,fun k=>(by rw [hnk] at k;cases k),b3⟩
   have hd16:((m.length:Int) == 16)=false:=by simp;omega
   rw [W7 (by omega),if_pos hok] at hv;cases hmd:A8d L E g u with
   | none=>rw [hmd] at hv;cases hv
   | some qm =>
   obtain ⟨md,u2⟩:=qm;rw [hmd] at hv;dsimp only at hv;simp only [go_sem,seval,hmo];repeat' ((with_reducible first|refine wr ?_|refine k_cu ?_ ?_|refine wb2 ?_ ?_<;>(intro hb;try simp only [hb])|fail)<;>try simp only [go_sem,seval,hmo,hbx,hlen,hd16])
   refine AC.call (c_pmode L E hL hK g u (md,u2) hmd hPu hmo _ _ t hHt (by omega)) ?_;rintro v H' c3 ⟨x,s5,rfl,rfl,y1,y2,y3⟩ hc3;dsimp only at y1 y2;have ne0:=R7 t cc (cc+1) (c2+4) c3 (by omega);simp only [go_sem,seval,ne0,A0,A1,hbx];repeat' ((with_reducible first|refine wr ?_|refine k_cu ?_ ?_|refine wb2 ?_ ?_<;>(intro hb;try simp only [hb])|fail)<;>try simp only [go_sem,seval,ne0,A0,A1,hbx])
   refine ⟨⟨by rw [A2 (by omega)];exact hbn _ (by omega),by rw [A2 (by omega)];exact hbn _ (by omega)⟩,?_⟩;have hl4:(A7 (m.map Md.v)).length=m.length * 4:=C8 (u:=4) (md_unit _) |>.trans (by simp);refine N8 (F7 (cs:=A7 (m.map Md.v)) (fun e=>by rw [hno e];exact ⟨rfl,rfl⟩) (fun i hi=>by have:=ho i hi;rw [A2 (by omega),A2 (by omega)];exact hbo i hi) hl4 (by omega) (by omega) (by omega)) ?_;have hdx:∀ X:Hp,Q1 X o (cc+1)=X (cc+1):=fun X=>K0 (fun i hi=>by have:=ho i hi;omega);simp only [go_sem,seval,ne0,A0,A1,hdx,hbx];repeat' ((with_reducible first|refine wr ?_|refine k_cu ?_ ?_|refine wb2 ?_ ?_<;>(intro hb;try simp only [hb])|fail)<;>try simp only [go_sem,seval,ne0,A0,A1,hdx,hbx])
   refine ⟨(g,some c3,m++[x],s5),?_,inv ⟨by omega,by simp only;omega,(fun h=>by cases h),(fun i hi=>by cases hi;omega),by simp only [List.length_append,List.length_singleton];omega,y3,?_⟩,by simp only;omega⟩
   ·intro j b hj;simp only [D1,A6g,List.length_append,List.length_singleton,List.map_append,F0] at hj;by_cases e1:j=cc+1
    ·subst e1;by_cases e3:cc+1=c3
     ·omega
     rw [A2 e3,A0] at hj;rw [A0];exact hj
    rw [A2 e1];by_cases e0:j=c3
    ·subst e0;rw [A0] at hj;rw [A0, <- hj];rfl
    rw [A2 e0] at hj ⊢;rw [A2 e1] at hj;by_cases e2:j=t
    ·subst e2;rw [A0] at hj;rw [K0 (fun i hi=>by have:=ho i hi;omega),A2 (by omega),A0];exact hj
    rw [A2 e2] at hj;by_cases e4:j=cc
    ·subst e4;rw [A0] at hj;rw [K0 (fun i hi=>by have:=ho i hi;omega)]
     repeat rw [A2 (by omega)]
     rw [hb0];exact hj
    ·rw [A2 e4] at hj;have hjc:j<cc:=Classical.byContradiction fun h=>by rw [hfr j (by omega)] at hj;cases hj
     rw [K0 (fun i hi=>by have:=ho i hi;omega)]
     repeat rw [A2 (by omega)]
     rw [hbj j hjc e2];exact hj
   ·dsimp only;cases k:okR u2 with
    | true =>
     rw [y2 k,y1.s k];exact .inl ⟨k,hdl,hv⟩
    | false =>
     cases A5n hv k;exact .inr ⟨by rw [y1.ok,k],y1⟩
 have ne0:=O0 t cc (cc+1) (by omega);repeat' ((with_reducible first|refine wr ?_|refine k_cu ?_ ?_|refine wb2 ?_ ?_<;>(intro hb;try simp only [hb])|fail)<;>try simp only [go_sem,seval,ne0,A0,A1])
 refine D6 (fun q:Nat × Option Nat × List Dc × Rd=>[(0,.ptr t 0),(2,.ptr cc 0),(3,.ptr (cc+1) 0)]) (fun q=>D1 (((H.upd cc ⟨0,true,[.snil,.snil]⟩).upd t (paB L E q.2.2.2)).upd (cc+1) ⟨0,true,[C2 q.2.1 q.2.2.1.length,.snil]⟩) q.2.1 ⟨4,true,A7 (q.2.2.1.map Dc.v)⟩)
  (fun q c=>cc+2<=c/\q.1<=f/\(q.2.1=none->q.2.2.1=[])/\(∀ i,q.2.1=some i->cc+1<i/\i<c)/\q.2.2.1.length<=128/\PI L q.2.2.2/\W4 L E q.1 q.2.2.1 q.2.2.2=some (dl,s1)) (fun q=>q.1) (f,none,[],s)
  (by simp [C5,tm,Tm.upd]) (fun j b hj=>?_) ⟨by omega,Nat.le_refl _,fun _=>rfl,(fun i hi=>by cases hi),by simp,hP,hd⟩ ?_
 ·simp only [D1,A9r] at hj;by_cases e1:j=cc+1
  ·subst e1;rw [A0] at hj ⊢;exact hj
  ·rw [A2 e1] at hj ⊢;by_cases e2:j=t
   ·subst e2;rw [A0] at hj;rw [A2 (by omega),ht];exact hj
   ·rw [A2 e2] at hj;exact hj
 clear hd;rintro ⟨g,o,l,u⟩ c ⟨hc,hg,hno,ho,hl1,hPu,hv⟩;dsimp only at hc hg hno ho hl1 hPu hv ⊢;cases g with
 | zero=>simp [W4] at hv
 | succ g =>
 unfold W4 at hv;dsimp only at hv;have hriu:=hPu.i;have hlen:B0n (C2 o l.length)=some (I64 l.length):=by
  cases o with
  | none=>rw [hno rfl];rfl
  | some b=>rfl
 have hHt:D1 (((H.upd cc ⟨0,true,[.snil,.snil]⟩).upd t (paB L E u)).upd (cc+1) ⟨0,true,[C2 o l.length,.snil]⟩) o ⟨4,true,A7 (l.map Dc.v)⟩ t=some (paB L E u):=by rw [F5 (fun i hi=>by have:=ho i hi;omega),A2 (by omega),A0]
 have hbx:D1 (((H.upd cc ⟨0,true,[.snil,.snil]⟩).upd t (paB L E u)).upd (cc+1) ⟨0,true,[C2 o l.length,.snil]⟩) o ⟨4,true,A7 (l.map Dc.v)⟩ (cc+1)=some ⟨0,true,[C2 o l.length,.snil]⟩:=by rw [F5 (fun i hi=>by have:=ho i hi;omega),A0]
 have hbo:∀ i:Nat,o=some i->D1 (((H.upd cc ⟨0,true,[.snil,.snil]⟩).upd t (paB L E u)).upd (cc+1) ⟨0,true,[C2 o l.length,.snil]⟩) o ⟨4,true,A7 (l.map Dc.v)⟩ i=some ⟨4,true,A7 (l.map Dc.v)⟩:=fun i hi=>by subst hi;exact A0
 have hbj:∀ j:Nat,j<cc->¬ j=t->D1 (((H.upd cc ⟨0,true,[.snil,.snil]⟩).upd t (paB L E u)).upd (cc+1) ⟨0,true,[C2 o l.length,.snil]⟩) o ⟨4,true,A7 (l.map Dc.v)⟩ j=H j:=fun j h1 h2=>by rw [F5 (fun i hi=>by have:=ho i hi;omega),A2 (by omega),A2 h2,A2 (by omega)]
 have hb0:D1 (((H.upd cc ⟨0,true,[.snil,.snil]⟩).upd t (paB L E u)).upd (cc+1) ⟨0,true,[C2 o l.length,.snil]⟩) o ⟨4,true,A7 (l.map Dc.v)⟩ cc=some ⟨0,true,[.snil,.snil]⟩:=by rw [F5 (fun i hi=>by have:=ho i hi;omega),A2 (by omega),A2 (by omega),A0]
 have hbn:∀ j:Nat,c<=j->D1 (((H.upd cc ⟨0,true,[.snil,.snil]⟩).upd t (paB L E u)).upd (cc+1) ⟨0,true,[C2 o l.length,.snil]⟩) o ⟨4,true,A7 (l.map Dc.v)⟩ j=none:=fun j h1=>by rw [F5 (fun i hi=>by have:=ho i hi;omega),A2 (by omega),A2 (by omega),A2 (by omega)];exact hfr _ (by omega)
 have hsub:∀ z,Sub (D1 (((H.upd cc ⟨0,true,[.snil,.snil]⟩).upd t (paB L E z)).upd (cc+1) ⟨0,true,[C2 o l.length,.snil]⟩) o ⟨4,true,A7 (l.map Dc.v)⟩) ((D1 (((H.upd cc ⟨0,true,[.snil,.snil]⟩).upd t (paB L E u)).upd (cc+1) ⟨0,true,[C2 o l.length,.snil]⟩) o ⟨4,true,A7 (l.map Dc.v)⟩).upd t (paB L E z)):=fun z j b hj=>by
  by_cases e2:j=t
  ·subst e2;rw [F5 (fun i hi=>by have:=ho i hi;omega),A2 (by omega),A0] at hj;rw [A0];exact hj
  ·rw [A2 e2];cases o with
   | none =>
    simp only [D1] at hj ⊢;by_cases e1:j=cc+1
    ·subst e1;rw [A0] at hj ⊢;exact hj
    ·rw [A2 e1,A2 e2] at hj ⊢;exact hj
   | some i =>
    simp only [D1] at hj ⊢;by_cases e0:j=i
    ·subst e0;rw [A0] at hj ⊢;exact hj
    rw [A2 e0] at hj ⊢;by_cases e1:j=cc+1
    ·subst e1;rw [A0] at hj ⊢;exact hj
    ·rw [A2 e1,A2 e2] at hj ⊢;exact hj
 have htail:=tail o l;generalize hHH:D1 (((H.upd cc ⟨0,true,[.snil,.snil]⟩).upd t (paB L E u)).upd (cc+1) ⟨0,true,[C2 o l.length,.snil]⟩) o ⟨4,true,A7 (l.map Dc.v)⟩=HH at hHt hbx hbo hbj hb0 hbn hsub ⊢;have hpa:=A5u (A2j (E:=E) hK u (l:=D7) (by decide +kernel));repeat' ((with_reducible first|refine wr ?_|refine cpc c_pdecls ?_|refine k_cu ?_ ?_|refine wb2 ?_ ?_<;>(intro hb;try simp only [hb])|fail)<;>try simp only [go_sem,seval])
 refine AC.call (c_pis L E u _ _ t hHt (by omega) 2 D7 (by decide)) ?_;rintro v H' c2 ⟨rfl,rfl⟩ hc2;by_cases hk:B7 L E u D7<0
 ·have hpf:isP L E u 2 D7=false:=by rw [hpa];exact decide_eq_false (by omega)
  rw [if_pos hk] at hv;have e1:l=dl:=congrArg Prod.fst (Option.some.inj hv);have e2:u=s1:=congrArg Prod.snd (Option.some.inj hv);subst e1 e2;simp only [go_sem,seval,hpf];repeat' ((with_reducible first|refine E7 (p:=IW _ _ (pz Tryz.prog 73 (.o (.o (.o (.i .h))))) _ _) ?_|refine wr ?_|refine k_cu ?_ ?_|refine wb2 ?_ ?_<;>(intro hb;try simp only [hb])|fail)<;>try simp only [go_sem,seval,hpf])
  rw [<- hHH];refine IW.stage (by simp [C5,tm,Tm.upd]) (htail u c2 (by omega) hno (fun i hi=>by have:=ho i hi;omega) hPu ?_);cases ho:okR u with
  | true=>exact .inl ⟨rfl,rfl,rfl⟩
  | false=>exact .inr ⟨rfl,.refl _⟩
 have hpt:isP L E u 2 D7=true:=by rw [hpa];exact decide_eq_true (by omega)
 obtain ⟨hok,hlt, -⟩:=P3 (by decide) hpt;rw [if_neg hk] at hv;by_cases h128:l.length=128
 ·have hd128:((l.length:Int) == 128)=true:=by simp;omega
  have hl9:C0 L E u ((l.length:Int)+1) 128 9=pfl L E u 9:=by rw [S7,if_pos (by omega)]
  have hnk:okR (pfl L E u 9)=false:=by unfold pfl;exact M8 (by decide)
  rw [hl9,if_neg (by rw [hnk];decide)] at hv;have e1:l=dl:=(congrArg Prod.fst (rld_nok hv hnk)).symm;have e2:pfl L E u 9=s1:=(congrArg Prod.snd (rld_nok hv hnk)).symm;subst e1 e2;simp only [go_sem,seval,hpt];repeat' ((with_reducible first|refine wr ?_|refine k_cu ?_ ?_|refine wb2 ?_ ?_<;>(intro hb;try simp only [hb])|fail)<;>try simp only [go_sem,seval,hpt,hbx,hlen,hd128])
  refine AC.call (c_pfail L E u _ _ t hHt (by omega) 9) ?_;rintro v H' c3 ⟨rfl,rfl⟩ hc3;simp only [go_sem,seval];repeat' ((with_reducible first|refine E7 (p:=IW _ _ (pz Tryz.prog 73 (.o (.o (.o (.i .h))))) _ _) ?_|refine wr ?_|refine k_cu ?_ ?_|refine wb2 ?_ ?_<;>(intro hb;try simp only [hb])|fail)<;>try simp only [go_sem,seval])
  exact IW.weaken (Q8 (by simp [C5,tm,Tm.upd])) (hsub _) (htail (pfl L E u 9) c3 (by omega) hno (fun i hi=>by have:=ho i hi;omega) hPu.fl (.inr ⟨hnk,.refl _⟩))
 have hd128:((l.length:Int) == 128)=false:=by simp;omega
 rw [W7 (by omega),if_pos hok] at hv;simp only [go_sem,seval,hpt];repeat' ((with_reducible first|refine wr ?_|refine k_cu ?_ ?_|refine wb2 ?_ ?_<;>(intro hb;try simp only [hb])|fail)<;>try simp only [go_sem,seval,hpt,hbx,hlen,hd128])
 refine AC.call (c_pdecl L E u _ _ t hHt (by omega) hL hv0 hK hpt) ?_;rintro v H' c3 ⟨rfl,rfl⟩ hc3;have y3:=pi_dcl (E:=E) (k:=B7 L E u D7) hK hPu hlt;generalize A4f L E (B7 L E u D7) u=Q at hv y3 ⊢;obtain ⟨dc,u2⟩:=Q;dsimp only at hv y3 ⊢;have ne0:=R7 t cc (cc+1) (c2+4) c3 (by omega);simp only [go_sem,seval,ne0,A0,A1,hbx];repeat' ((with_reducible first|refine wr ?_|refine k_cu ?_ ?_|refine wb2 ?_ ?_<;>(intro hb;try simp only [hb])|fail)<;>try simp only [go_sem,seval,ne0,A0,A1,hbx])
 refine ⟨⟨by rw [A2 (by omega)];exact hbn _ (by omega),by rw [A2 (by omega)];exact hbn _ (by omega)⟩,?_⟩;have hl4:(A7 (l.map Dc.v)).length=l.length * 4:=C8 (u:=4) (dc_unit _) |>.trans (by simp);refine N8 (F7 (cs:=A7 (l.map Dc.v)) (fun e=>by rw [hno e];exact ⟨rfl,rfl⟩) (fun i hi=>by have:=ho i hi;rw [A2 (by omega),A2 (by omega)];exact hbo i hi) hl4 (by omega) (by omega) (by omega)) ?_;have hdx:∀ X:Hp,Q1 X o (cc+1)=X (cc+1):=fun X=>K0 (fun i hi=>by have:=ho i hi;omega);simp only [go_sem,seval,ne0,A0,A1,hdx,hbx];repeat' ((with_reducible first|refine wr ?_|refine k_cu ?_ ?_|refine wb2 ?_ ?_<;>(intro hb;try simp only [hb])|fail)<;>try simp only [go_sem,seval,ne0,A0,A1,hdx,hbx])
 refine ⟨(g,some c3,l++[dc],u2),?_,inv ⟨by omega,by simp only;omega,(fun h=>by cases h),(fun i hi=>by cases hi;omega),by simp only [List.length_append,List.length_singleton];omega,y3,hv⟩,by simp only;omega⟩;intro j b hj;simp only [D1,A6g,List.length_append,List.length_singleton,List.map_append,F0] at hj;by_cases e1:j=cc+1
 ·subst e1;by_cases e3:cc+1=c3
  ·omega
  rw [A2 e3,A0] at hj;rw [A0];exact hj
 rw [A2 e1];by_cases e0:j=c3
 ·subst e0;rw [A0] at hj;rw [A0, <- hj];rfl
 rw [A2 e0] at hj ⊢;rw [A2 e1] at hj;by_cases e2:j=t
 ·subst e2;rw [A0] at hj;rw [K0 (fun i hi=>by have:=ho i hi;omega),A2 (by omega),A0];exact hj
 rw [A2 e2] at hj;by_cases e4:j=cc
 ·subst e4;rw [A0] at hj;rw [K0 (fun i hi=>by have:=ho i hi;omega)]
  repeat rw [A2 (by omega)]
  rw [hb0];exact hj
 ·rw [A2 e4] at hj;have hjc:j<cc:=Classical.byContradiction fun h=>by rw [hfr j (by omega)] at hj;cases hj
  rw [K0 (fun i hi=>by have:=ho i hi;omega)]
  repeat rw [A2 (by omega)]
  rw [hbj j hjc e2];exact hj
theorem PI0 {L:List Tok}:PI L rd0:=⟨Nat.zero_le _,Int.le_refl 0,(by decide:(0:Int)<=32),Int.le_refl 0,(by decide:(0:Int)<=16)⟩
theorem c_PParse (s:List UInt8) (hs:s.length<=100000):PC Tryz.prog 36 [.str s] (parV (parM s)):=by
 refine PC.ofT A6 rfl (Nat.le_of_ble_eq_true rfl) rfl (parV_nl _) ?_;have hsc:=c_Scan s hs;by_cases h0:(B4 s).2.2=0
 ·have hd:((B4 s).2.2 != 0)=false:=by simpa using h0
  repeat' ((with_reducible first|refine wr ?_|refine cpc hsc ?_|refine k_cu ?_ ?_|refine wb2 ?_ ?_<;>(intro hb;try simp only [hb])|fail)<;>try simp only [go_sem,seval,hd])
  obtain ⟨f,hf⟩:=(rulF_e (B4 s).1 s.length).get;refine AC.call (c_prules (B4 s).1 s.length (by have:=A9v h0;omega) (scan_val h0) (A8m h0) f rd0 _ hf PI0 _ _ 1 rfl (by decide)) ?_;rintro v H' c2 ⟨x,s',rfl,rfl,q1,q2,q3⟩ hc2;have hM:parM s=if okR (A6m (B4 s).1 s.length).2=false then (Ru0,(A6m (B4 s).1 s.length).2.pos,(A6m (B4 s).1 s.length).2.e) else ((A6m (B4 s).1 s.length).1,0,0):=by
   unfold parM;dsimp only;rw [if_neg (by simpa using h0)]
  rw [hM];generalize A6m (B4 s).1 s.length=w at q1 q2 ⊢;clear hM hf;have ne0:=O0 0 1 c2 (by omega);simp only [go_sem,seval,ne0,A0,A1];repeat' ((with_reducible first|refine wr ?_|refine k_cu ?_ ?_|refine wb2 ?_ ?_<;>(intro hb;try simp only [hb])|fail)<;>try simp only [go_sem,seval,ne0,A0,A1])
  refine AC.call (c_pok (B4 s).1 s.length s' _ _ 1 (by rw [A2 (by omega)];exact A0) (by omega)) ?_;rintro v H' c3 ⟨rfl,rfl⟩ hc3;cases hok:okR w.2 with
  | true =>
   obtain rfl:=q2 hok;have hok':okR s'=true:=by rw [q1.ok,hok]
   rw [if_neg (by decide)];simp only [go_sem,seval,hok',ne0,A0,A1];repeat' ((with_reducible first|refine wr ?_|refine k_cu ?_ ?_|refine wb2 ?_ ?_<;>(intro hb;try simp only [hb])|fail)<;>try simp only [go_sem,seval,hok',ne0,A0,A1])
   rw [C3 (v:=parV (w.1,0,0)) rfl];exact ⟨_,GL.refl _ _⟩
  | false =>
   have hok':okR s'=false:=by rw [q1.ok,hok]
   rw [if_pos rfl, <- q1.p, <- q1.e];simp only [go_sem,seval,hok',ne0,A0,A1];repeat' ((with_reducible first|refine wr ?_|refine k_cu ?_ ?_|refine wb2 ?_ ?_<;>(intro hb;try simp only [hb])|fail)<;>try simp only [go_sem,seval,hok',ne0,A0,A1])
   repeat refine ⟨by and_intros<;>(repeat rw [A2 (by omega)])<;>rfl,?_⟩
   repeat' ((with_reducible first|refine wr ?_|refine k_cu ?_ ?_|refine wb2 ?_ ?_<;>(intro hb;try simp only [hb])|fail)<;>try simp only [go_sem,seval,hok',ne0,A0,A1])
   rw [C3 (v:=.tup [.agg [.snil,.snil],I64 s'.pos,I64 s'.e]) rfl];exact pc_ru0
 ·have hd:((B4 s).2.2 != 0)=true:=by simpa using h0
  have hM:parM s=(Ru0,(B4 s).2.1,(B4 s).2.2):=by
   unfold parM;dsimp only;rw [if_pos h0]
  rw [hM];repeat' ((with_reducible first|refine wr ?_|refine cpc hsc ?_|refine k_cu ?_ ?_|refine wb2 ?_ ?_<;>(intro hb;try simp only [hb])|fail)<;>try simp only [go_sem,seval,hd])
  rw [C3 (v:=.tup [.agg [.snil,.snil],I64 (B4 s).2.1,I64 (B4 s).2.2]) rfl];exact pc_ru0
theorem c_PParseE (s:List UInt8) (hs:s.length<=100000):PC Tryz.prog 33 [.str s] (A6t (X8 s)):=by
 refine PC.ofT A6 rfl (Nat.le_of_ble_eq_true rfl) rfl (parEV_nl _) ?_;have hsc:=c_Scan s hs;by_cases h0:(B4 s).2.2=0
 ·have hd:((B4 s).2.2 != 0)=false:=by simpa using h0
  repeat' ((with_reducible first|refine wr ?_|refine cpc hsc ?_|refine k_cu ?_ ?_|refine wb2 ?_ ?_<;>(intro hb;try simp only [hb])|fail)<;>try simp only [go_sem,seval,hd])
  obtain ⟨f,hf⟩:=(W3 (B4 s).1 s.length).get;refine AC.call (c_pexpr (B4 s).1 s.length (by have:=A9v h0;omega) (A8m h0) f rd0 rd0 _ (.refl _) hf (Nat.zero_le _) _ _ 1 rfl (by decide)) ?_;rintro v H' c2 ⟨x,s',rfl,rfl,q1,q2,q3⟩ hc2;obtain ⟨w,hw⟩:∃ w,w=J3 (B4 s).1 s.length:=⟨_,rfl⟩;obtain ⟨z,hz⟩:∃ z,z=(if okR w.2=true/\w.2.i<(B4 s).1.length then K8 (B4 s).1 s.length w.2 else w.2):=⟨_,rfl⟩;have hM:X8 s=if okR z=false then (Ex0,z.pos,z.e) else (w.1,0,0):=by
   unfold X8;dsimp only;rw [if_neg (by simpa using h0), <- hw, <- hz]
  rw [<- hw] at q1 q2;rw [hM];have hq:Eqv (if s'.i<(B4 s).1.length then pfl (B4 s).1 s.length s' 4 else s') z/\(okR z=true->x=w.1):=by
   rw [hz];rcases q1.cas with ⟨e1,e2⟩|⟨e1,e2⟩
   ·rw [e1];by_cases hlt:w.2.i<(B4 s).1.length
    ·rw [if_pos hlt,if_pos ⟨e2,hlt⟩];exact ⟨.refl _,fun k=>(by rw [Z4] at k;cases k)⟩
    ·rw [if_neg hlt,if_neg (fun h=>hlt h.2)];exact ⟨.refl _,q2⟩
   ·rw [show (if s'.i<(B4 s).1.length then pfl (B4 s).1 s.length s' 4 else s')=s' by rw [S4 e1];split<;>rfl,if_neg (fun h=>by rw [e2] at h;cases h.1)];exact ⟨q1,fun k=>by rw [e2] at k;cases k⟩
  clear hM hf hz hw;have ne0:=O0 0 1 c2 (by omega);simp only [go_sem,seval,ne0,A0,A1,Ex.v_w];repeat' ((with_reducible first|refine wr ?_|refine k_cu ?_ ?_|refine wb2 ?_ ?_<;>(intro hb;try simp only [hb])|fail)<;>try simp only [go_sem,seval,ne0,A0,A1])
  refine AC.call (c_pend (B4 s).1 s.length s' _ _ 1 (by rw [A2 (by omega)];exact A0) (by omega)) ?_;rintro v H' c3 ⟨rfl,rfl⟩ hc3;generalize (if s'.i<(B4 s).1.length then pfl (B4 s).1 s.length s' 4 else s')=u at hq ⊢;obtain ⟨r1,r2⟩:=hq;simp only [go_sem,seval,ne0,A0,A1];repeat' ((with_reducible first|refine wr ?_|refine k_cu ?_ ?_|refine wb2 ?_ ?_<;>(intro hb;try simp only [hb])|fail)<;>try simp only [go_sem,seval,ne0,A0,A1])
  refine AC.call (c_pok (B4 s).1 s.length u _ _ 1 A0 (by omega)) ?_;rintro v H' c4 ⟨rfl,rfl⟩ hc4;cases hok:okR z with
  | true =>
   obtain rfl:=r2 hok;have hok':okR u=true:=by rw [r1.ok,hok]
   rw [if_neg (by decide)];simp only [go_sem,seval,hok',ne0,A0,A1];repeat' ((with_reducible first|refine wr ?_|refine k_cu ?_ ?_|refine wb2 ?_ ?_<;>(intro hb;try simp only [hb])|fail)<;>try simp only [go_sem,seval,hok',ne0,A0,A1])
   rw [C3 (v:=.tup [w.1.w,I64 0,I64 0]) rfl];exact ⟨_,by rw [<- Ex.v_w];exact GL.refl _ _⟩
  | false =>
   have hok':okR u=false:=by rw [r1.ok,hok]
   rw [if_pos rfl, <- r1.p, <- r1.e];simp only [go_sem,seval,hok',ne0,A0,A1];repeat' ((with_reducible first|refine wr ?_|refine k_cu ?_ ?_|refine wb2 ?_ ?_<;>(intro hb;try simp only [hb])|fail)<;>try simp only [go_sem,seval,hok',ne0,A0,A1])
   repeat refine ⟨by and_intros<;>(repeat rw [A2 (by omega)])<;>rfl,?_⟩
   repeat' ((with_reducible first|refine wr ?_|refine k_cu ?_ ?_|refine wb2 ?_ ?_<;>(intro hb;try simp only [hb])|fail)<;>try simp only [go_sem,seval,hok',ne0,A0,A1])
   rw [C3 (v:=.tup [.agg [I64 0,I64 0,.str [],.snil,I64 0],I64 u.pos,I64 u.e]) rfl];exact A6s
 ·have hd:((B4 s).2.2 != 0)=true:=by simpa using h0
  have hM:X8 s=(Ex0,(B4 s).2.1,(B4 s).2.2):=by
   unfold X8;dsimp only;rw [if_pos h0]
  rw [hM];repeat' ((with_reducible first|refine wr ?_|refine cpc hsc ?_|refine k_cu ?_ ?_|refine wb2 ?_ ?_<;>(intro hb;try simp only [hb])|fail)<;>try simp only [go_sem,seval,hd])
  rw [C3 (v:=.tup [.agg [I64 0,I64 0,.str [],.snil,I64 0],I64 (B4 s).2.1,I64 (B4 s).2.2]) rfl];exact A6s
end Go.Proofs.YthlpinppaclofaaGreatDoor
set_option linter.unusedSectionVars false
namespace Go.Sym
variable [Go.Sym.Tab]
open Go.Eng (Opd FOp AOp EOp IOp IOper DReg IC RV IFn trC trR A6d B5 opd A1x trO trF trA trE trI A7y trG trL Y5 KKey Rg rgT rg1T)
open Go.ChangeMaps (setBlock)
section
variable {P:Program} {N:Nat} {ρ ρ' ρ1:Ren} {s s' s1:St} {w w' w1:World} {a:Act} {ops:Array Oper}
theorem wanted_none {o:Oper} (h:o.guard=none) (y:Nat->Option Bool):Region.wanted o y=true:=by simp [Region.wanted,h]
theorem A5c {Q:Exit->Act->World->Prop} {o:Oper} {rest:List Oper} {v:Value} (hg:o.guard=none) (h:(execOp a.eval o).run P w=.ok (.value v) w') (k:wpList P ops Q rest (a.put o.dst v) w') :
  wpList P ops Q (o :: rest) a w:=by
 unfold wpList;rw [wanted_none hg,if_pos rfl];left;unfold Oper.wp;rw [h];exact k
theorem A2k {Q:Exit->Act->World->Prop} {Q':St->Prop} (rest:List Oper):∀ (os:List Oper) (is:List IOper) {ρ : Ren} {s:St} {a:Act} {w:World},trL P N ops os=some is->Sim N ρ s a w ->
  rwp P Q' is s->(∀ ρ' s' a' w',Q' s'->Sim N ρ' s' a' w'->Step ρ s w ρ' s' w'->wpList P ops Q rest a' w')->wpList P ops Q (os++rest) a w
 | [],is, ρ,s,a,w,htr,hS,h,hq=>by
  simp only [trL,Option.some.injEq] at htr;subst htr;exact hq ρ s a w h hS (Step.refl _ _ _)
 | o :: os,is, ρ,s,a,w,htr,hS,h,hq=>by
  simp only [trL] at htr;split at htr
  ·rename_i i is' ho his;cases htr;unfold trO at ho;split at ho
   ·rename_i op g hop hg hd;cases ho;rw [List.cons_append];unfold wpList;simp only [rwp] at h;split at h
    ·rename_i hw;rw [Q6 hS hg rfl hw];rw [if_pos rfl];left;refine A4a hS hop h fun v v' H' c' ρ' w' hk d=>?_;obtain ⟨hS',hst⟩:=hS.did hd d;exact A2k rest os is' his hS' hk fun ρ2 s2 a2 w2 q2 hS2 hst2=>hq ρ2 s2 a2 w2 q2 hS2 (hst.trans hst2)
    ·rename_i hw;rw [Q6 hS hg rfl hw];rw [if_neg Bool.false_ne_true];have d:Did ρ s.H s.c w undef w (.tup []) s.H s.c ρ := ⟨X2 ρ,hS.rep,hS.fresh,Nat.le_refl _,fun _ _ h=>h,fun _ _=>rfl,Ext.refl _ _ _⟩;obtain ⟨hS',hst⟩:=hS.did hd d;exact A2k rest os is' his hS' h fun ρ2 s2 a2 w2 q2 hS2 hst2=>hq ρ2 s2 a2 w2 q2 hS2 (hst.trans hst2)
    ·exact h.elim
   ·cases ho
  ·cases htr
structure Kp (ρ : Ren) (s:St) (w:World) (r id:Nat) (o:Obj):Prop where
 nm : ρ.nm id=some ⟨r,0,0,0,false⟩
 lt:id<s.c
 no:s.H id=none
 obj:w.heap[r]? = some o
 blk:∀ j b t,s.H j=some b -> ρ.nm j=some t->t.block≠r
 fz : ρ.fz r=none
 fm : ρ.fm r=none
theorem Kp.step {r id:Nat} {o:Obj} (h:Kp ρ s w r id o) (st:Step ρ s w ρ' s' w'):Kp ρ' s' w' r id o:=by
 have hr:r<w.heap.size:=(Array.getElem?_eq_some_iff.1 h.obj).1;refine ⟨(st.same id h.lt).trans h.nm,Nat.lt_of_lt_of_le h.lt st.up,?_,?_,fun j b t hb ht=>?_,?_,?_⟩
 ·cases hn:s'.H id with
  | none=>rfl
  | some x=>exact absurd h.no (st.dom id h.lt (by rw [hn];simp))
 ·rw [st.ext.keep r hr fun j b t hb _ ht=>h.blk j b t hb ht];exact h.obj
 ·rcases st.ext.mine j b t hb ht with h1|⟨i,b0,t0,e1, -,e2,e3⟩
  ·omega
  ·rw [<- e3];exact h.blk i b0 t0 e1 e2
 ·cases hf : ρ'.fz r with
  | none=>rfl
  | some x =>
   rcases st.ext.fzn r x hf with h1|h1|⟨i,b0,t0,e1, -,e2,e3⟩
   ·rw [h.fz] at h1;cases h1
   ·omega
   ·exact absurd e3 (h.blk i b0 t0 e1 e2)
 ·cases hf : ρ'.fm r with
  | none=>rfl
  | some x =>
   rcases st.ext.fmn r x hf with h1|h1|⟨i,b0,t0,e1, -,e2,e3⟩
   ·rw [h.fm] at h1;cases h1
   ·omega
   ·exact absurd e3 (h.blk i b0 t0 e1 e2)
theorem Kp.set {r id:Nat} {o o':Obj} (h:Kp ρ s w r id o) (hw:∀ k,k≠r->w'.heap[k]? = w.heap[k]?) (ho:w'.heap[r]? = some o'):Kp ρ s w' r id o' :=
 ⟨h.nm,h.lt,h.no,ho,h.blk,h.fz,h.fm⟩
theorem Sim.setKp {r id:Nat} {o:Obj} (hS:Sim N ρ s a w) (h:Kp ρ s w r id o) (hw:∀ k,k≠r->w'.heap[k]? = w.heap[k]?):Sim N ρ s a w':=by
 refine ⟨hS.tm,⟨fun j b hb=>?_,hS.rep.sep,fun k x hk=>?_,hS.rep.dis,fun k es hk=>?_⟩,hS.fresh,hS.size,hS.dfr⟩
 ·obtain ⟨t,h1,h2⟩:=hS.rep.blk j b hb;exact ⟨t,h1,h2.world (hw _ (h.blk j b t hb h1))⟩
 ·obtain ⟨e,fr,h1⟩:=hS.rep.frz k x hk;exact ⟨e,fr,by rw [hw k (fun e=>by rw [e,h.fz] at hk;cases hk)];exact h1⟩
 ·obtain ⟨⟨cl,h1,h2⟩,h3⟩:=hS.rep.frm k es hk;exact ⟨⟨cl,by rw [hw k (fun e=>by rw [e,h.fm] at hk;cases hk)];exact h1,h2⟩,h3⟩
theorem Step.set {r:Nat} (st:Step ρ1 s1 w1 ρ s w) (hr:w1.heap.size<=r) (hw:∀ k,k≠r->w'.heap[k]? = w.heap[k]?) (h1:w'.os=w.os) (h2:w'.tape=w.tape) (h3:w'.output=w.output) (h4:w'.heap.size=w.heap.size) :
  Step ρ1 s1 w1 ρ s w' :=
 ⟨st.up,st.dom,st.same,⟨st.ext.le,h1.trans st.ext.os,h2.trans st.ext.tape,h3.trans st.ext.output,h4▸st.ext.size,fun k hk hno=>(hw k (by omega)).trans (st.ext.keep k hk hno),st.ext.mine,st.ext.fzn,st.ext.fmn⟩⟩
theorem Sim.new (hS:Sim N ρ s a w) (o:Obj):Did ρ s.H s.c w (.pointer (some ⟨w.heap.size,0,none⟩)) (w.alloc o) (.ptr s.c 0) s.H (s.c+1) (ρ.upd s.c ⟨w.heap.size,0,0,0,false⟩) /\
  ∀ T,Kp (ρ.upd s.c ⟨w.heap.size,0,0,0,false⟩) ⟨T,s.H,s.c+1⟩ (w.alloc o) w.heap.size s.c o:=by
 have hid:=hS.fresh s.c (Nat.le_refl _);have hle : ρ.le (ρ.upd s.c ⟨w.heap.size,0,0,0,false⟩):=Ren.le_upd hid;have hno:s.H s.c=none:=by
  cases h:s.H s.c with
  | none=>rfl
  | some b=>obtain ⟨t,h1, -⟩:=hS.rep.blk _ _ h;rw [hid] at h1;cases h1
 have nmj:∀ j b,s.H j=some b->(ρ.upd s.c ⟨w.heap.size,0,0,0,false⟩).nm j = ρ.nm j:=fun j b hb=>by
  have:j≠s.c:=fun e=>by rw [e,hno] at hb;cases hb
  simp only [Ren.upd,this,if_false]
 have lt:∀ j b t,s.H j=some b -> ρ.nm j=some t->t.block<w.heap.size:=fun j b t hb ht=>by
  obtain ⟨t',h1,h2⟩:=hS.rep.blk j b hb;rw [ht] at h1;cases h1;exact h2.lt
 have fzn : ρ.fz w.heap.size=none:=by
  cases hf : ρ.fz w.heap.size with
  | none=>rfl
  | some x=>exact absurd (hS.rep.flt hf) (Nat.lt_irrefl _)
 have fmn : ρ.fm w.heap.size=none:=by
  cases hf : ρ.fm w.heap.size with
  | none=>rfl
  | some x =>
   obtain ⟨⟨cl,h1, -⟩, -⟩:=hS.rep.frm _ _ hf;exact absurd (Array.getElem?_eq_some_iff.1 h1).1 (Nat.lt_irrefl _)
 refine ⟨⟨.ptr s.c 0 _ (Ren.upd_same _ _ _) rfl,⟨fun j b hb=>?_,fun i j bi bj ti tj hi hj hij h1 h2 ho=>?_,fun k x hk=>?_,fun j b t hb ho ht=>?_,fun k es hk=>?_⟩,fun j hj=>?_,Nat.le_succ _,fun _ _ h=>h,fun j hj=>?_,?_⟩,fun T=>⟨Ren.upd_same _ _ _,Nat.lt_succ_self _,hno,heap_alloc_new w o,fun j b t hb ht=>?_,fzn,fmn⟩⟩
 ·obtain ⟨t,h1,h2⟩:=hS.rep.blk j b hb;exact ⟨t,hle.nm _ _ h1,(h2.mono hle).world (heap_alloc_old w o h2.lt)⟩
 ·rw [nmj i bi hi] at h1;rw [nmj j bj hj] at h2;exact hS.rep.sep i j bi bj ti tj hi hj hij h1 h2 ho
 ·obtain ⟨e,fr,h1⟩:=hS.rep.frz k x hk;exact ⟨e,fr,by rw [heap_alloc_old w o (hS.rep.flt hk)];exact h1⟩
 ·rw [nmj j b hb] at ht;exact hS.rep.dis j b t hb ho ht
 ·obtain ⟨⟨cl,h1,h2⟩,h3⟩:=hS.rep.frm k es hk;refine ⟨⟨cl,by rw [heap_alloc_old w o (Array.getElem?_eq_some_iff.1 h1).1];exact h1,h2⟩,fun j b t hb ho ht=>?_⟩;rw [nmj j b hb] at ht;exact h3 j b t hb ho ht
 ·simp only [Ren.upd,show j≠s.c by omega,if_false];exact hS.fresh j (by omega)
 ·simp only [Ren.upd,show j≠s.c by omega,if_false]
 ·refine ⟨hle,rfl,rfl,rfl,by simp,fun k hk _=>heap_alloc_old w o hk,fun j b t hb ht=>?_,fun k r hk=>.inl hk,fun k r hk=>.inl hk⟩;rw [nmj j b hb] at ht;exact .inr ⟨j,b,t,hb,fun h=>h,ht,rfl⟩
 ·rw [nmj j b hb] at ht;have:=lt j b t hb ht;omega
theorem A5h {c:Code} {x y:IC} (h:trC P N c=some (.seq x y)):∃ a b,c=.seq a b/\trC P N a=some x/\trC P N b=some y:=by
 cases c<;>simp only [trC] at h<;>(try (cases h;done))
 case seq a b =>
  split at h
  ·rename_i x' y' hx hy;cases h;exact ⟨a,b,rfl,hx,hy⟩
  ·cases h
 all_goals (repeat' (split at h))<;>(try (cases h;done))
 all_goals simp at h
theorem trC_blk {c:Code} {i:Nat} {x:IC} (h:trC P N c=some (.blk i x)):∃ b,c=.block i b/\trC P N b=some x:=by
 cases c<;>simp only [trC] at h<;>(try (cases h;done))
 case block j b =>
  simp only [Option.map_eq_some_iff] at h;obtain ⟨x',hx,he⟩:=h;cases he;exact ⟨b,rfl,hx⟩
 all_goals (repeat' (split at h))<;>(try (cases h;done))
 all_goals simp at h
theorem trC_loop {c:Code} {x:IC} (h:trC P N c=some (.loop x)):∃ b,c=.loop b/\trC P N b=some x:=by
 cases c<;>simp only [trC] at h<;>(try (cases h;done))
 case loop b =>
  simp only [Option.map_eq_some_iff] at h;obtain ⟨x',hx,he⟩:=h;cases he;exact ⟨b,rfl,hx⟩
 all_goals (repeat' (split at h))<;>(try (cases h;done))
 all_goals simp at h
theorem trC_cond {c:Code} {o:Opd} {x y:IC} (h:trC P N c=some (.cond o x y)):∃ c0 a b,c=.cond c0 a b/\opd c0=some o/\trC P N a=some x/\trC P N b=some y:=by
 cases c<;>simp only [trC] at h<;>(try (cases h;done))
 case cond c0 a b =>
  split at h
  ·rename_i c' x' y' hc0 hx hy;cases h;exact ⟨c0,a,b,rfl,hc0,hx,hy⟩
  ·cases h
 all_goals (repeat' (split at h))<;>(try (cases h;done))
 all_goals simp at h
theorem trC_rg {c:Code} {r:Rg} (h:trC P N c=some (.rg r)):∃ id ops d,c=.region id ops d/\rgT P N ops d=r:=by
 cases c<;>simp only [trC] at h<;>(try (cases h;done))
 case region id ops d =>
  split at h
  ·split at h
   ·cases h
   ·split at h<;>cases h
  ·cases h;exact ⟨id,ops,d,rfl,rfl⟩
 all_goals (repeat' (split at h))<;>(try (cases h;done))
 all_goals simp at h
theorem blt_lt {a b:Nat} (h:a.blt b=true):a<b:=by simpa [Nat.blt_eq] using h
theorem rg1T_ne {ops:Array Oper}:(∀ {i n io},rg1T P N ops≠.r2 i n io)/\∀ {i n io},rg1T P N ops≠.r3 i n io:=by
 constructor<;>intro i n io h<;>unfold rg1T at h<;>(repeat' (split at h))<;>cases h
theorem rg1_inv {ops:Array Oper} {d:Bool} {io:List IOper} {m it:Nat} (h:rgT P N ops d=.r1 io m it) :
  d=false/\∃ pre ty x p f k e,ops.toList=pre++[⟨some it,.range ty (.tmp m),x,p,f,none⟩]/\trL P N ops pre=some io/\P.underlying ty=some (.map k e)/\it<N:=by
 unfold rgT at h;split at h
 ·cases h
 ·refine ⟨rfl,?_⟩;split at h
  ·split at h<;>cases h
  ·split at h<;>cases h
  ·unfold rg1T at h;split at h
   ·rename_i it' ty m' x p f pre hops;split at h
    ·rename_i k e io' hu hl hb;cases h;refine ⟨pre.reverse,ty,x,p,f,k,e,?_,hl,hu,blt_lt hb⟩;have:=congrArg List.reverse hops;simpa using this
    ·cases h
   ·cases h
theorem rg2_inv {ops:Array Oper} {d:Bool} {io:List IOper} {it n:Nat} (h:rgT P N ops d=.r2 it n io) :
  d=false/\∃ rest x p f,ops.toList=⟨some n,.next (.tmp it) false,x,p,f,none⟩ :: rest/\trL P N ops rest=some io/\n<N:=by
 unfold rgT at h;split at h
 ·cases h
 ·refine ⟨rfl,?_⟩;split at h
  ·rename_i n' it' x p f rest hops;split at h
   ·rename_i io' hl hb;cases h;exact ⟨rest,x,p,f,hops,hl,blt_lt hb⟩
   ·cases h
  ·split at h<;>cases h
  ·exact absurd h rg1T_ne.1
theorem rg3_inv {ops:Array Oper} {d:Bool} {io:List IOper} {it n:Nat} (h:rgT P N ops d=.r3 it n io) :
  d=false/\∃ rest x p f,ops.toList=⟨some n,.entry (.tmp it),x,p,f,none⟩ :: rest/\trL P N ops rest=some io/\n<N:=by
 unfold rgT at h;split at h
 ·cases h
 ·refine ⟨rfl,?_⟩;split at h
  ·split at h<;>cases h
  ·rename_i n' it' x p f rest hops;split at h
   ·rename_i io' hl hb;cases h;exact ⟨rest,x,p,f,hops,hl,blt_lt hb⟩
   ·cases h
  ·exact absurd h rg1T_ne.2
end
structure RgI (P:Program) (N:Nat) (ks vs:List DV) (it n e id b1 b2:Nat) (ok:Opd) (io2 io3:List IOper) (Y:IC) (Q:Exit->St->Prop) (I:List Nat->St->Prop):Prop where
 hit:∀ L s,I L s->s.T it=.ptr id 0
 fin:∀ L s,I L s->(∀ i<ks.length,i∈L)->rwp P (fun s3=>ev s3.T ok=.bool false/\Q .normal s3) io2 ⟨s.T.upd n (.tup [.bool false]),s.H,s.c⟩
 rnd:∀ L s i k v,I L s->L.Nodup->(∀ j∈L,j<ks.length)->i ∉ L->ks[i]? = some k->vs[i]? = some v ->
  rwp P (fun s3=>ev s3.T ok=.bool true/\s3.T it=.ptr id 0/\rwp P (fun s4=>IW P N Y s4 (A7o b2 (A4j (fun s5=>I (i :: L) s5) (A7o b1 Q)))) io3 ⟨s3.T.upd e (.tup [k,v]),s3.H,s3.c⟩) io2 ⟨s.T.upd n (.tup [.bool true,k,v]),s.H,s.c⟩
theorem IW.range {P:Program} {N:Nat} {io1 io2 io3:List IOper} {m it n e b1 b2:Nat} {ok:Opd} {Y:IC} {s:St} {Q:Exit->St->Prop}
  (h:rwp P (fun s1 => ∃ kd ks vs,s1.T m=.mp kd ks vs/\∃ I:List Nat->St->Prop,I [] ⟨s1.T.upd it (.ptr s1.c 0),s1.H,s1.c+1⟩/\RgI P N ks vs it n e s1.c b1 b2 ok io2 io3 Y Q I) io1 s) :
  IW P N (.seq (.rg (.r1 io1 m it)) (.blk b1 (.loop (.seq (.rg (.r2 it n io2)) (.seq (.cond ok .skip (.exit b1)) (.blk b2 (.seq (.rg (.r3 it e io3)) Y))))))) s Q:=by
 intro hm c hc;obtain ⟨cA,c2,rfl,hA,h2⟩:=A5h hc;obtain ⟨c3,rfl,h3⟩:=trC_blk h2;obtain ⟨c4,rfl,h4⟩:=trC_loop h3;obtain ⟨cB,c5,rfl,hB,h5⟩:=A5h h4;obtain ⟨c6,c7,rfl,h6,h7⟩:=A5h h5;obtain ⟨cc,cs,ce,rfl,hcc,hcs,hce⟩:=trC_cond h6;obtain ⟨c8,rfl,h8⟩:=trC_blk h7;obtain ⟨cC,cY,rfl,hC,hY⟩:=A5h h8;obtain ⟨iA,opsA,dA,rfl,eA⟩:=trC_rg hA;obtain ⟨iB,opsB,dB,rfl,eB⟩:=trC_rg hB;obtain ⟨iC,opsC,dC,rfl,eC⟩:=trC_rg hC;obtain ⟨rfl,pre,ty,xA,pA,fA,kt,et,hopsA,hlA,hu,hitN⟩:=rg1_inv eA;obtain ⟨rfl,rB,xB,pB,fB,hopsB,hlB,hnN⟩:=rg2_inv eB;obtain ⟨rfl,rC,xC,pC,fC,hopsC,hlC,heN⟩:=rg3_inv eC;intro ρ a w hS;refine wp_seq (wp_region_list ?_);rw [hopsA];refine A2k _ pre io1 hlA hS h fun ρ1 s1 a1 w1 hh hS1 hst1=>?_;obtain ⟨kd,ks,vs,hTm,I,hI0,hI⟩:=hh;have rm:=hS1.tm m;rw [hTm] at rm;obtain ⟨bm,es,hfm,q1,q2,q3,q4,q5⟩:∃ bm es, ρ1.fm bm=some es/\ks.length=es.size/\vs.length=es.size/\(∀ (i:Nat) x (e:MapEntry),ks[i]? = some x->es[i]? = some e->VRel ρ1 x e.key) /\
   (∀ (i:Nat) x (e:MapEntry),vs[i]? = some x->es[i]? = some e->VRel ρ1 x e.val)/\a1.eval (.tmp m)=.map (some bm):=by
  generalize hv:a1.tmps.getD m undef=v at rm;cases rm with
  | mp _ _ _ b es h0 h1 h2 h3 h4 h5=>exact ⟨b,es,h0,h2,h3,h4,h5,hv⟩
 obtain ⟨⟨cl,hbm,hnd,E7⟩,hown⟩:=hS1.rep.frm bm es hfm;have run1:(execOp a1.eval ⟨some it,.range ty (.tmp m),xA,pA,fA,none⟩).run P w1=.ok (.value (.pointer (some ⟨w1.heap.size,0,none⟩))) (w1.alloc (.mapIter (some bm) cl #[] cl)):=by
  simp only [execOp,Sem.run_bind,q5,run_range_map w1 ty kt et bm es cl hu hbm,Result.andThen_ok,Sem.run_pure]
 refine A5c rfl run1 ?_;obtain ⟨d2,hkp2⟩:=hS1.new (.mapIter (some bm) cl #[] cl);obtain ⟨hS2,hst2⟩:=hS1.did (d:=some it) (by simp [Y5];omega) d2;unfold wpList;refine wp_block ?_;have hst12:=hst1.trans hst2;have hbmne:bm≠w1.heap.size:=fun e1=>by
  have:=(Array.getElem?_eq_some_iff.1 hbm).1;omega
 have hbm2:(w1.alloc (.mapIter (some bm) cl #[] cl)).heap[bm]? = some (.map es cl):=by rw [heap_alloc_old _ _ (Array.getElem?_eq_some_iff.1 hbm).1];exact hbm
 have map_keep:∀ {ρa:Ren} {sa:St} {wa:World} {ρb:Ren} {sb:St} {wb:World},Rep ρa sa.H wa -> ρa.fm bm=some es->wa.heap[bm]? = some (.map es cl)->Step ρa sa wa ρb sb wb->wb.heap[bm]? = some (.map es cl):=by
  intro ρa sa wa ρb sb wb hR hf hb st;rw [st.ext.keep bm (Array.getElem?_eq_some_iff.1 hb).1 fun id b t h1 h2 h3=>(hR.frm bm es hf).2 id b t h1 h2 h3];exact hb
 refine wp_loop_ghost (fun μ a' w' => ∃ ρ' s' L seen,I L s'/\L.Nodup/\(∀ i∈L,i<ks.length)/\Sim N ρ' s' a' w'/\Step ρ1 s1 w1 ρ' s' w'/\Kp ρ' s' w' w1.heap.size s1.c (.mapIter (some bm) cl seen cl) /\
   w'.heap[bm]? = some (.map es cl)/\(∀ (i:Nat) (e:MapEntry),es[i]? = some e->(seen.contains e.born=true↔i∈L)) /\ μ = (leftOf es seen).size) _
  ⟨_,_,[], #[],hI0,List.nodup_nil,fun i hi=>(by cases hi),hS2,hst2,hkp2 _,hbm2,fun i e _=>by simp,rfl⟩ ?_
 rintro μ a' w' ⟨ρ',s',L,seen,hIL,hLn,hLb,hS',hst',hkp,hb',hsn,rfl⟩;have hfm' : ρ'.fm bm=some es:=hst'.ext.le.fm _ _ hfm;have rit:=hS'.tm it;rw [hI.hit L s' hIL] at rit;obtain ⟨t,ht, -,rit⟩:=rit.ptr_inv;rw [hkp.nm] at ht;cases ht;have eit:a'.eval (.tmp it)=.pointer (some ⟨w1.heap.size,0,none⟩):=rit;refine wp_seq (wp_region_list ?_);rw [hopsB];rcases run_next_at (P:=P) w' xB w1.heap.size bm cl cl seen es cl hkp.obj hb' E7 (Nat.le_refl _) with ⟨h0,hrun⟩|⟨en,hen,wx,hal,hrun⟩
 ·have run2:(execOp a'.eval ⟨some n,.next (.tmp it) false,xB,pB,fB,none⟩).run P w'=.ok (.value (.tuple #[.bool false])) w':=by
   simp only [execOp,Sem.run_bind,eit,hrun,Result.andThen_ok,Sem.run_pure]
  refine A5c rfl run2 ?_;have d:Did ρ' s'.H s'.c w' (.tuple #[.bool false]) w' (.tup [.bool false]) s'.H s'.c ρ':=⟨.tup _ _ rfl (by
    intro i x y hx hy
    match i with
    | 0=>cases hx;cases hy;exact .bool _
    | _+1=>cases hx),hS'.rep,hS'.fresh,Nat.le_refl _,fun _ _ h=>h,fun _ _=>rfl,Ext.refl _ _ _⟩
  obtain ⟨hS3,hst3⟩:=hS'.did (d:=some n) (by simp [Y5];omega) d;refine T1 rB io2 hlB hS3 (hI.fin L s' hIL fun i hi=>?_) fun ρ4 s4 a4 w4 hq hS4 hst4=>?_
  ·have hi':i<es.size:=q1▸hi;have:=all_seen es seen h0 es[i] (by simp);exact (hsn i es[i] (by simp [hi'])).1 this
  ·obtain ⟨hok,hQ⟩:=hq;have hr:=B2 hS4.tm hcc;rw [hok] at hr;refine wp_seq (wp_cond hr.bool_inv ?_);rw [if_neg Bool.false_ne_true];refine wp_mono (IW.of (ic:=.exit b1) (Q:=fun e s=>e=.exit b1/\s=s4) ⟨rfl,rfl⟩ hm ce hce ρ4 a4 w4 hS4) ?_;rintro e5 a5 w5 ⟨ρ5,s5,⟨rfl,rfl⟩,hS5,hst5⟩;show (if b1=b1 then Ends N ρ s w Q .normal a5 w5 else _);rw [if_pos rfl];exact ⟨ρ5,s5,hQ,hS5,(((hst1.trans hst').trans hst3).trans hst4).trans hst5⟩
 ·obtain ⟨hmem,hfr⟩:=mem_left hen;obtain ⟨i,hi⟩:=List.getElem?_of_mem hmem;have hi2:es[i]? = some en:=by simpa using hi
  have his:i<es.size:=(Array.getElem?_eq_some_iff.1 hi2).1;have hk:ks[i]? = some ks[i]:=List.getElem?_eq_getElem (by omega);have hv:vs[i]? = some vs[i]:=List.getElem?_eq_getElem (by omega);have hiL:i ∉ L:=fun hh=>by rw [(hsn i en hi2).2 hh] at hfr;cases hfr
  have rk:=(q3 i _ en hk hi2).mono hst'.ext.le;have rv:=(q4 i _ en hv hi2).mono hst'.ext.le;have hxh:wx.heap=w'.heap:=by rcases hal with rfl|rfl<;>rfl
  obtain ⟨w2,hw2⟩:∃ w2,w2=setBlock wx w1.heap.size (.mapIter (some bm) cl (seen.push en.born) cl):=⟨_,rfl⟩;rw [<- hw2] at hrun;have hrs:w1.heap.size<w'.heap.size:=(Array.getElem?_eq_some_iff.1 hkp.obj).1;have k1:∀ k,k≠w1.heap.size->w2.heap[k]? = w'.heap[k]? := fun k hk=>by
   rw [hw2];simp only [setBlock,hxh];rw [Array.getElem?_setIfInBounds,if_neg (Ne.symm hk)]
  have k2:w2.heap[w1.heap.size]? = some (.mapIter (some bm) cl (seen.push en.born) cl):=by
   rw [hw2];simp only [setBlock,hxh];rw [Array.getElem?_setIfInBounds,if_pos rfl,if_pos hrs]
  have k3:w2.os=w'.os/\w2.tape=w'.tape/\w2.output=w'.output/\w2.heap.size=w'.heap.size:=by
   rw [hw2];rcases hal with rfl|rfl<;>exact ⟨rfl,rfl,rfl,by simp [setBlock]⟩
  have hSx:=hS'.setKp hkp k1;have hkx:=hkp.set k1 k2;have hstx:=hst'.set (Nat.le_refl _) k1 k3.1 k3.2.1 k3.2.2.1 k3.2.2.2;have hbx:w2.heap[bm]? = some (.map es cl):=(k1 bm hbmne).trans hb';have run2:(execOp a'.eval ⟨some n,.next (.tmp it) false,xB,pB,fB,none⟩).run P w'=.ok (.value (.tuple #[.bool true,en.key,en.val])) w2:=by
   simp only [execOp,Sem.run_bind,eit,hrun,Result.andThen_ok,Sem.run_pure]
  refine A5c rfl run2 ?_;have d:Did ρ' s'.H s'.c w2 (.tuple #[.bool true,en.key,en.val]) w2 (.tup [.bool true,ks[i],vs[i]]) s'.H s'.c ρ':=⟨.tup _ _ rfl (by
    intro j x y hx hy
    match j with
    | 0=>cases hx;cases hy;exact .bool _
    | 1=>cases hx;cases hy;exact rk
    | 2=>cases hx;cases hy;exact rv
    | _+3=>cases hx),hSx.rep,hSx.fresh,Nat.le_refl _,fun _ _ h=>h,fun _ _=>rfl,Ext.refl _ _ _⟩
  obtain ⟨hS3,hst3⟩:=hSx.did (d:=some n) (by simp [Y5];omega) d;have hk3:=hkx.step hst3;have hb3:=map_keep hSx.rep hfm' hbx hst3;have hf3:=hst3.ext.le.fm _ _ hfm';refine T1 rB io2 hlB hS3 (hI.rnd L s' i _ _ hIL hLn hLb hiL hk hv) fun ρ4 s4 a4 w4 hq hS4 hst4=>?_;obtain ⟨hok,hit4,hQ⟩:=hq;have hk4:=hk3.step hst4;have hb4:=map_keep hS3.rep hf3 hb3 hst4;have hf4:=hst4.ext.le.fm _ _ hf3;have hr:=B2 hS4.tm hcc;rw [hok] at hr;refine wp_seq (wp_cond hr.bool_inv ?_);rw [if_pos rfl];refine wp_mono (IW.of (ic:=.skip) (Q:=fun e s=>e=.normal/\s=s4) ⟨rfl,rfl⟩ hm cs hcs ρ4 a4 w4 hS4) ?_;rintro e5 a5 w5 ⟨ρ5,s5,⟨rfl,rfl⟩,hS5,hst5⟩;have hk5:=hk4.step hst5;have hb5:=map_keep hS4.rep hf4 hb4 hst5;have hf5:=hst5.ext.le.fm _ _ hf4;refine wp_block (wp_seq (wp_region_list ?_));rw [hopsC];have rit5:=hS5.tm it;rw [hit4] at rit5;obtain ⟨t,ht, -,rit5⟩:=rit5.ptr_inv;rw [hk5.nm] at ht;cases ht;have eit5:a5.eval (.tmp it)=.pointer (some ⟨w1.heap.size,0,none⟩):=rit5;have run3:(execOp a5.eval ⟨some e,.entry (.tmp it),xC,pC,fC,none⟩).run P w5=.ok (.value (.tuple #[en.key,en.val])) w5:=by
   simp only [execOp,Sem.run_bind,eit5,run_entry_at (P:=P) w5 w1.heap.size bm cl seen es cl en hk5.obj hb5 hmem hnd,Result.andThen_ok,Sem.run_pure]
  refine A5c rfl run3 ?_;have hst35:=(hst3.trans hst4).trans hst5;have d:Did ρ5 s5.H s5.c w5 (.tuple #[en.key,en.val]) w5 (.tup [ks[i],vs[i]]) s5.H s5.c ρ5:=⟨.tup _ _ rfl (by
    intro j x y hx hy
    match j with
    | 0=>cases hx;cases hy;exact rk.mono hst35.ext.le
    | 1=>cases hx;cases hy;exact rv.mono hst35.ext.le
    | _+2=>cases hx),hS5.rep,hS5.fresh,Nat.le_refl _,fun _ _ h=>h,fun _ _=>rfl,Ext.refl _ _ _⟩
  obtain ⟨hS6,hst6⟩:=hS5.did (d:=some e) (by simp [Y5];omega) d;have hk6:=hk5.step hst6;have hb6:=map_keep hS5.rep hf5 hb5 hst6;have hf6:=hst6.ext.le.fm _ _ hf5;refine T1 rC io3 hlC hS6 hQ fun ρ7 s7 a7 w7 hY7 hS7 hst7=>?_;have hk7:=hk6.step hst7;have hb7:=map_keep hS6.rep hf6 hb6 hst7;have hf7:=hst7.ext.le.fm _ _ hf6;have hst17:=(((hstx.trans hst35).trans hst6).trans hst7);refine wp_mono (hY7 hm cY hY ρ7 a7 w7 hS7) ?_;rintro e8 a8 w8 ⟨ρ8,s8,hq8,hS8,hst8⟩;have hst18:=hst17.trans hst8;have hk8:=hk7.step hst8;have hb8:=map_keep hS7.rep hf7 hb7 hst8;have next:I (i :: L) s8->∃ n',n'<(leftOf es seen).size/\∃ ρ' s' L seen,I L s'/\L.Nodup/\(∀ i∈L,i<ks.length)/\Sim N ρ' s' a8 w8/\Step ρ1 s1 w1 ρ' s' w8/\Kp ρ' s' w8 w1.heap.size s1.c (.mapIter (some bm) cl seen cl) /\
   w8.heap[bm]? = some (.map es cl)/\(∀ (i:Nat) (e:MapEntry),es[i]? = some e->(seen.contains e.born=true↔i∈L))/\n'=(leftOf es seen).size:=fun hI8=>by
   refine ⟨_,left_shrinks es seen en hen, ρ8,s8,i :: L,seen.push en.born,hI8,List.nodup_cons.2 ⟨hiL,hLn⟩,fun j hj=>?_,hS8,hst18,hk8,hb8,fun j e' hj=>?_,rfl⟩
   ·rcases List.mem_cons.1 hj with rfl|hj
    ·omega
    ·exact hLb j hj
   ·rw [contains_push,Bool.or_eq_true,List.mem_cons,hsn j e' hj];constructor
    ·rintro (h1|h1)
     ·exact .inr h1
     ·refine .inl ?_;have h2:=beq_iff_eq.1 h1;have h3:(es.toList.map (·.born))[j]? = some en.born:=by rw [List.getElem?_map,show es.toList[j]? = some e' by simpa using hj];simp [h2]
      have h4:(es.toList.map (·.born))[i]? = some en.born:=by rw [List.getElem?_map,hi];rfl
      exact (List.getElem?_inj (List.getElem?_eq_some_iff.1 h3).1 hnd).1 (h3.trans h4.symm)
    ·rintro (rfl|h1)
     ·rw [hi2] at hj;cases hj;exact .inr (beq_self_eq_true _)
     ·exact .inl h1
  have hend:Step ρ s w ρ8 s8 w8:=hst1.trans hst18;cases e8 with
  | normal=>exact next hq8
  | exit j =>
   simp only [A7o] at hq8;simp only [Exit.inBlock];split at hq8
   ·rename_i hj;rw [if_pos hj];exact next hq8
   ·rename_i hj;rw [if_neg hj];simp only [A4j,A7o] at hq8;show (if j=b1 then Ends N ρ s w Q .normal a8 w8 else Ends N ρ s w Q (.exit j) a8 w8);split at hq8
    ·rename_i hj1;rw [if_pos hj1];exact ⟨ρ8,s8,hq8,hS8,hend⟩
    ·rename_i hj1;rw [if_neg hj1];exact ⟨ρ8,s8,hq8,hS8,hend⟩
  | _=>exact ⟨ρ8,s8,hq8,hS8,hend⟩
theorem K2 {n:Nat} {v:DV}:∀ {l:List (Nat × DV)} {T:Tm},C5 l T->(∀ p∈l,p.1≠n)->C5 l (T.upd n v)
 | [],_,_,_=>trivial
 | (k,x) :: r,T,⟨h1,h2⟩,h=>⟨by simp only [Tm.upd,h (k,x) List.mem_cons_self,if_false];exact h1,K2 h2 fun p hp=>h p (List.mem_cons_of_mem _ hp)⟩
theorem A8j (T:Tm) (n:Nat) (v:DV):(T.upd n v) n=v:=by simp [Tm.upd]
theorem N4 (T:Tm) {n k:Nat} (v:DV) (h:k≠n):(T.upd n v) k=T k:=by simp [Tm.upd,h]
def lpR {σ : Type} (it:Nat) (x:DV) (L : σ -> List (Nat × DV)) (h : σ -> Hp) (J:List Nat -> σ -> Nat->Prop) (D:List Nat) (Q:Exit->St->Prop):Exit->St->Prop
 | .normal,⟨T,H,c⟩=>T it=x/\∃ b,C5 (L b) T/\Sub (h b) H/\J D b c
 | e,s=>Q e s
theorem k_lRn {σ : Type} {it:Nat} {x:DV} {L : σ -> List (Nat × DV)} {h : σ -> Hp} {J:List Nat -> σ -> Nat->Prop} {D:List Nat} {Q:Exit->St->Prop} {T:Tm} {H:Hp} {c:Nat} :
  lpR it x L h J D Q .normal ⟨T,H,c⟩=(T it=x/\∃ b,C5 (L b) T/\Sub (h b) H/\A5b (J D) b c):=propext Iff.rfl
theorem k_lRr {σ : Type} {it:Nat} {x:DV} {L : σ -> List (Nat × DV)} {h : σ -> Hp} {J:List Nat -> σ -> Nat->Prop} {D:List Nat} {Q:Exit->St->Prop} {s:St}:lpR it x L h J D Q .ret s=Q .ret s:=propext Iff.rfl
attribute [go_sem] k_lRn k_lRr
theorem B0s {P:Program} {N f:Nat} {D:(Ps->IC)->TD} [F:FT P f D] {p0 p1 p2 p3 p4 p5:Ps} {g m it n ok e x y k v b1 b2:Nat} {Y z:IC} {L0 L1 L2 L3 L4 L5:List Nat}
  [g0:LkD (D (pz P f)) p0 (.Q (.rg (.r1 [⟨some m,.call g [],none⟩] m it)) (pz P f p1) L0)] [g1:LkD (D (pz P f)) p1 (.J (.loop (pz P f p2)) b1 L1)]
  [g2:LkD (D (pz P f)) p2 (.Q (.rg (.r2 it n [⟨some ok,.pur (.ext (.t n) 0),none⟩])) (pz P f p3) L2)] [g3:LkD (D (pz P f)) p3 (.C .skip (pz P f p4) (.exit b1) (.t ok) L3)]
  [g4:LkD (D (pz P f)) p4 (.J (pz P f p5) b2 L4)]
  [g5:LkD (D (pz P f)) p5 (.Q (.rg (.r3 it e [⟨some x,.pur (.ext (.t e) 0),none⟩,⟨some y,.pur (.ext (.t e) 1),none⟩,⟨some k,.pur (.mv (.t x)),none⟩,⟨some v,.pur (.mv (.t y)),none⟩])) Y L5)]
  {T:Tm} {H:Hp} {c:Nat} {Q0:Exit->St->Prop} {kd:KKey} {ks vs:List DV} (hc:PC P g [] (.mp kd ks vs)) {σ : Type} (L : σ -> List (Nat × DV)) (h : σ -> Hp) (J:List Nat -> σ -> Nat->Prop) (a : σ)
  (hd:[k,v,it,m,n,ok,e,x,y].Nodup) (hA:∀ b,((L b).map Prod.fst).all (fun q => !([k,v,it,m,n,ok,e,x,y].contains q))=true) (h0:C5 (L a) T) (hH:Sub (h a) H) (hJ:J [] a (c+1))
  (fin:∀ D b c,J D b c->(∀ i<ks.length,i∈D)->IW P N z ⟨tm (L b),h b,c⟩ Q0)
  (rnd:∀ it' D b c i kk vv,J D b c->D.Nodup->(∀ j∈D,j<ks.length)->i ∉ D->ks[i]? = some kk->vs[i]? = some vv ->
   IW P N Y ⟨tm ((it,it') :: (k,kk) :: (v,vv) :: L b),h b,c⟩ (bk b2 (lpR it it' L h J (i :: D) (bk b1 (sq P N z Q0))))) :
  IW P N (pz P f p0) ⟨T,H,c⟩ (sq P N z Q0):=by
 rw [wz g0.get,show PD.ic (.Q (.rg (.r1 [⟨some m,.call g [],none⟩] m it)) (pz P f p1) L0)=.seq (.rg (.r1 [⟨some m,.call g [],none⟩] m it)) (pz P f p1) from rfl,wz g1.get,show PD.ic (.J (.loop (pz P f p2)) b1 L1)=.blk b1 (.loop (pz P f p2)) from rfl,wz g2.get];show IW P N (.seq (.rg (.r1 [⟨some m,.call g [],none⟩] m it)) (.blk b1 (.loop (.seq (.rg (.r2 it n [⟨some ok,.pur (.ext (.t n) 0),none⟩])) (pz P f p3))))) _ _;rw [wz g3.get];show IW P N (.seq (.rg (.r1 [⟨some m,.call g [],none⟩] m it)) (.blk b1 (.loop (.seq (.rg (.r2 it n [⟨some ok,.pur (.ext (.t n) 0),none⟩])) (.seq (.cond (.t ok) .skip (.exit b1)) (pz P f p4)))))) _ _;rw [wz g4.get];show IW P N (.seq (.rg (.r1 [⟨some m,.call g [],none⟩] m it)) (.blk b1 (.loop (.seq (.rg (.r2 it n [⟨some ok,.pur (.ext (.t n) 0),none⟩])) (.seq (.cond (.t ok) .skip (.exit b1)) (.blk b2 (pz P f p5))))))) _ _;rw [wz g5.get];have hL:∀ b, ∀ p∈L b,p.1 ∉ [k,v,it,m,n,ok,e,x,y]:=fun b p hp hh=>by
  have h1:=List.all_eq_true.1 (hA b) p.1 (List.mem_map.2 ⟨p,hp,rfl⟩);rw [List.contains_iff_mem.2 hh] at h1;cases h1
 simp only [List.nodup_cons,List.mem_cons,List.not_mem_nil,or_false,not_or] at hd hL;obtain ⟨⟨d1,d2,d3,d4,d5,d6,d7,d8⟩,⟨d9,d10,d11,d12,d13,d14,d15⟩,⟨d16,d17,d18,d19,d20,d21⟩,⟨d22,d23,d24,d25,d26⟩,⟨d27,d28,d29,d30⟩,⟨d31,d32,d33⟩,⟨d34,d35⟩,d36, -⟩:=hd;refine IW.range ?_;simp only [rwp,I9,K4,List.map_nil];refine cpc hc ⟨kd,ks,vs,A8j _ _ _,fun D s=>s.T it=.ptr c 0/\∃ b,C5 (L b) s.T/\Sub (h b) s.H/\J D b s.c,⟨A8j _ _ _,a,?_,hH,hJ⟩,fun D s q=>q.1,?_,?_⟩
 ·exact K2 (K2 h0 fun p hp=>(hL a p hp).2.2.2.1) fun p hp=>(hL a p hp).2.2.1
 ·rintro D s ⟨q1,b,q2,q3,q4⟩ hall;simp only [rwp,I9,K4,f_ext,ev,A8j,r_ext,List.getElem?_cons_zero,F1];refine ⟨trivial,?_⟩;exact IW.weaken (Q8 (K2 (K2 q2 fun p hp=>(hL b p hp).2.2.2.2.1) fun p hp=>(hL b p hp).2.2.2.2.2.1)) q3 (fin D b _ q4 hall)
 ·rintro D s i kk vv ⟨q1,b,q2,q3,q4⟩ hn hb hi hk hv;simp only [rwp,I9,K4,f_ext,ev,A8j,r_ext,List.getElem?_cons_zero,List.getElem?_cons_succ,F1,fev,N4 _ _ d36,N4 _ _ (Ne.symm d36),N4 _ _ d35,N4 _ _ d34,N4 _ _ (Ne.symm d34),N4 _ _ d7,N4 _ _ (Ne.symm d7),N4 _ _ (Ne.symm d8),N4 _ _ d15,N4 _ _ d14,N4 _ _ d18,N4 _ _ d19];refine ⟨trivial,by rw [N4 _ _ d17];exact q1,?_⟩;refine IW.weaken (T':=tm ((it,.ptr c 0) :: (k,kk) :: (v,vv) :: L b)) (Q8 ⟨?_,?_,?_,?_⟩) q3 ((rnd (.ptr c 0) D b s.c i kk vv q4 hn hb hi hk hv).mono ?_)
  ·rw [N4 _ _ (Ne.symm d9),N4 _ _ (Ne.symm d2),N4 _ _ d21,N4 _ _ d20,N4 _ _ d19,N4 _ _ d18,N4 _ _ d17];exact q1
  ·rw [N4 _ _ d1,A8j]
  ·exact A8j _ _ _
  ·refine K2 (K2 (K2 (K2 (K2 (K2 (K2 q2 ?_) ?_) ?_) ?_) ?_) ?_) ?_<;>intro p hp<;>have h9:=hL b p hp
   ·exact h9.2.2.2.2.1
   ·exact h9.2.2.2.2.2.1
   ·exact h9.2.2.2.2.2.2.1
   ·exact h9.2.2.2.2.2.2.2.1
   ·exact h9.2.2.2.2.2.2.2.2
   ·exact h9.1
   ·exact h9.2.1
  ·rintro e5 ⟨T5,H5,c5⟩ q5;have key:∀ e6,lpR it (.ptr c 0) L h J (i :: D) (bk b1 (sq P N z Q0)) e6 ⟨T5,H5,c5⟩->A4j (fun s5=>s5.T it=.ptr c 0/\∃ b,C5 (L b) s5.T/\Sub (h b) s5.H/\J (i :: D) b s5.c) (A7o b1 (sq P N z Q0)) e6 ⟨T5,H5,c5⟩:=by
    intro e6 q6;cases e6<;>exact q6
   cases e5 with
   | exit j =>
    simp only [bk,A7o] at q5;simp only [A7o];split at q5
    ·rename_i hj;rw [if_pos hj];exact key _ q5
    ·rename_i hj;rw [if_neg hj];exact key _ q5
   | normal=>exact key .normal q5
   | ret=>exact key .ret q5
   | goto l=>exact key (.goto l) q5
   | panic l=>exact key (.panic l) q5
   | outgrown=>exact key .outgrown q5
end Go.Sym
set_option maxHeartbeats 4000000
namespace Go.Proofs.YthlpinppaclofaaGreatDoor
open Go.Eng (IC IOper DReg IFn B5)
open Go.Sym
abbrev x113:XT Tryz.prog 113:=mkF (by unfold B5;conv=>lhs;reduce;simp only [seval,u8n]) (fun h=>by conv=>lhs;cbv)
instance t113:FT Tryz.prog 113 x113.d:=x113.ft
abbrev x154:XT Tryz.prog 154:=mkF (by unfold B5;conv=>lhs;reduce;simp only [seval,u8n]) (fun h=>by conv=>lhs;cbv)
instance t154:FT Tryz.prog 154 x154.d:=x154.ft
abbrev x65:XT Tryz.prog 65:=mkF (by unfold B5;conv=>lhs;reduce;simp only [seval,u8n]) (fun h=>by conv=>lhs;cbv)
instance t65:FT Tryz.prog 65 x65.d:=x65.ft
abbrev x110:XT Tryz.prog 110:=mkF (by unfold B5;conv=>lhs;reduce;simp only [seval,u8n]) (fun h=>by conv=>lhs;cbv)
instance t110:FT Tryz.prog 110 x110.d:=x110.ft
abbrev x29:XT Tryz.prog 29:=mkF (by unfold B5;conv=>lhs;reduce;simp only [seval,u8n]) (fun h=>by conv=>lhs;cbv)
instance t29:FT Tryz.prog 29 x29.d:=x29.ft
abbrev x32:XT Tryz.prog 32:=mkF (by unfold B5;conv=>lhs;reduce;simp only [seval,u8n]) (fun h=>by conv=>lhs;cbv)
instance t32:FT Tryz.prog 32 x32.d:=x32.ft
abbrev x60:XT Tryz.prog 60:=mkF (by unfold B5;conv=>lhs;reduce;simp only [seval,u8n]) (fun h=>by conv=>lhs;cbv)
instance t60:FT Tryz.prog 60 x60.d:=x60.ft
abbrev x59:XT Tryz.prog 59:=mkF (by unfold B5;conv=>lhs;reduce;simp only [seval,u8n]) (fun h=>by conv=>lhs;cbv)
instance t59:FT Tryz.prog 59 x59.d:=x59.ft
abbrev x102:XT Tryz.prog 102:=mkF (by unfold B5;conv=>lhs;reduce;simp only [seval,u8n]) (fun h=>by conv=>lhs;cbv)
instance t102:FT Tryz.prog 102 x102.d:=x102.ft
abbrev x25:XT Tryz.prog 25:=mkF (by unfold B5;conv=>lhs;reduce;simp only [seval,u8n]) (fun h=>by conv=>lhs;cbv)
instance t25:FT Tryz.prog 25 x25.d:=x25.ft
end Go.Proofs.YthlpinppaclofaaGreatDoor
namespace Go.Pb
variable [Go.Sym.Tab]
open Go.Sym
def O1:List (List UInt8)->List Int->Int->List UInt8
 | w :: ks,v :: vs,x=>if v=x then w else O1 ks vs x
 | _,_,_=>[]
theorem A5t:∀ {ks:List (List UInt8)} {vs:List Int} {x:Int} {i:Nat} {w:List UInt8},vs.Nodup->ks[i]? = some w->vs[i]? = some x->O1 ks vs x=w
 | a :: ks,b :: vs,x,0,w,hn,h1,h2=>by simp at h1 h2;simp [O1,h1,h2]
 | a :: ks,b :: vs,x,i+1,w,hn,h1,h2=>by
  simp only [List.getElem?_cons_succ] at h1 h2;have hne:b≠x:=fun e=>(List.nodup_cons.1 hn).1 (e▸List.mem_of_getElem? h2);rw [O1,if_neg hne];exact A5t (List.nodup_cons.1 hn).2 h1 h2
 | [],_,_,_,_,_,h1,_=>by simp at h1
 | _ :: _,[],_,_,_,_,_,h2=>by simp at h2
theorem B0o:∀ {ks:List (List UInt8)} {vs:List Int} {x:Int},(∀ (i:Nat) (v:Int),i<ks.length->vs[i]? = some v->v≠x)->O1 ks vs x=[]
 | [],_,_,_=>by unfold O1;rfl
 | _ :: _,[],_,_=>rfl
 | a :: ks,b :: vs,x,h=>by
  rw [O1,if_neg (h 0 b (by simp) rfl)];exact B0o fun i v hi hv=>h (i+1) v (by simpa using hi) (by simpa using hv)
def A6u (x:Int):List UInt8:=if x=10 then [45] else if x=11 then [33] else O1 B6 A8b x
def wrL (k q:Int) (i:Nat) (l:List (List UInt8)):List (List UInt8):=if N3 k q i=true then [40] :: (l++[[41]]) else l
def txT (l:List Tok):List (List UInt8):=l.map I5
theorem I3 (s:List UInt8):I5 (B1 s)=s:=by
 unfold I5 B1;dsimp only;repeat' split
 all_goals first|rfl|omega|simp_all
theorem E3 (a b:List Tok):txT (a++b)=txT a++txT b:=List.map_append
theorem A9q {k q m:Int} {i:Nat} {l:List Tok} (h:N3 k q i=decide (A8 q<m)):txT (C6 (q,l) m)=wrL k q i (txT l):=by
 unfold C6 wrL;rw [h];dsimp only;by_cases hc:A8 q<m
 ·rw [if_pos hc,if_pos (by simpa using hc),E3,E3];simp [txT,I3]
 ·rw [if_neg hc,if_neg (by simpa using hc)]
theorem A4d (k v:Int) (n:List UInt8) (a:List Ex) (p:Int):exT (.mk k v n a p)=D9 k v n (a.map fun e=>(e.kind,exT e)):=by rw [<- A0z];exact exT.eq_1 ..
theorem tx_un {k v:Int} {n:List UInt8} {x:Ex} {p:Int} (hk:k=10\/k=11):txT (exT (.mk k v n [x] p))=A6u k :: wrL k x.kind 0 (txT (exT x)):=by
 have hw:N3 k x.kind 0=decide (A8 x.kind<6):=by
  unfold N3;rw [Q4 hk];simp
 rw [A4d, <- A9q hw];rcases hk with rfl|rfl<;>simp [D9,txT,I3,A6u,Q4]
theorem wrp0 (k q:Int):N3 k q 0=decide (A8 q<if A8 k=3 then 4 else A8 k):=by
 rw [Bool.eq_iff_iff];simp only [N3,Bool.or_eq_true,Bool.and_eq_true,decide_eq_true_eq,beq_iff_eq,Nat.zero_ne_one,false_or];split<;>omega
theorem wrp1 (k q:Int):N3 k q 1=decide (A8 q<A8 k+1):=by
 rw [Bool.eq_iff_iff];simp only [N3,Bool.or_eq_true,Bool.and_eq_true,decide_eq_true_eq,beq_iff_eq,true_or,and_true];omega
theorem tx_bin {k v:Int} {n:List UInt8} {x y:Ex} {p:Int} (hk:A8 k<6):txT (exT (.mk k v n [x,y] p))=wrL k x.kind 0 (txT (exT x))++A6u k :: wrL k y.kind 1 (txT (exT y)):=by
 rw [A4d, <- A9q (wrp0 k x.kind), <- A9q (wrp1 k y.kind)];obtain ⟨k1,k2⟩:=A7c (k:=k) (by omega);have k3:12<=k:=by
  apply Classical.byContradiction;intro hc;have:k=10\/k=11:=by omega
  rw [Q4 this] at hk;omega
 have hs:B6.getD (k-12).toNat []=A6u k:=by
  obtain ⟨j,rfl⟩:∃ j:Nat,k=12+(j:Int):=⟨(k-12).toNat,by omega⟩;have hj:j<13:=by omega
  have:∀ j:Nat,j<13->B6.getD (12+(j:Int)-12).toNat []=A6u (12+(j:Int)):=by decide
  exact this j hj
 simp only [List.map_cons,List.map_nil];unfold D9;dsimp only;rw [if_neg (by omega),if_neg (by omega),if_neg (by omega),if_neg (by omega),if_neg (by omega),if_neg (by omega),if_neg (by omega),if_neg (by omega),if_neg (by omega),if_pos hk,E3,E3,hs];simp [txT,I3]
theorem tx_leaf {k v:Int} {n:List UInt8} {p:Int} (hk:A8 k=7) (h0:kOk k=true) (h1:T9 k n=true) (h2:U8 k v=true) :
  txT (exT (.mk k v n [] p))=if k=1 then [G5 v] else if k=2 then [n] else O1 D8 F8 k :: (if W6 k=true then [n] else []):=by
 have hr:1<=k/\k<=9:=by
  unfold kOk at h0;simp only [hk,Int.lt_irrefl,decide_false,Bool.false_or,Bool.and_eq_true,decide_eq_true_eq] at h0;refine ⟨h0.1,Classical.byContradiction fun hc=>?_⟩;have:A8 k<7:=by unfold A8;repeat' split;all_goals omega
  omega
 rw [A4d];have hk9:k=1\/k=2\/k=3\/k=4\/k=5\/k=6\/k=7\/k=8\/k=9:=by omega
 rcases hk9 with rfl|rfl|rfl|rfl|rfl|rfl|rfl|rfl|rfl
 ·have hv:¬ (v<0\/2147483647<v):=by
   unfold U8 at h2;simp at h2;omega
  simp [D9,Y0,hv,txT,I5]
 ·have hn:C4 n=true:=by simpa [T9] using h1
  simp [D9,D5,hn,txT,I5]
 ·simp [D9,txT,I3,O1,D8,F8,W6]
 ·simp [D9,txT,I3,O1,D8,F8,W6]
 ·have hn:C4 n=true:=by simpa [T9,W6] using h1
  simp [D9,txT,I3,O1,D8,F8,W6,D5,hn];rfl
 ·have hn:C4 n=true:=by simpa [T9,W6] using h1
  simp [D9,txT,I3,O1,D8,F8,W6,D5,hn];rfl
 ·have hn:C4 n=true:=by simpa [T9,W6] using h1
  simp [D9,txT,I3,O1,D8,F8,W6,D5,hn];rfl
 ·simp [D9,txT,I3,O1,D8,F8,W6]
 ·simp [D9,txT,I3,O1,D8,F8,W6]
theorem A6x {k:Int}:∀ {a:List Ex} {j o d:Nat},msL k j a=some (o,d)->∀ x∈a, ∃ o d,msM x=some (o,d)
 | [],_,_,_,_,x,hx=>by cases hx
 | e :: l,j,o,d,h,x,hx=>by
  unfold msL at h;split at h
  ·cases h
  ·rename_i o1 d1 h1;split at h
   ·cases h
   ·rename_i o2 d2 h2;rcases List.mem_cons.1 hx with rfl|hx
    ·exact ⟨_,_,h1⟩
    ·exact A6x h2 x hx
theorem M0 {s:List UInt8} (h:s.length<=100000):Fit (B1 s):=⟨h,by show -9223372036854775808<=(0:Int);decide,by show (0:Int)<=9223372036854775807;decide⟩
theorem A9d:Fit M1:=⟨Nat.zero_le _,by show -9223372036854775808<=(0:Int);decide,by show (0:Int)<=9223372036854775807;decide⟩
theorem A1r (n:List UInt8):∀ t∈D5 n,Fit t:=by
 intro t ht;unfold D5 at ht;split at ht
 ·obtain rfl:=List.mem_singleton.1 ht;exact A9d
 ·rename_i hn;obtain rfl:=List.mem_singleton.1 ht;refine ⟨?_,by show -9223372036854775808<=(0:Int);decide,by show (0:Int)<=9223372036854775807;decide⟩;have h1:C4 n=true:=by cases h:C4 n with|true=>rfl|false=>exact absurd h hn
  unfold C4 at h1;simp only [Bool.and_eq_true,decide_eq_true_eq] at h1;show n.length<=100000;omega
theorem fit_num (v:Int):∀ t∈Y0 v,Fit t:=by
 intro t ht;unfold Y0 at ht;split at ht
 ·obtain rfl:=List.mem_singleton.1 ht;exact A9d
 ·obtain rfl:=List.mem_singleton.1 ht;exact ⟨Nat.zero_le _,by dsimp only;omega,by dsimp only;omega⟩
theorem A7i {q:Int × List Tok} {m:Int} (h:∀ t∈q.2,Fit t):∀ t∈C6 q m,Fit t:=by
 intro t ht;unfold C6 at ht;split at ht
 ·simp only [List.mem_append,List.mem_singleton] at ht;rcases ht with (rfl|ht)|rfl
  ·exact M0 (by decide)
  ·exact h t ht
  ·exact M0 (by decide)
 ·exact h t ht
theorem A1s {a b:List Tok} (h1:∀ t∈a,Fit t) (h2:∀ t∈b,Fit t):∀ t∈a++b,Fit t:=fun t ht=>by
 rcases List.mem_append.1 ht with h|h
 ·exact h1 t h
 ·exact h2 t h
theorem M7 {x:Tok} (h:Fit x):∀ t∈[x],Fit t:=fun t ht=>by obtain rfl:=List.mem_singleton.1 ht;exact h
theorem fit_build {k v:Int} {n:List UInt8} {as1:List (Int × List Tok)} (h:∀ q∈as1, ∀ t∈q.2,Fit t):∀ t∈D9 k v n as1,Fit t:=by
 have hsg:∀ i:Nat,(B6.getD i []).length<=100000:=fun i=>by
  by_cases hi:i<13
  ·have:∀ i:Nat,i<13->(B6.getD i []).length<=100000:=by decide
   exact this i hi
  ·rw [List.getD_eq_getElem?_getD,List.getElem?_eq_none (by show 13<=i;omega)];simp
 have fin:∀ t∈(match as1 with
  | [q]=>if A8 k=6 then [B1 (if k=10 then [45] else [33])]++C6 q 6 else [M1]
  | [q,r]=>if A8 k<6 then C6 q (if A8 k=3 then 4 else A8 k)++[B1 (B6.getD (k-12).toNat [])]++C6 r (A8 k+1) else [M1]
  | _=>[M1]),Fit t:=by
  match as1 with
  | [q] =>
   dsimp only;split
   ·refine A1s (M7 (M0 (by split<;>decide))) (A7i (h q (by simp)))
   ·exact M7 A9d
  | [q,r] =>
   dsimp only;split
   ·exact A1s (A1s (A7i (h q (by simp))) (M7 (M0 (hsg _)))) (A7i (h r (by simp)))
   ·exact M7 A9d
  | []=>exact M7 A9d
  | _ :: _ :: _ :: _=>exact M7 A9d
 unfold D9;dsimp only;by_cases k1:k=1
 ·rw [if_pos k1];exact fit_num v
 rw [if_neg k1];by_cases k2:k=2
 ·rw [if_pos k2];exact A1r n
 rw [if_neg k2];by_cases k3:k=3
 ·rw [if_pos k3];exact M7 (M0 (by decide))
 rw [if_neg k3];by_cases k4:k=4
 ·rw [if_pos k4];exact M7 (M0 (by decide))
 rw [if_neg k4];by_cases k8:k=8
 ·rw [if_pos k8];exact M7 (M0 (by decide))
 rw [if_neg k8];by_cases k9:k=9
 ·rw [if_pos k9];exact M7 (M0 (by decide))
 rw [if_neg k9];by_cases k5:k=5
 ·rw [if_pos k5];exact A1s (M7 (M0 (by decide))) (A1r n)
 rw [if_neg k5];by_cases k6:k=6
 ·rw [if_pos k6];exact A1s (M7 (M0 (by decide))) (A1r n)
 rw [if_neg k6];by_cases k7:k=7
 ·rw [if_pos k7];exact A1s (M7 (M0 (by decide))) (A1r n)
 rw [if_neg k7];exact fin
theorem fit_exT:∀ (e:Ex), ∀ t∈exT e,Fit t:=by
 have:∀ (m:Nat) (e:Ex),e.sz<m->∀ t∈exT e,Fit t:=by
  intro m
  induction m with
  | zero=>intro e h;omega
  | succ m ih =>
   rintro ⟨k,v,n,a,p⟩ hm;rw [A4d];refine fit_build fun q hq=>?_;obtain ⟨x,hx,rfl⟩:=List.mem_map.1 hq;exact ih x (by have:=Ex.sz_arg (e:=.mk k v n a p) hx;omega)
 exact fun e=>this _ e (Nat.lt_succ_self _)
end Go.Pb
namespace Go.Proofs.YthlpinppaclofaaGreatDoor
open Go.Eng (IC IOper DReg IFn B5)
open Go.Sym Go.Pb
theorem c_wordOf (x:Int):PC Tryz.prog 154 [I64 x] (.str (O1 C1 U9 x)):=by
 refine PC.ofT A6 rfl (Nat.le_of_ble_eq_true rfl) rfl rfl ?_;repeat' ((with_reducible first|refine E7 (p:=IW _ _ (pz Tryz.prog 154 (.o (.o .h))) _ _) ?_|refine wr ?_|refine k_cu ?_ ?_|refine wb2 ?_ ?_<;>(intro hb;try simp only [hb])|fail)<;>try simp only [go_sem,seval])
 unfold A0g;refine B0s c_stms (σ := Unit) (fun _=>[(0,I64 x)]) (fun _=>nil) (fun D _ _ => ∀ i∈D, ∀ v,U9[i]? = some v->v≠x) () (by decide) (fun _=>rfl) ⟨rfl,trivial⟩ (Sub.refl _) (fun i hi=>by cases hi) ?_ ?_
 ·intro D _ c hJ hall;repeat' ((with_reducible first|refine wr ?_|refine k_cu ?_ ?_|refine wb2 ?_ ?_<;>(intro hb;try simp only [hb])|fail)<;>try simp only [go_sem,seval])
  rw [B0o fun i v hi hv=>hJ i (hall i (by simpa using hi)) v hv];exact A4 rfl
 ·rintro it D _ c i kk vv hJ hDn hDb hiD hk hv;rw [List.getElem?_map,Option.map_eq_some_iff] at hk hv;obtain ⟨w,hw,rfl⟩:=hk;obtain ⟨u,hu,rfl⟩:=hv;by_cases hx:u=x
  ·subst hx;repeat' ((with_reducible first|refine wr ?_|refine k_cu ?_ ?_|refine wb2 ?_ ?_<;>(intro hb;try simp only [hb])|fail)<;>try simp only [go_sem,seval])
   rw [A5t (by decide) hw hu];exact A4 rfl
  ·have hx':(u == x)=false:=by simpa using hx
   repeat' ((with_reducible first|refine wr ?_|refine k_cu ?_ ?_|refine wb2 ?_ ?_<;>(intro hb;try simp only [hb])|fail)<;>try simp only [go_sem,seval,hx'])
   refine ⟨(),Sub.refl _,inv (I:=fun _ _=>_) (b:=()) (c:=c) fun j hj v hv'=>?_⟩;rcases List.mem_cons.1 hj with rfl|hj
   ·rw [hu] at hv';cases hv';exact hx
   ·exact hJ j hj v hv'
theorem c_signOf (x:Int):PC Tryz.prog 113 [I64 x] (.str (A6u x)):=by
 refine PC.ofT A6 rfl (Nat.le_of_ble_eq_true rfl) rfl rfl ?_;by_cases h10:x=10
 ·subst h10;repeat' ((with_reducible first|refine wr ?_|refine k_cu ?_ ?_|refine wb2 ?_ ?_<;>(intro hb;try simp only [hb])|fail)<;>try simp only [go_sem,seval])
  exact A4 rfl
 by_cases h11:x=11
 ·subst h11;repeat' ((with_reducible first|refine wr ?_|refine k_cu ?_ ?_|refine wb2 ?_ ?_<;>(intro hb;try simp only [hb])|fail)<;>try simp only [go_sem,seval])
  exact A4 rfl
 have e10:(x == 10)=false:=by simpa using h10
 have e11:(x == 11)=false:=by simpa using h11
 rw [A6u,if_neg h10,if_neg h11];repeat' ((with_reducible first|refine E7 (p:=IW _ _ (pz Tryz.prog 113 (.i (.o (.i (.o .h))))) _ _) ?_|refine wr ?_|refine k_cu ?_ ?_|refine wb2 ?_ ?_<;>(intro hb;try simp only [hb])|fail)<;>try simp only [go_sem,seval,e10,e11])
 unfold A0g;refine B0s c_ops (σ := Unit) (fun _=>[(0,I64 x)]) (fun _=>nil) (fun D _ _ => ∀ i∈D, ∀ v,A8b[i]? = some v->v≠x) () (by decide) (fun _=>rfl) ⟨rfl,trivial⟩ (Sub.refl _) (fun i hi=>by cases hi) ?_ ?_
 ·intro D _ c hJ hall;repeat' ((with_reducible first|refine wr ?_|refine k_cu ?_ ?_|refine wb2 ?_ ?_<;>(intro hb;try simp only [hb])|fail)<;>try simp only [go_sem,seval])
  rw [B0o fun i v hi hv=>hJ i (hall i (by simpa using hi)) v hv];exact A4 rfl
 ·rintro it D _ c i kk vv hJ hDn hDb hiD hk hv;rw [List.getElem?_map,Option.map_eq_some_iff] at hk hv;obtain ⟨w,hw,rfl⟩:=hk;obtain ⟨u,hu,rfl⟩:=hv;by_cases hx:u=x
  ·subst hx;repeat' ((with_reducible first|refine wr ?_|refine k_cu ?_ ?_|refine wb2 ?_ ?_<;>(intro hb;try simp only [hb])|fail)<;>try simp only [go_sem,seval])
   rw [A5t (by decide) hw hu];exact A4 rfl
  ·have hx':(u == x)=false:=by simpa using hx
   repeat' ((with_reducible first|refine wr ?_|refine k_cu ?_ ?_|refine wb2 ?_ ?_<;>(intro hb;try simp only [hb])|fail)<;>try simp only [go_sem,seval,hx'])
   refine ⟨(),Sub.refl _,inv (I:=fun _ _=>_) (b:=()) (c:=c) fun j hj v hv'=>?_⟩;rcases List.mem_cons.1 hj with rfl|hj
   ·rw [hu] at hv';cases hv';exact hx
   ·exact hJ j hj v hv'
theorem slcMv {ρ ρ':Ren} {id id' o n:Nat} {v:Value} (h1 : ρ.nm id = ρ'.nm id') (h:VRel ρ (.slc id o n) v):VRel ρ' (.slc id' o n) v:=by
 cases h with|slc _ _ _ c t h hc hm hr hp=>exact .slc id' o n c t (h1▸h) hc hm hr hp
def OwL (f:Nat) (args:List DV) (l:List (List UInt8)):Prop:=∀ (H:Hp) (c:Nat),AC Tryz.prog f args H c (fun v H' c'=>v=.slc c 0 l.length/\H'=H.upd c ⟨1,true,l.map DV.str⟩/\c'=c+1)
theorem OwL.of {f:Nat} {args:List DV} {l:List (List UInt8)} (na:DV.nlL args=true) (h:AC Tryz.prog f args nil 0 (fun v H' _ => ∃ id,v=.slc id 0 l.length/\H'=nil.upd id ⟨1,true,l.map DV.str⟩)):OwL f args l:=fun H c =>
 AC.own (V:=fun id=>.slc id 0 l.length) h na (fun d hd=>by obtain ⟨x, -,rfl⟩:=List.mem_map.1 hd;rfl) (fun ρ ρ' id id' v h1 _ h3=>slcMv h1 h3) H c
theorem P8 {H H':Hp} {id n:Nat} {b:Blk} (hb:H id=some b) (h:∀ j,j≠id->H' j=none\/H' j=H j) (hi:H' id=some b):GL H [.slc id 0 n] H' [.slc id 0 n] :=
 GL.less fun j=>by
  by_cases e:j=id
  ·subst e;right;rw [hi,hb]
  ·exact h j e
theorem c_pr1 (k v:Int) (n:List UInt8) (a:List Ex) (p:Int) (x:Ex) (i:Nat) (hx:a[i]? = some x) (hi:i<=1) (l:List (List UInt8)) (hP:OwL 65 [x.v] l) (hl:l.length<=100000000) (h1:1<=l.length)
  (H:Hp) (c t:Nat) (ht:H t=some ⟨0,true,[I64 k,I64 v,.str n,H9 a,I64 p]⟩) (htc:t<c) :
  AC Tryz.prog 110 [I64 i,.ptr t 0] H c (fun r H' c' => ∃ id,c<=id/\id<c'/\r=.slc id 0 (wrL k x.kind i l).length/\H'=H.upd id ⟨1,true,(wrL k x.kind i l).map DV.str⟩):=by
 have hw:PC Tryz.prog 111 [.agg [I64 k,I64 v,.str n,H9 a,I64 p],I64 i] (.bool (N3 k x.kind i)):=by
  have:=c_wrapped (.mk k v n a p) x i hx hi;rw [Ex.v_w] at this;exact this
 have hxm:(a.map Ex.v)[i]? = some x.v:=by rw [List.getElem?_map,hx];rfl
 rw [Ex.v_w] at hP hxm;refine AC.bodyT A6 rfl (Nat.le_of_ble_eq_true rfl) fun hfr=>?_;repeat' ((with_reducible first|refine wr ?_|refine k_cu ?_ ?_|refine wb2 ?_ ?_<;>(intro hb;try simp only [hb])|fail)<;>try simp only [go_sem,seval,ht,hxm,Ex.v_w])
 refine AC.call (hP H c) ?_;rintro _ _ _ ⟨rfl,rfl,rfl⟩ -;have ht':(H.upd c ⟨1,true,l.map DV.str⟩) t=some ⟨0,true,[I64 k,I64 v,.str n,H9 a,I64 p]⟩:=by rw [A2 (by omega)];exact ht
 have ne0:=R7 c (c+1) (c+2) (c+3) (c+4) (by omega);obtain ⟨R,hR⟩:∃ R,R=wrL k x.kind i l:=⟨_,rfl⟩;rw [<- hR];unfold wrL at hR;cases hb:N3 k x.kind i with
 | false =>
  rw [hb] at hw hR;rw [if_neg Bool.false_ne_true] at hR;simp only [go_sem,seval,ht',ne0];repeat' ((with_reducible first|refine wr ?_|refine cpc hw ?_|refine k_cu ?_ ?_|refine wb2 ?_ ?_<;>(intro hb;try simp only [hb])|fail)<;>try simp only [go_sem,seval,ht',ne0])
  subst hR;exact ⟨_,_,GL.refl _ _,c,Nat.le_refl _,Nat.lt_succ_self _,rfl,rfl⟩
 | true =>
  rw [hb] at hw hR;rw [if_pos rfl] at hR;simp only [go_sem,seval,ht',ne0];have tk:List.take l.length (l.map DV.str)=l.map DV.str:=List.take_of_length_le (by simp);repeat' ((with_reducible first|refine wr ?_|refine cpc hw ?_|refine k_cu ?_ ?_|refine wb2 ?_ ?_<;>(intro hb;try simp only [hb])|fail)<;>try simp only [go_sem,seval,ht',ne0,tk])
  refine D4 (E4 (by simp) (by omega) (by omega)) ?_;simp only [go_sem,seval,ne0,A0];repeat' ((with_reducible first|refine wr ?_|refine k_cu ?_ ?_|refine wb2 ?_ ?_<;>(intro hb;try simp only [hb])|fail)<;>try simp only [go_sem,seval,ne0,tk,A0])
  refine D4 (E4 (by simp;omega) (by omega) (by omega)) ?_;simp only [go_sem,seval,ne0,A0];repeat' ((with_reducible first|refine wr ?_|refine k_cu ?_ ?_|refine wb2 ?_ ?_<;>(intro hb;try simp only [hb])|fail)<;>try simp only [go_sem,seval,ne0,tk,A0])
  have hlen:R.length=1+l.length+1:=by rw [hR];simp;omega
  rw [<- hlen];refine ⟨_,H.upd (c+1+1+1+1) ⟨1,true,R.map DV.str⟩,P8 (A0) (fun j hj=>?_) (by rw [A0,hR];simp),c+1+1+1+1,by omega,by omega,rfl,rfl⟩;rw [A2 hj];by_cases hjc:c<=j
  ·exact .inl (hfr j hjc)
  ·right;simp only [Hp.upd,Hp.del];rw [if_neg hj,if_neg (by omega),if_neg (by omega),if_neg (by omega),if_neg (by omega),if_neg (by omega),if_neg (by omega)]
theorem xt_len (e:Ex):1<=(txT (exT e)).length/\(txT (exT e)).length<=5 * e.sz:=by
 have:=V4 e;unfold txT;rw [List.length_map];omega
theorem wr_len (k q:Int) (i:Nat) {l:List (List UInt8)} (h:l.length<=100000000):(wrL k q i l).length<=100000002:=by
 unfold wrL;split
 ·simp;omega
 ·omega
theorem c_printed:∀ (m:Nat) (e:Ex),e.sz<m->e.sz<=10000000->(∃ o d,msM e=some (o,d))->OwL 65 [e.v] (txT (exT e)):=by
 intro m
 induction m with
 | zero=>intro e h;omega
 | succ m ih =>
 rintro ⟨k,v,n,a,p⟩ hm hB ⟨o,d,hms⟩;obtain ⟨i1,i2,i3,i4, -,i6⟩:=B0k hms;have hargs:∀ (i:Nat) (x:Ex),a[i]? = some x->OwL 65 [x.v] (txT (exT x)):=fun i x hx=>by
  have hmem:=List.mem_of_getElem? hx;have hsz:=Ex.sz_arg (e:=.mk k v n a p) hmem;refine ih x (by omega) (by omega) ?_;have hlt:=(List.getElem?_eq_some_iff.1 hx).1;obtain ⟨d',h1, -⟩:=i6 (by omega);exact A6x h1 x hmem
 have hlv:=c_levS k;have hsg:=c_signOf k;have hlen:∀ (i:Nat) (x:Ex),a[i]? = some x->1<=(txT (exT x)).length/\(txT (exT x)).length<=100000000:=fun i x hx=>by
  have h1:=xt_len x;have h2:=Ex.sz_arg (e:=.mk k v n a p) (List.mem_of_getElem? hx);omega
 refine OwL.of (by simp [DV.nlL,DV.nl,Ex.nl]) ?_;refine AC.bodyT A6 rfl (Nat.le_of_ble_eq_true rfl) fun hfr=>?_;rw [Ex.v_w];dsimp only [Ex.w,Ex.kind,Ex.value,Ex.name,Ex.args,Ex.pos];obtain ⟨R,hR⟩:∃ R,R=txT (exT (.mk k v n a p)):=⟨_,rfl⟩;rw [<- hR];by_cases l6:A8 k=6
 ·have hk:k=10\/k=11:=by
   unfold A8 at l6;repeat' split at l6
   all_goals omega
  have hc:G1 k=1:=by unfold G1;rw [if_pos l6]
  have m6:(A8 k == 6)=true:=by simpa using l6
  obtain ⟨x,rfl⟩:∃ x,a=[x]:=List.length_eq_one_iff.1 (i2.trans hc);rw [tx_un hk] at hR;repeat' ((with_reducible first|refine wr ?_|refine cpc hlv ?_|refine cpc hsg ?_|refine k_cu ?_ ?_|refine wb2 ?_ ?_<;>(intro hb;try simp only [hb])|fail)<;>try simp only [go_sem,seval,m6])
  refine AC.call (c_pr1 k v n [x] p x 0 rfl (by decide) _ (hargs 0 x rfl) (hlen 0 x rfl).2 (hlen 0 x rfl).1 _ _ 0 (by simp only [go_sem,seval]) (by decide)) ?_;rintro _ _ c2 ⟨id,hid,hid2,rfl,rfl⟩ -;have hW:=wr_len k x.kind 0 (hlen 0 x rfl).2;generalize wrL k x.kind 0 (txT (exT x))=W at hR hW ⊢;have tk:List.take W.length (W.map DV.str)=W.map DV.str:=List.take_of_length_le (by simp);have ne0:=A1y 0 1 id c2 (by omega);simp only [go_sem,seval,ne0,A0,tk];repeat' ((with_reducible first|refine wr ?_|refine k_cu ?_ ?_|refine wb2 ?_ ?_<;>(intro hb;try simp only [hb])|fail)<;>try simp only [go_sem,seval,ne0,A0,tk])
  refine D4 (E4 (by simp) (by omega) (by omega)) ?_;simp only [go_sem,seval,ne0,A0];repeat' ((with_reducible first|refine wr ?_|refine k_cu ?_ ?_|refine wb2 ?_ ?_<;>(intro hb;try simp only [hb])|fail)<;>try simp only [go_sem,seval,ne0,A0])
  have hl:R.length=1+W.length:=by rw [hR];simp;omega
  rw [<- hl];exact ⟨_,nil.upd c2 ⟨1,true,R.map DV.str⟩,P8 A0 (fun j hj=>.inl (by rw [A2 hj];rfl)) (by rw [A0,hR];simp),c2,rfl,rfl⟩
 have m6:(A8 k == 6)=false:=by simpa using l6
 by_cases l5:A8 k<6
 ·have m5:decide (A8 k<6)=true:=by simpa using l5
  have hc:G1 k=2:=by unfold G1;rw [if_neg l6,if_pos l5]
  obtain ⟨x,y,rfl⟩:∃ x y,a=[x,y]:=by
   have:=i2.trans hc
   match a with
   | [x,y]=>exact ⟨x,y,rfl⟩
  rw [tx_bin l5] at hR;repeat' ((with_reducible first|refine wr ?_|refine cpc hlv ?_|refine cpc hsg ?_|refine k_cu ?_ ?_|refine wb2 ?_ ?_<;>(intro hb;try simp only [hb])|fail)<;>try simp only [go_sem,seval,m6,m5])
  refine AC.call (c_pr1 k v n [x,y] p x 0 rfl (by decide) _ (hargs 0 x rfl) (hlen 0 x rfl).2 (hlen 0 x rfl).1 _ _ 0 (by simp only [go_sem,seval]) (by decide)) ?_;rintro _ _ c2 ⟨id,hid,hid2,rfl,rfl⟩ -;have hW:=wr_len k x.kind 0 (hlen 0 x rfl).2;generalize wrL k x.kind 0 (txT (exT x))=W at hR hW ⊢;have hW2:=wr_len k y.kind 1 (hlen 1 y rfl).2;have tk:List.take W.length (W.map DV.str)=W.map DV.str:=List.take_of_length_le (by simp);have ne0:=O0 0 id c2 (by omega);simp only [go_sem,seval,ne0,A0,tk];refine ⟨by and_intros<;>(repeat rw [A2 (by omega)])<;>rfl,?_⟩;refine cpc hsg ?_;simp only [go_sem,seval,ne0,A0,tk,m6,m5];refine ⟨by rw [A2 (by omega)];rfl,?_⟩;rw [A2 (show ¬ id=6 by omega),A0];refine N8 (E4 (by simp) (by omega) (by omega)) ?_;simp only [go_sem,seval,ne0,A0,tk,m6,m5];obtain ⟨M,hM⟩:∃ M,M=((((nil.upd 0 ⟨0,true,[I64 k,I64 v,.str n,H9 [x,y],I64 p]⟩).upd id ⟨1,true,W.map DV.str⟩).upd 6 ⟨1,true,[DV.str (A6u k)]⟩).del id).upd c2 ⟨1,true,W.map DV.str++[DV.str (A6u k)]⟩:=⟨_,rfl⟩;rw [<- hM];have hM8:M 8=none:=by rw [hM];simp only [Hp.upd,Hp.del];(repeat rw [if_neg (by omega)]);rfl
  have hM0:M 0=some ⟨0,true,[I64 k,I64 v,.str n,H9 [x,y],I64 p]⟩:=by rw [hM];simp only [Hp.upd,Hp.del];(repeat rw [if_neg (by omega)]);rfl
  have hMc:M c2=some ⟨1,true,W.map DV.str++[DV.str (A6u k)]⟩:=by rw [hM];exact A0
  clear hM;refine ⟨hM8,?_⟩;refine AC.call (c_pr1 k v n [x,y] p y 1 rfl (by decide) _ (hargs 1 y rfl) (hlen 1 y rfl).2 (hlen 1 y rfl).1 _ _ 0 hM0 (by omega)) ?_;rintro _ _ c3 ⟨id2,hid3,hid4,rfl,rfl⟩ -;generalize wrL k y.kind 1 (txT (exT y))=W2 at hR hW2 ⊢;have tk2:List.take W2.length (W2.map DV.str)=W2.map DV.str:=List.take_of_length_le (by simp);have hMc2:(M.upd id2 ⟨1,true,W2.map DV.str⟩) c2=some ⟨1,true,W.map DV.str++[DV.str (A6u k)]⟩:=by rw [A2 (by omega)];exact hMc
  have ne0:=O0 0 id2 c3 (by omega);simp only [go_sem,seval,ne0,A0,tk2,hMc2];refine N8 (E4 (by simp) (by omega) (by omega)) ?_;simp only [go_sem,seval,ne0,A0];repeat' ((with_reducible first|refine wr ?_|refine k_cu ?_ ?_|refine wb2 ?_ ?_<;>(intro hb;try simp only [hb])|fail)<;>try simp only [go_sem,seval,ne0,A0])
  have hl:R.length=W.length+1+W2.length:=by rw [hR];simp;omega
  rw [<- hl];exact ⟨_,nil.upd c3 ⟨1,true,R.map DV.str⟩,P8 A0 (fun j hj=>.inl (by rw [A2 hj];rfl)) (by rw [A0,hR];simp),c3,rfl,rfl⟩
 have m5:decide (A8 k<6)=false:=by simpa using l5
 have l7:A8 k=7:=by have:=O5 k;omega
 have hc:G1 k=0:=by unfold G1;rw [if_neg l6,if_neg l5]
 obtain rfl:a=[]:=List.eq_nil_of_length_eq_zero (i2.trans hc);rw [tx_leaf l7 i1 i3 i4] at hR;by_cases h1:k=1
 ·subst h1;rw [if_pos rfl] at hR;repeat' ((with_reducible first|refine wr ?_|refine cpc hlv ?_|refine cpc hsg ?_|refine k_cu ?_ ?_|refine wb2 ?_ ?_<;>(intro hb;try simp only [hb])|fail)<;>try simp only [go_sem,seval,m6,m5])
  refine AC.call (A3c (xs:=[Tok.v ⟨3,[],v,0⟩]) (u:=4) (id:=1) (c_Text [⟨3,[],v,0⟩] (by simp) ?_) A0 rfl rfl (K1 [⟨3,[],v,0⟩])) ?_
  ·intro t ht;obtain rfl:=List.mem_singleton.1 ht;have hv:0<=v/\v<=2147483647:=by
    unfold U8 at i4;simp at i4;omega
   exact ⟨by simp,by dsimp only;omega,by dsimp only;omega⟩
  rintro _ _ _ ⟨rfl,rfl,rfl⟩ -;rw [show O4 [⟨3,[],v,0⟩]=G5 v by rw [<- X3];simp [Lib.join,I5]];simp only [go_sem,seval];repeat' ((with_reducible first|refine wr ?_|refine k_cu ?_ ?_|refine wb2 ?_ ?_<;>(intro hb;try simp only [hb])|fail)<;>try simp only [go_sem,seval])
  exact ⟨_,nil.upd 2 ⟨1,true,R.map DV.str⟩,by rw [hR];exact P8 A0 (fun j hj=>.inl (by rw [A2 hj];rfl)) A0,2,by rw [hR];rfl,rfl⟩
 by_cases h2:k=2
 ·subst h2;rw [if_neg h1,if_pos rfl] at hR;repeat' ((with_reducible first|refine wr ?_|refine cpc hlv ?_|refine cpc hsg ?_|refine k_cu ?_ ?_|refine wb2 ?_ ?_<;>(intro hb;try simp only [hb])|fail)<;>try simp only [go_sem,seval,m6,m5])
  exact ⟨_,nil.upd 1 ⟨1,true,R.map DV.str⟩,by rw [hR];exact P8 A0 (fun j hj=>.inl (by rw [A2 hj];rfl)) A0,1,by rw [hR];rfl,rfl⟩
 rw [if_neg h1,if_neg h2] at hR;have d1:(k == 1)=false:=by simpa using h1
 have d2:(k == 2)=false:=by simpa using h2
 repeat' ((with_reducible first|refine E7 (p:=IW _ _ (pz Tryz.prog 65 (.i (.o (.i (.o (.o .h)))))) _ _) ?_|refine wr ?_|refine cpc hlv ?_|refine cpc hsg ?_|refine k_cu ?_ ?_|refine wb2 ?_ ?_<;>(intro hb;try simp only [hb])|fail)<;>try simp only [go_sem,seval,m6,m5,d1,d2])
 unfold A0g;have hr:3<=k/\k<=9:=by
  unfold kOk at i1;simp only [l7,Int.lt_irrefl,decide_false,Bool.false_or,Bool.and_eq_true,decide_eq_true_eq] at i1;have hk9:k<=9:=Classical.byContradiction fun hc=>by
   have:A8 k<7:=by unfold A8;repeat' split;all_goals omega
   omega
  omega
 obtain ⟨j0,hj0,hj7⟩:∃ j0:Nat,F8[j0]? = some k/\j0<7:=by
  have hk9:k=3\/k=4\/k=5\/k=6\/k=7\/k=8\/k=9:=by omega
  rcases hk9 with rfl|rfl|rfl|rfl|rfl|rfl|rfl
  ·exact ⟨0,rfl,by decide⟩
  ·exact ⟨1,rfl,by decide⟩
  ·exact ⟨4,rfl,by decide⟩
  ·exact ⟨5,rfl,by decide⟩
  ·exact ⟨6,rfl,by decide⟩
  ·exact ⟨2,rfl,by decide⟩
  ·exact ⟨3,rfl,by decide⟩
 obtain ⟨w,hw⟩:∃ w,w=O1 D8 F8 k:=⟨_,rfl⟩;refine B0s c_lvs (σ := Option Nat) (fun o=>[(1,.ptr 0 0),(5,C2 o 1)]) (fun o=>D1 (nil.upd 0 ⟨0,true,[I64 k,I64 v,.str n,H9 [],I64 p]⟩) o ⟨1,true,[.str w]⟩)
  (fun D o c=>1<=c/\(∀ i,o=some i->0<i/\i<c/\∃ j∈D,F8[j]? = some k)/\(o=none->∀ j∈D,F8[j]? ≠ some k)) none (by decide) (fun _=>rfl) ⟨rfl,rfl,trivial⟩ (Sub.refl _) ⟨by decide,(by intro i h;cases h),fun _ j hj=>by cases hj⟩ ?_ ?_
 ·rintro D o c ⟨hc1,ho,hno⟩ hall;rcases o with _|id
  ·exact absurd hj0 (hno rfl j0 (hall j0 hj7))
  obtain ⟨g1,g2, -⟩:=ho id rfl;have hnm:=c_namedS k;rw [<- hw] at hR;have ne0:=A1y 0 id c (c+1) (by omega);cases hb:W6 k with
  | true =>
   rw [hb] at hnm hR;rw [if_pos rfl] at hR;repeat' ((with_reducible first|refine wr ?_|refine cpc hnm ?_|refine k_cu ?_ ?_|refine wb2 ?_ ?_<;>(intro hb;try simp only [hb])|fail)<;>try simp only [go_sem,seval,ne0,A0])
   refine D4 (E4 rfl (by decide) (by decide)) ?_;simp only [go_sem,seval,ne0,A0];repeat' ((with_reducible first|refine wr ?_|refine k_cu ?_ ?_|refine wb2 ?_ ?_<;>(intro hb;try simp only [hb])|fail)<;>try simp only [go_sem,seval,ne0,A0])
   exact ⟨_,nil.upd (c+1) ⟨1,true,R.map DV.str⟩,by rw [hR];exact P8 A0 (fun j hj=>.inl (by rw [A2 hj];rfl)) A0,c+1,by rw [hR];rfl,rfl⟩
  | false =>
   rw [hb] at hnm hR;rw [if_neg Bool.false_ne_true] at hR;repeat' ((with_reducible first|refine wr ?_|refine cpc hnm ?_|refine k_cu ?_ ?_|refine wb2 ?_ ?_<;>(intro hb;try simp only [hb])|fail)<;>try simp only [go_sem,seval,ne0,A0])
   exact ⟨_,nil.upd id ⟨1,true,R.map DV.str⟩,by rw [hR];exact P8 A0 (fun j hj=>.inl (by rw [A2 hj];rfl)) A0,id,by rw [hR];rfl,rfl⟩
 ·rintro it D o c i kk vv ⟨hc1,ho,hno⟩ hDn hDb hiD hk hv;rw [List.getElem?_map,Option.map_eq_some_iff] at hk hv;obtain ⟨w',hw',rfl⟩:=hk;obtain ⟨u,hu,rfl⟩:=hv;by_cases hx:u=k
  ·subst hx;obtain rfl:w'=w:=by rw [hw];exact (A5t (by decide) hw' hu).symm
   obtain rfl:o=none:=by
    cases o with
    | none=>rfl
    | some id =>
     obtain ⟨-, -,j,hj,hj2⟩:=ho id rfl;have:i=j:=(List.getElem?_inj (List.getElem?_eq_some_iff.1 hu).1 (by decide:F8.Nodup)).1 (hu.trans hj2.symm);exact absurd (this▸hj) hiD
   have ne0:=O0 0 c (c+1) (by omega);repeat' ((with_reducible first|refine wr ?_|refine k_cu ?_ ?_|refine wb2 ?_ ?_<;>(intro hb;try simp only [hb])|fail)<;>try simp only [go_sem,seval,ne0,A0])
   refine D4 (A5o (by decide) (by decide) (by decide)) ?_;simp only [go_sem,seval,ne0,A0];repeat' ((with_reducible first|refine wr ?_|refine k_cu ?_ ?_|refine wb2 ?_ ?_<;>(intro hb;try simp only [hb])|fail)<;>try simp only [go_sem,seval,ne0,A0])
   refine ⟨some (c+1),rfl,fun j b hj=>?_,?_⟩
   ·rw [V2] at hj;by_cases e:j=c+1
    ·subst e;rw [A0] at hj ⊢;exact hj
    ·rw [A2 e] at hj ⊢;by_cases e2:j=0
     ·subst e2;rw [A0] at hj;rw [A2 (by omega),A0];exact hj
     ·rw [A2 e2] at hj;cases hj
   ·unfold A5b;exact ⟨by omega,fun i' hi'=>by cases hi';exact ⟨by omega,by omega,i,List.mem_cons_self,hu⟩,fun h=>by cases h⟩
  ·have hx':(u == k)=false:=by simpa using hx
   have h0b:D1 (nil.upd 0 ⟨0,true,[I64 k,I64 v,.str n,H9 [],I64 p]⟩) o ⟨1,true,[.str w]⟩ 0=some ⟨0,true,[I64 k,I64 v,.str n,H9 [],I64 p]⟩:=by
    cases o with
    | none=>exact A0
    | some id=>rw [V2,A2 (by have:=ho id rfl;omega)];exact A0
   repeat' ((with_reducible first|refine wr ?_|refine k_cu ?_ ?_|refine wb2 ?_ ?_<;>(intro hb;try simp only [hb])|fail)<;>try simp only [go_sem,seval,hx',h0b])
   refine ⟨o,rfl,Sub.refl _,?_⟩;unfold A5b;refine ⟨hc1,fun i' hi'=>?_,fun h j hj=>?_⟩
   ·obtain ⟨g1,g2,j,g3,g4⟩:=ho i' hi';exact ⟨g1,g2,j,List.mem_cons_of_mem _ g3,g4⟩
   ·rcases List.mem_cons.1 hj with rfl|hj
    ·rw [hu];intro e;cases e;exact hx rfl
    ·exact hno h j hj
theorem A1a (l:List (List UInt8)):A7 (l.map DV.str)=l.map DV.str:=by
 induction l with
 | nil=>rfl
 | cons a l ih=>rw [List.map_cons,A7,List.flatMap_cons];exact congrArg (DV.str a :: ·) ih
theorem join_own {l:List (List UInt8)} {sp:List UInt8} {id cc:Nat} {H:Hp} (hb:H id=some ⟨1,true,l.map DV.str⟩) (h1:l.length<=140737488355328) (h2:(Lib.join l sp).length<=140737488355328) :
  AC Tryz.prog 64 [.slc id 0 l.length,.str sp] H cc (fun v H' c'=>v=.str (Lib.join l sp)/\H'=Q1 H (some id)/\c'=cc) :=
 AC.ghost (GL.frzS (id:=id) hb rfl (fun j=>by
  by_cases e:j=id
  ·subst e;exact .inl (by rw [P9,if_pos rfl])
  ·exact .inr ⟨e,by rw [P9,if_neg e]⟩) (.cons _ _ _ _ (J8 (xs:=l.map DV.str) (u:=1) (by simp) (K3 l) ⟨[],by rw [A1a];simp⟩) (.cons _ _ _ _ (.same _) .nil))) ((c_Join l sp h1 h2).at _ cc)
def Y4 (e:Ex):List UInt8:=if Q7 e=true then O4 (exT e) else []
theorem vl_ms {e:Ex} (h:Q7 e=true):∃ o d,msM e=some (o,d):=by
 unfold Q7 at h;split at h
 ·rename_i o d hm;exact ⟨o,d,hm⟩
 ·cases h
theorem c_PFormatE (e:Ex) (hB:e.sz<=100000):PC Tryz.prog 29 [e.v] (.str (Y4 e)):=by
 have hx:=fit_exT e;have hv:=c_ValidExpr e (by omega);refine PC.ofT A6 rfl (Nat.le_of_ble_eq_true rfl) (by simp [DV.nlL,DV.nl,Ex.nl]) rfl ?_;unfold Y4;cases hb:Q7 e with
 | false =>
  rw [hb] at hv;rw [if_neg Bool.false_ne_true];rw [Ex.v_w] at hv ⊢;repeat' ((with_reducible first|refine wr ?_|refine cpc hv ?_|refine k_cu ?_ ?_|refine wb2 ?_ ?_<;>(intro hb;try simp only [hb])|fail)<;>try simp only [go_sem,seval])
  exact A4 rfl
 | true =>
  have hP:=c_printed _ e (Nat.lt_succ_self _) (by omega) (vl_ms hb);rw [hb] at hv;rw [if_pos rfl];rw [Ex.v_w] at hv hP ⊢;repeat' ((with_reducible first|refine wr ?_|refine cpc hv ?_|refine k_cu ?_ ?_|refine wb2 ?_ ?_<;>(intro hb;try simp only [hb])|fail)<;>try simp only [go_sem,seval])
  refine AC.call (hP _ _) ?_;rintro _ _ _ ⟨rfl,rfl,rfl⟩ -;simp only [go_sem,seval];have htl:=A3v hx;have hl:=(xt_len e).2;have hle:(exT e).length=(txT (exT e)).length:=by simp [txT]
  have htj:Lib.join (txT (exT e)) [32]=O4 (exT e):=X3 (exT e);refine AC.call (join_own A0 (by omega) (by rw [htj];omega)) ?_;rintro _ _ _ ⟨rfl,rfl,rfl⟩ -;rw [htj];simp only [go_sem,seval];repeat' ((with_reducible first|refine wr ?_|refine k_cu ?_ ?_|refine wb2 ?_ ?_<;>(intro hb;try simp only [hb])|fail)<;>try simp only [go_sem,seval])
  exact ⟨_,GL.refl _ _⟩
end Go.Proofs.YthlpinppaclofaaGreatDoor
namespace Go.Pb
variable [Go.Sym.Tab]
open Go.Sym
def I7 (P:St->List (List UInt8)) (l:List St):List (List UInt8):=[123] :: (l.flatMap P++[[125]])
abbrev elseW:List UInt8:=[101,108,115,101]
def A7l (P:St->List (List UInt8)):List St->List (List UInt8)
 | []=>[]
 | [s]=>elseW :: (if s.kind=2 then P s else I7 P [s])
 | s :: s2 :: r=>elseW :: I7 P (s :: s2 :: r)
def A4k (P:St->List (List UInt8)) (k:Int) (x y:List St):List (List UInt8):=if (M9 k).thn=true then I7 P x++A7l P y else [[59]]
def agI:Nat->List Ex->List (List UInt8)
 | _,[]=>[]
 | i,e :: l=>(if 0<i then [[44]] else [])++(txT (exT e)++agI (i+1) l)
def txL (k:Int) (t:List UInt8):List (List UInt8):=if (M9 k).text=true then [R5 t,[44]] else []
def hdL (k:Int) (n:List UInt8):List (List UInt8):=if k=1 then [n,[61]] else O1 C1 U9 k :: (if (M9 k).name=true then [n] else [])
def psL (P:St->List (List UInt8)):St->List (List UInt8)
 | .mk k n t a x y p=>hdL k n++(txL k t++(agI 0 a++A4k P k x y))
theorem tx_1 (x:List UInt8):txT [B1 x]=[x]:=by simp [txT,I3]
theorem I0 (x:List UInt8) (l:List Tok):txT (B1 x :: l)=x :: txT l:=by simp [txT,I3]
theorem L9:txT []=[]:=rfl
theorem X6:∀ l:List St,A1w l=l.flatMap stT
 | []=>rfl
 | s :: l=>by rw [A1w,X6 l,List.flatMap_cons]
theorem A5f (l:List St):txT (A1w l)=l.flatMap fun s=>txT (stT s):=by
 rw [X6,txT,List.map_flatMap];rfl
theorem tx_blk (l:List St):txT (blT l)=I7 (fun s=>txT (stT s)) l:=by
 rw [blT,E3,E3,A5f,tx_1,tx_1];rfl
theorem O7 {n:List UInt8} (h:C4 n=true):txT (D5 n)=[n]:=by simp [D5,h,txT,I5]
theorem tx_text {t:List UInt8} (h:S0 t=true):txT (A6h t)=[R5 t]:=by
 unfold S0 at h;simp only [Bool.and_eq_true,decide_eq_true_eq] at h;have h2:¬ (t.all txB=false\/32<t.length):=by
  rintro (h3|h3)
  ·rw [h3] at h;exact absurd h.1 (by decide)
  ·omega
 unfold A6h;rw [if_neg h2];rfl
theorem stm_key {k:Int} (h1:2<=k) (h2:k<=19):O1 C1 U9 k=C1.getD (k-2).toNat []:=by
 obtain ⟨j,rfl⟩:∃ j:Nat,k=2+(j:Int):=⟨(k-2).toNat,by omega⟩;have hj:j<18:=by omega
 have:∀ j:Nat,j<18->O1 C1 U9 (2+(j:Int))=C1.getD (2+(j:Int)-2).toNat []:=by decide
 exact this j hj
theorem agI1 (e:Ex):agI 0 [e]=txT (exT e):=by simp [agI]
theorem agI2 (e f:Ex):agI 0 [e,f]=txT (exT e)++[44] :: txT (exT f):=by simp [agI]
theorem ps_eq {s:St} {d:Nat} (h:A3s d s=true):psL (fun s=>txT (stT s)) s=txT (stT s):=by
 obtain ⟨k,n,t,a,x,y,p⟩:=s;unfold A3s at h;simp only [Bool.and_eq_true,decide_eq_true_eq,beq_iff_eq] at h;obtain ⟨⟨⟨⟨⟨k1,k2⟩,⟨ha, -⟩⟩,⟨hn,ht⟩⟩,⟨hx,hy⟩⟩, -⟩:=h;rw [psL];obtain ⟨P,hP⟩:∃ P:St->List (List UInt8),P=fun s=>txT (stT s):=⟨_,rfl⟩;rw [<- hP];have hb:I7 P x=[123] :: (txT (A1w x)++[[125]]):=by rw [A5f,hP];rfl
 by_cases c1:k=1
 ·subst c1;obtain ⟨e,rfl⟩:∃ e,a=[e]:=List.length_eq_one_iff.1 ha;have hn':C4 n=true:=hn;show [n,[61]]++([]++(agI 0 [e]++[[59]]))=_;rw [stT,if_pos rfl,E3,E3,E3,O7 hn',tx_1,tx_1,agI1];simp [agT]
 have hkey:=stm_key (k:=k) (by omega) k2;rw [stT,if_neg c1,if_neg (by omega)];dsimp only;rw [<- hkey];unfold hdL;rw [if_neg c1];by_cases c2:k=2
 ·subst c2;obtain ⟨e,rfl⟩:∃ e,a=[e]:=List.length_eq_one_iff.1 ha;show [O1 C1 U9 2]++([]++(agI 0 [e]++(I7 P x++A7l P y)))=_;rw [if_pos (.inl rfl),agI1,hb]
  match y with
  | []=>simp [E3,I0,L9,A7l,agT]
  | [s] =>
   have hbs:I7 P [s]=[123] :: (txT (stT s)++[[125]]):=by simp [I7,hP]
   rw [A7l,hbs];dsimp only;by_cases h2:s.kind=2
   ·rw [if_pos h2,if_pos h2];simp [E3,I0,L9,agT,hP]
   ·rw [if_neg h2,if_neg h2];simp [E3,I0,L9,agT]
  | s :: s2 :: r =>
   have hbs:I7 P (s :: s2 :: r)=[123] :: (txT (A1w (s :: s2 :: r))++[[125]]):=by rw [A5f,hP];rfl
   rw [A7l,hbs];simp [E3,I0,L9,agT]
 by_cases c3:k=3
 ·subst c3;obtain ⟨e,rfl⟩:∃ e,a=[e]:=List.length_eq_one_iff.1 ha;obtain rfl:y=[]:=by cases y with|nil=>rfl|cons a l=>exact absurd (show false=true from hy) (by decide)
  show [O1 C1 U9 3]++([]++(agI 0 [e]++(I7 P x++A7l P [])))=_;rw [if_pos (.inr rfl),agI1,hb];simp [E3,I0,L9,A7l,agT]
 rw [if_neg (by omega:¬ (k=2\/k=3))];by_cases c4:k=4
 ·subst c4;obtain ⟨e,rfl⟩:∃ e,a=[e]:=List.length_eq_one_iff.1 ha;show [O1 C1 U9 4]++([]++(agI 0 [e]++[[59]]))=_;rw [if_pos rfl,agI1];simp [E3,I0,L9,agT]
 rw [if_neg c4];by_cases c18:k=18
 ·subst c18;obtain ⟨e,rfl⟩:∃ e,a=[e]:=List.length_eq_one_iff.1 ha;have ht':S0 t=true:=ht;show [O1 C1 U9 18]++([R5 t,[44]]++(agI 0 [e]++[[59]]))=_;rw [if_pos rfl,agI1];simp [E3,I0,L9,agT,tx_text ht']
 rw [if_neg c18];by_cases c8:k=8\/k=10
 ·have hs:M9 k=⟨true,false,1,false,false⟩:=by rcases c8 with rfl|rfl<;>rfl
  rw [hs] at ha hn;obtain ⟨e,rfl⟩:∃ e,a=[e]:=List.length_eq_one_iff.1 ha;have hn':C4 n=true:=hn;unfold txL A4k;rw [hs,if_pos c8,agI1];simp [E3,I0,L9,agT,O7 hn']
 rw [if_neg c8];by_cases c9:k=9
 ·subst c9;obtain ⟨e,f,rfl⟩:∃ e f,a=[e,f]:=by
   match a,ha with
   | [e,f],_=>exact ⟨e,f,rfl⟩
  have hn':C4 n=true:=hn;show [O1 C1 U9 9,n]++([]++(agI 0 [e,f]++[[59]]))=_;rw [if_pos rfl,agI2];simp [E3,I0,L9,agT,O7 hn']
 rw [if_neg c9];by_cases c19:k=19
 ·subst c19;obtain rfl:a=[]:=List.eq_nil_of_length_eq_zero ha;show [O1 C1 U9 19]++([]++(agI 0 []++[[59]]))=_;rw [if_pos rfl];simp [E3,I0,L9,agI]
 rw [if_neg c19];have hs:M9 k=⟨true,false,0,false,false⟩:=by
  unfold M9;rw [if_neg (by omega),if_neg c9,if_neg c2,if_neg c3,if_neg c4,if_neg c18,if_neg c19]
 rw [hs] at ha hn;obtain rfl:a=[]:=List.eq_nil_of_length_eq_zero ha;have hn':C4 n=true:=hn;unfold txL A4k;rw [hs];simp [E3,I0,L9,agI,O7 hn']
end Go.Pb
namespace Go.Pb
variable [Go.Sym.Tab]
open Go.Sym
def lnT (t:List UInt8):List UInt8:=if t=[59]\/t=[123]\/t=[125] then t++[10] else t++[32]
def R9 (l:List (List UInt8)):List UInt8:=(l.map lnT).flatten
def F3 (Q:Tok->Prop) (l:List Tok):Prop:=∀ t∈l,Q t
structure Clo (Q:Tok->Prop):Prop where
 z:F3 Q [M1]
 w:∀ x:List UInt8,x.length<=12->F3 Q [B1 x]
 n:∀ x,F3 Q (D5 x)
 v:∀ x,F3 Q (Y0 x)
 t:∀ x,F3 Q (A6h x)
section
variable {Q:Tok->Prop} (C:Clo Q)
include C
theorem F3.app {a b:List Tok} (h1:F3 Q a) (h2:F3 Q b):F3 Q (a++b):=fun t ht=>by
 rcases List.mem_append.1 ht with h|h
 ·exact h1 t h
 ·exact h2 t h
theorem q_nil:F3 Q []:=fun t ht=>by cases ht
theorem q_sign (i:Nat):F3 Q [B1 (B6.getD i [])]:=C.w _ (by
 by_cases hi:i<13
 ·have:∀ i:Nat,i<13->(B6.getD i []).length<=12:=by decide
  exact this i hi
 ·rw [List.getD_eq_getElem?_getD,List.getElem?_eq_none (by show 13<=i;omega)];simp)
theorem q_oper {q:Int × List Tok} {m:Int} (h:F3 Q q.2):F3 Q (C6 q m):=by
 unfold C6;split
 ·exact ((C.w _ (by decide)).app C h).app C (C.w _ (by decide))
 ·exact h
theorem q_build {k v:Int} {n:List UInt8} {as1:List (Int × List Tok)} (h:∀ q∈as1,F3 Q q.2):F3 Q (D9 k v n as1):=by
 unfold D9;dsimp only;by_cases k1:k=1
 ·rw [if_pos k1];exact C.v v
 rw [if_neg k1];by_cases k2:k=2
 ·rw [if_pos k2];exact C.n n
 rw [if_neg k2];by_cases k3:k=3
 ·rw [if_pos k3];exact C.w _ (by decide)
 rw [if_neg k3];by_cases k4:k=4
 ·rw [if_pos k4];exact C.w _ (by decide)
 rw [if_neg k4];by_cases k8:k=8
 ·rw [if_pos k8];exact C.w _ (by decide)
 rw [if_neg k8];by_cases k9:k=9
 ·rw [if_pos k9];exact C.w _ (by decide)
 rw [if_neg k9];by_cases k5:k=5
 ·rw [if_pos k5];exact (C.w _ (by decide)).app C (C.n n)
 rw [if_neg k5];by_cases k6:k=6
 ·rw [if_pos k6];exact (C.w _ (by decide)).app C (C.n n)
 rw [if_neg k6];by_cases k7:k=7
 ·rw [if_pos k7];exact (C.w _ (by decide)).app C (C.n n)
 rw [if_neg k7]
 match as1,h with
 | [],h=>exact C.z
 | [q],h =>
  dsimp only;by_cases h6:A8 k=6
  ·rw [if_pos h6];refine F3.app C ?_ (q_oper C (h q List.mem_cons_self));by_cases h10:k=10
   ·rw [if_pos h10];exact C.w _ (by decide)
   ·rw [if_neg h10];exact C.w _ (by decide)
  ·rw [if_neg h6];exact C.z
 | [q,r],h =>
  dsimp only;by_cases h6:A8 k<6
  ·rw [if_pos h6];exact ((q_oper C (h q List.mem_cons_self)).app C (q_sign C _)).app C (q_oper C (h r (List.mem_cons_of_mem _ List.mem_cons_self)))
  ·rw [if_neg h6];exact C.z
 | _ :: _ :: _ :: _,h=>exact C.z
theorem q_exT:∀ (e:Ex),F3 Q (exT e):=by
 have:∀ (m:Nat) (e:Ex),e.sz<m->F3 Q (exT e):=by
  intro m
  induction m with
  | zero=>intro e h;omega
  | succ m ih =>
   rintro ⟨k,v,n,a,p⟩ hm;rw [A4d];refine q_build C fun q hq=>?_;obtain ⟨x,hx,rfl⟩:=List.mem_map.1 hq;exact ih x (by have:=Ex.sz_arg (e:=.mk k v n a p) hx;omega)
 exact fun e=>this _ e (Nat.lt_succ_self _)
theorem q_agT (l:List Ex) (i:Nat):F3 Q (agT l i):=by
 unfold agT;split
 ·exact q_exT C _
 ·exact C.z
theorem A3x {α : Type} {f : α -> List Tok} {l:List α} (h:∀ x∈l,F3 Q (f x)):F3 Q (l.flatMap f):=fun t ht=>by
 obtain ⟨x,hx,ht⟩:=List.mem_flatMap.1 ht;exact h x hx t ht
theorem q_stmw (i:Nat):F3 Q [B1 (C1.getD i [])]:=C.w _ (by
 by_cases hi:i<18
 ·have:∀ i:Nat,i<18->(C1.getD i []).length<=12:=by decide
  exact this i hi
 ·rw [List.getD_eq_getElem?_getD,List.getElem?_eq_none (by show 18<=i;omega)];simp)
set_option maxHeartbeats 4000000 in
theorem q_stT:∀ (s:St),F3 Q (stT s):=by
 have:∀ (m:Nat) (s:St),s.sz<m->F3 Q (stT s):=by
  intro m
  induction m with
  | zero=>intro e h;omega
  | succ m ih =>
   rintro ⟨k,n,t,a,x,y,p⟩ hm;rw [St.sz] at hm;have hx:F3 Q (A1w x):=by rw [X6];exact A3x C fun s hs=>ih s (by have:=St.szs_mem hs;omega)
   have hy:∀ s∈y,F3 Q (stT s):=fun s hs=>ih s (by have:=St.szs_mem hs;omega);have hys:F3 Q (A1w y):=by rw [X6];exact A3x C hy
   have hel:F3 Q [B1 [101,108,115,101]]:=C.w _ (by decide);have w0:=q_stmw C (k-2).toNat;have o1:F3 Q [B1 [123]]:=C.w _ (by decide);have o2:F3 Q [B1 [125]]:=C.w _ (by decide);have o3:F3 Q [B1 [59]]:=C.w _ (by decide);have o4:F3 Q [B1 [44]]:=C.w _ (by decide);have o5:F3 Q [B1 [61]]:=C.w _ (by decide);rw [stT];dsimp only;repeat' split
   all_goals repeat' with_reducible first
    | refine F3.app C ?_ ?_
    | assumption
    | exact C.z
    | exact C.n _
    | exact C.t _
    | exact q_agT C _ _
    | exact hy _ List.mem_cons_self
 exact fun e=>this _ e (Nat.lt_succ_self _)
theorem q_blT (l:List St):F3 Q (blT l):=by
 rw [blT,X6];exact ((C.w _ (by decide)).app C (A3x C fun s _=>q_stT C s)).app C (C.w _ (by decide))
theorem q_dcT (d:Dc):F3 Q (dcT d):=by
 have hw:F3 Q [B1 (D7.getD (d.kind-1).toNat [])]:=C.w _ (by
  by_cases hi:(d.kind-1).toNat<8
  ·have:∀ i:Nat,i<8->(D7.getD i []).length<=12:=by decide
   exact this _ hi
  ·rw [List.getD_eq_getElem?_getD,List.getElem?_eq_none (by show 8<=_;omega)];simp)
 have o3:F3 Q [B1 [59]]:=C.w _ (by decide);have o4:F3 Q [B1 [45]]:=C.w _ (by decide);unfold dcT;dsimp only;repeat' split
 all_goals repeat' first
  | assumption
  | exact C.z
  | exact C.n _
  | exact C.v _
  | refine F3.app C ?_ ?_
theorem q_hdT (h:Hd):F3 Q (hdT h):=by
 have hw:F3 Q [B1 (E1.getD (h.trig-1).toNat [])]:=C.w _ (by
  by_cases hi:(h.trig-1).toNat<6
  ·have:∀ i:Nat,i<6->(E1.getD i []).length<=12:=by decide
   exact this _ hi
  ·rw [List.getD_eq_getElem?_getD,List.getElem?_eq_none (by show 6<=_;omega)];simp)
 have o3:F3 Q [B1 [111,110]]:=C.w _ (by decide);unfold hdT;refine (F3.app C (o3.app C hw) ?_).app C (q_blT C _);split
 ·exact C.n _
 ·exact q_nil C
theorem q_ruT (r:Ru):F3 Q (ruT r):=by
 unfold ruT;split
 ·exact C.z
 ·refine (A3x C fun d _=>q_dcT C d).app C (A3x C fun m _=>?_);unfold mdT;exact (((((C.w _ (by decide)).app C (C.n _)).app C (C.v _)).app C (C.w _ (by decide))).app C (A3x C fun h _=>q_hdT C h)).app C (C.w _ (by decide))
end
def fmtR (r:Ru):List UInt8:=if A9o r=true then R9 (txT (ruT r)) else []
end Go.Pb
namespace Go.Proofs.YthlpinppaclofaaGreatDoor
open Go.Eng (IC IOper DReg IFn B5)
open Go.Sym Go.Pb
theorem A7f:∀ l:List (List UInt8),Lib.join l []=l.flatten
 | []=>rfl
 | [a]=>by simp [Lib.join]
 | a :: b :: l=>by
  have:=A7f (b :: l);simp only [Lib.join] at this ⊢;rw [List.flatten_cons, <- this];simp
theorem c_lines (l:List (List UInt8)) (hl:l.length<=1000000000) (hb:∀ t∈l,t.length<=100000):PC Tryz.prog 60 [X5 l] (.str (R9 l)):=by
 refine PC.ofT A6 rfl (Nat.le_of_ble_eq_true rfl) (by simp only [DV.nlL,DV.nl,K5,Bool.and_true]) rfl ?_;repeat' ((with_reducible first|refine wr ?_|refine k_cu ?_ ?_|refine wb2 ?_ ?_<;>(intro hb;try simp only [hb])|fail)<;>try simp only [go_sem,seval])
 refine D6 (fun q:Nat × Option Nat=>[(3,C2 q.2 q.1),(6,X5 l),(7,I64 l.length),(8,I64 q.1)]) (fun q=>D1 Sym.nil q.2 ⟨1,true,((l.take q.1).map lnT).map DV.str⟩)
  (fun q cc=>q.1<=l.length/\(q.2=none->q.1=0)/\∀ i,q.2=some i->i<cc) (fun q=>l.length-q.1) (0,none)
  (by simp [C5,tm,Tm.upd,C2]) (Sub.nil _) ⟨by simp,by simp,by simp⟩ ?_
 rintro ⟨k,o⟩ c ⟨hk,hno,ho⟩;simp only at hk hno ho;simp only;have hkl:((l.take k).map lnT).length=k:=by rw [List.length_map,List.length_take];omega
 by_cases hlt:k<l.length
 ·have hd:decide ((k:Int)<l.length)=true:=by simpa using hlt
  have hg:=List.getElem?_eq_getElem hlt;have hw:IntKind.i64.wrap ((k:Int)+1)=((k+1:Nat):Int):=by rw [w64 (by omega) (by omega)];omega
  have est:((l.take (k+1)).map lnT).map DV.str=((l.take k).map lnT).map DV.str++[DV.str (lnT l[k])]:=by
   rw [List.take_add_one,hg,Option.toList_some,List.map_append,List.map_append];rfl
  have htl:=hb _ (List.getElem_mem hlt);obtain ⟨t,ht⟩:∃ t,t=l[k]:=⟨_,rfl⟩;rw [<- ht] at hg est htl;have hgm:(l.map DV.str)[k]? = some (.str t):=by rw [List.getElem?_map,hg];rfl
  obtain ⟨cs,hcs⟩:∃ cs,cs=((l.take k).map lnT).map DV.str:=⟨_,rfl⟩;have hcl:cs.length=k * 1:=by rw [hcs,List.length_map,hkl,Nat.mul_one]
  rw [<- hcs] at est ⊢;have hno2:o=none->k=0/\cs=[]:=fun e=>⟨hno e,by rw [hcs,hno e];rfl⟩;have ne0:=O0 c (c+1) (c+2) (by omega);have a1:binR .add (.str t) (.str [10])=some (.str (t++[10])):=A9y (by simp [maxLen];omega);have a2:binR .add (.str t) (.str [32])=some (.str (t++[32])):=A9y (by simp [maxLen];omega);repeat' ((with_reducible first|refine wr ?_|refine k_cu ?_ ?_|refine wb2 ?_ ?_<;>(intro hb;try simp only [hb])|fail)<;>try simp only [go_sem,seval,hd,hgm,hw,ne0,a1,a2])
  all_goals
   refine D4 (F7 (cs:=cs) hno2 (fun i hi=>?_) hcl (by omega) (by omega) (by omega)) ?_
   ·have:=ho i hi;rw [A2 (by omega)];exact A0u hi
   simp only [go_sem,seval,ne0,hw];repeat' ((with_reducible first|refine wr ?_|refine k_cu ?_ ?_|refine wb2 ?_ ?_<;>(intro hb;try simp only [hb])|fail)<;>try simp only [go_sem,seval,hd,hw,ne0])
  all_goals exact ⟨(k+1,some (c+1)),⟨rfl,rfl⟩,H8 (by simp only [est];exact congrArg (fun z=>(⟨1,true,cs++[DV.str z]⟩:Blk)) (by unfold lnT;simp_all)),inv ⟨hlt,by simp,fun i hi=>by cases hi;omega⟩,by simp only;omega⟩
 ·have hd:decide ((k:Int)<l.length)=false:=by simpa using hlt
  have hfl:(R9 l).length<=140737488355328:=by
   have:∀ q:List (List UInt8),(∀ t∈q,t.length<=100000)->(R9 q).length<=100001 * q.length:=by
    intro q
    induction q with
    | nil=>intro _;simp [R9]
    | cons a q ih =>
     intro h;have h1:=ih fun t ht=>h t (List.mem_cons_of_mem _ ht);have h2:=h a List.mem_cons_self;have h3:(lnT a).length=a.length+1:=by unfold lnT;split<;>simp
     unfold R9 at h1 ⊢;rw [List.map_cons,List.flatten_cons,List.length_append,List.length_cons,h3];omega
   have:=this l hb;omega
  have hj:=c_Join (l.map lnT) [] (by rw [List.length_map];omega) (by rw [A7f];exact hfl);rw [A7f] at hj;obtain rfl:k=l.length:=by omega
  rw [List.take_length] at hkl ⊢;rcases o with _|id
  ·have hk0:=hno rfl;have h00:l=[]:=List.eq_nil_of_length_eq_zero (by omega);repeat' ((with_reducible first|refine wr ?_|refine k_cu ?_ ?_|refine wb2 ?_ ?_<;>(intro hb;try simp only [hb])|fail)<;>try simp only [go_sem,seval,hd])
   refine AC.call (hj.give (H0:=Sym.nil) ⟨fun _ h=>h,fun ρ w vs h1 h2=>⟨ρ,rfl,h1,?_,Ext.refl _ _ _⟩⟩) ?_
   ·rw [h00];exact ⟨h2.1,fun i x y hx hy=>by
     match i with
     | 0=>cases hx;exact (h2.2 0 _ y rfl hy).snil_lst
     | 1=>cases hx;exact h2.2 1 _ y rfl hy
     | _+2=>cases hx⟩
   ·rintro v H' c' ⟨rfl,rfl,rfl⟩ -;simp only [go_sem,seval];repeat' ((with_reducible first|refine wr ?_|refine k_cu ?_ ?_|refine wb2 ?_ ?_<;>(intro hb;try simp only [hb])|fail)<;>try simp only [go_sem,seval])
    exact A4 rfl
  ·repeat' ((with_reducible first|refine wr ?_|refine k_cu ?_ ?_|refine wb2 ?_ ?_<;>(intro hb;try simp only [hb])|fail)<;>try simp only [go_sem,seval,hd])
   refine AC.call (hj.give (H0:=Sym.nil) (GL.one (id:=id) A0 rfl (.cons _ _ _ _ (J8 (u:=1) (by rw [List.length_map,hkl]) (K3 _) ⟨[],by rw [A1a];simp⟩) (.cons _ _ _ _ (.same _) .nil)))) ?_;rintro v H' c' ⟨rfl,rfl,rfl⟩ -;simp only [go_sem,seval];repeat' ((with_reducible first|refine wr ?_|refine k_cu ?_ ?_|refine wb2 ?_ ?_<;>(intro hb;try simp only [hb])|fail)<;>try simp only [go_sem,seval])
   exact A4 rfl
theorem c_pblk (P:Pb.St->List (List UInt8)) (l:List Pb.St) (hl:l.length<=4000000) (hP:∀ s∈l,OwL 102 [s.v] (P s)) (hb:(l.flatMap P).length<=1000000000):OwL 59 [J4 l] (I7 P l):=by
 refine OwL.of (by simp [DV.nlL,DV.nl,A1k]) ?_;refine AC.bodyT A6 rfl (Nat.le_of_ble_eq_true rfl) fun hfr=>?_;repeat' ((with_reducible first|refine wr ?_|refine k_cu ?_ ?_|refine wb2 ?_ ?_<;>(intro hb;try simp only [hb])|fail)<;>try simp only [go_sem,seval])
 refine A0b (fun q:Nat × Nat=>[(3,.slc q.2 0 (1+((l.take q.1).flatMap P).length)),(7,J4 l),(8,I64 l.length),(9,I64 q.1)]) (fun q=>nil.upd q.2 ⟨1,true,([123] :: (l.take q.1).flatMap P).map DV.str⟩)
  (fun q cc=>q.1<=l.length/\q.2<cc) (fun q=>l.length-q.1) (0,0) (fun b=>⟨rfl,rfl,rfl,rfl,trivial⟩) (by simp [C5,tm,Tm.upd]) (by simp;exact Sub.refl _) ⟨by simp,by simp⟩ ?_
 rintro ⟨k,id⟩ c ⟨hk,hid⟩;simp only at hk hid;simp only;have hle:((l.take k).flatMap P).length<=(l.flatMap P).length:=by
  have:=congrArg List.length (congrArg (List.flatMap P) (List.take_append_drop k l));rw [List.flatMap_append,List.length_append] at this;omega
 obtain ⟨A,hA⟩:∃ A,A=(l.take k).flatMap P:=⟨_,rfl⟩;rw [<- hA] at hle ⊢;by_cases hlt:k<l.length
 ·have hd:decide ((k:Int)<l.length)=true:=by simpa using hlt
  have hg:=List.getElem?_eq_getElem hlt;have hw:IntKind.i64.wrap ((k:Int)+1)=((k+1:Nat):Int):=by rw [w64 (by omega) (by omega)];omega
  have est:(l.take (k+1)).flatMap P=A++P l[k]:=by
   rw [List.take_add_one,hg,Option.toList_some,List.flatMap_append,hA];simp
  have hc:=hP _ (List.getElem_mem hlt);have hle2:(A++P l[k]).length<=(l.flatMap P).length:=by
   have:=congrArg List.length (congrArg (List.flatMap P) (List.take_append_drop (k+1) l));rw [List.flatMap_append,List.length_append,est] at this;omega
  obtain ⟨s,hs⟩:∃ s,s=l[k]:=⟨_,rfl⟩;rw [<- hs] at hg est hc hle2;have hgm:(l.map Pb.St.v)[k]? = some s.v:=by rw [List.getElem?_map,hg];rfl
  rw [Pb.St.v_w] at hgm hc;have ne0:=O0 id c (c+1) (by omega);repeat' ((with_reducible first|refine wr ?_|refine k_cu ?_ ?_|refine wb2 ?_ ?_<;>(intro hb;try simp only [hb])|fail)<;>try simp only [go_sem,seval,hd,hgm,hw,ne0,A0])
  refine AC.call (hc _ _) ?_;rintro _ _ _ ⟨rfl,rfl,rfl⟩ -;have tk:List.take (P s).length ((P s).map DV.str)=(P s).map DV.str:=List.take_of_length_le (by simp);rw [List.length_append] at hle2;have ne0:=A1y id c (c+1) (c+1+1) (by omega);simp only [go_sem,seval,ne0,A0,tk];repeat' ((with_reducible first|refine wr ?_|refine k_cu ?_ ?_|refine wb2 ?_ ?_<;>(intro hb;try simp only [hb])|fail)<;>try simp only [go_sem,seval,ne0,A0,tk])
  refine D4 (E4 (by simp;omega) (by omega) (by omega)) ?_;simp only [go_sem,seval,ne0,A0];repeat' ((with_reducible first|refine wr ?_|refine k_cu ?_ ?_|refine wb2 ?_ ?_<;>(intro hb;try simp only [hb])|fail)<;>try simp only [go_sem,seval,hw,ne0,A0])
  have e1:1+A.length+(P s).length=1+((l.take (k+1)).flatMap P).length:=by rw [est,List.length_append];omega
  refine ⟨(k+1,c+1+1),⟨by rw [e1],rfl⟩,GL.less fun j=>?_,inv ⟨hlt,by simp only;omega⟩,by simp only;omega⟩;by_cases e:j=c+1+1
  ·subst e;right;rw [A0,A0];simp only [est,List.map_append]
  ·left;rw [A2 e];rfl
 ·have hd:decide ((k:Int)<l.length)=false:=by simpa using hlt
  obtain rfl:k=l.length:=by omega
  rw [List.take_length] at hA;have ne0:=O0 id c (c+1) (by omega);repeat' ((with_reducible first|refine wr ?_|refine k_cu ?_ ?_|refine wb2 ?_ ?_<;>(intro hb;try simp only [hb])|fail)<;>try simp only [go_sem,seval,hd,ne0,A0])
  refine D4 (E4 (by simp;omega) (by omega) (by omega)) ?_;simp only [go_sem,seval,ne0,A0];repeat' ((with_reducible first|refine wr ?_|refine k_cu ?_ ?_|refine wb2 ?_ ?_<;>(intro hb;try simp only [hb])|fail)<;>try simp only [go_sem,seval,hd,ne0,A0])
  have e1:(I7 P l).length=1+A.length+1:=by rw [I7, <- hA];simp;omega
  rw [<- e1];exact ⟨_,nil.upd (c+1) ⟨1,true,(I7 P l).map DV.str⟩,P8 A0 (fun j hj=>.inl (by rw [A2 hj];rfl)) (by rw [A0,I7, <- hA];simp),c+1,rfl,rfl⟩
abbrev pstB (k:Int) (n t:List UInt8) (a:List Ex) (x y:List Pb.St) (p:Int):Blk:=⟨0,true,[I64 k,.str n,.str t,H9 a,J4 x,J4 y,I64 p]⟩
abbrev pshB (q:Shp):Blk:=⟨0,true,[.bool q.name,.bool q.text,I64 q.args,.bool q.thn,.bool q.els]⟩
theorem c_psE (k:Int) (n t:List UInt8) (a:List Ex) (x y:List Pb.St) (p:Int) (P:Pb.St->List (List UInt8)) (hY:OwL 59 [J4 y] (I7 P y))
  (hS:∀ s,y=[s]->OwL 102 [s.v] (P s)) (hb2:(I7 P y).length<=1000000000) (hb3:∀ s,y=[s]->(P s).length<=1000000000)
  (l R:List (List UInt8)) (id c:Nat) (hid:1<=id) (hc:id<c) (hl:l.length<=10000000000) (hR:R=l++A7l P y) :
  IW Tryz.prog 107 (pz Tryz.prog 102 (.o (.i (.o (.i (.i .h)))))) ⟨(tm [(1,.ptr 0 0),(3,.slc id 0 l.length)]),((nil.upd 0 (pstB k n t a x y p)).upd id ⟨1,true,l.map DV.str⟩),c⟩ (rt [.tmp 2] fun v H' c' => ∃ v2 H2,GL H' [v] H2 [v2]/\∃ id,v2=.slc id 0 R.length/\H2=nil.upd id ⟨1,true,R.map DV.str⟩):=by
 have ne0:=O0 0 id c (by omega)
 match y with
 | [] =>
  rw [A7l,List.append_nil] at hR;subst hR;repeat' ((with_reducible first|refine wr ?_|refine k_cu ?_ ?_|refine wb2 ?_ ?_<;>(intro hb;try simp only [hb])|fail)<;>try simp only [go_sem,seval,ne0,A0,List.length_nil,List.map_nil,List.length_map])
  exact ⟨_,nil.upd id ⟨1,true,R.map DV.str⟩,P8 A0 (fun j hj=>.inl (by rw [A2 hj];rfl)) A0,id,rfl,rfl⟩
 | [s] =>
  have hS':=hS s rfl;rw [Pb.St.v_w] at hS';rw [A7l] at hR;by_cases hk2:s.kind=2
  ·have d2:(s.kind == 2)=true:=by simpa using hk2
   repeat' ((with_reducible first|refine wr ?_|refine k_cu ?_ ?_|refine wb2 ?_ ?_<;>(intro hb;try simp only [hb])|fail)<;>try simp only [go_sem,seval,ne0,A0,d2,Pb.St.v_w])
   rw [A2 (show ¬ id=c+1 by omega),A0];refine N8 (E4 (by simp) (by omega) (by omega)) ?_;rw [if_pos hk2] at hR;simp only [go_sem,seval,ne0,A0,Pb.St.v_w];obtain ⟨M,hM⟩:∃ M,M=((((nil.upd 0 (pstB k n t a x [s] p)).upd id ⟨1,true,l.map DV.str⟩).upd (c+1) ⟨1,true,[.str [101,108,115,101]]⟩).del id).upd (c+10) ⟨1,true,l.map DV.str++[.str [101,108,115,101]]⟩:=⟨_,rfl⟩;rw [<- hM];have hMn:∀ i,i≠0->i≠c+1->i≠c+10->M i=none:=fun i h0 h1 h2=>by
    rw [hM,A2 h2];simp only [Hp.del];split
    ·rfl
    ·rename_i h3;rw [A2 h1,A2 h3,A2 h0];rfl
   have hMl:M (c+10)=some ⟨1,true,l.map DV.str++[.str [101,108,115,101]]⟩:=by rw [hM];exact A0
   clear hM;refine ⟨by and_intros<;>exact hMn _ (by omega) (by omega) (by omega),?_⟩;refine AC.call (hS' M (c+10+1)) ?_;rintro _ _ _ ⟨rfl,rfl,rfl⟩ -;obtain ⟨W,hW⟩:∃ W,W=P s:=⟨_,rfl⟩;rw [<- hW] at hR ⊢;have hWl:W.length<=1000000000:=hW▸hb3 s rfl;have tk:List.take W.length (W.map DV.str)=W.map DV.str:=List.take_of_length_le (by simp);have hMl2:(M.upd (c+10+1) ⟨1,true,W.map DV.str⟩) (c+10)=some ⟨1,true,l.map DV.str++[.str [101,108,115,101]]⟩:=by rw [A2 (by omega)];exact hMl
   simp only [go_sem,seval,ne0,A0,tk,hMl2];refine N8 (E4 (by simp) (by omega) (by omega)) ?_;simp only [go_sem,seval,ne0,A0];repeat' ((with_reducible first|refine wr ?_|refine k_cu ?_ ?_|refine wb2 ?_ ?_<;>(intro hb;try simp only [hb])|fail)<;>try simp only [go_sem,seval,ne0,A0])
   have e1:R.length=l.length+1+W.length:=by rw [hR];simp;omega
   rw [<- e1];exact ⟨_,nil.upd (c+10+1+1) ⟨1,true,R.map DV.str⟩,P8 A0 (fun j hj=>.inl (by rw [A2 hj];rfl)) (by rw [A0,hR];simp),c+10+1+1,rfl,rfl⟩
  ·have d2:(s.kind == 2)=false:=by simpa using hk2
   repeat' ((with_reducible first|refine wr ?_|refine k_cu ?_ ?_|refine wb2 ?_ ?_<;>(intro hb;try simp only [hb])|fail)<;>try simp only [go_sem,seval,ne0,A0,d2,Pb.St.v_w])
   rw [A2 (show ¬ id=c+1 by omega),A0];refine N8 (E4 (by simp) (by omega) (by omega)) ?_;rw [if_neg hk2] at hR;simp only [go_sem,seval,ne0,A0];obtain ⟨M,hM⟩:∃ M,M=((((nil.upd 0 (pstB k n t a x [s] p)).upd id ⟨1,true,l.map DV.str⟩).upd (c+1) ⟨1,true,[.str [101,108,115,101]]⟩).del id).upd (c+8) ⟨1,true,l.map DV.str++[.str [101,108,115,101]]⟩:=⟨_,rfl⟩;rw [<- hM];have hMn:∀ i,i≠0->i≠c+1->i≠c+8->M i=none:=fun i h0 h1 h2=>by
    rw [hM,A2 h2];simp only [Hp.del];split
    ·rfl
    ·rename_i h3;rw [A2 h1,A2 h3,A2 h0];rfl
   have hMl:M (c+8)=some ⟨1,true,l.map DV.str++[.str [101,108,115,101]]⟩:=by rw [hM];exact A0
   clear hM;refine ⟨by and_intros<;>exact hMn _ (by omega) (by omega) (by omega),?_⟩;refine AC.call (hY M (c+8+1)) ?_;rintro _ _ _ ⟨rfl,rfl,rfl⟩ -;obtain ⟨W,hW⟩:∃ W,W=I7 P [s]:=⟨_,rfl⟩;rw [<- hW] at hR ⊢;have hWl:W.length<=1000000000:=hW▸hb2;have tk:List.take W.length (W.map DV.str)=W.map DV.str:=List.take_of_length_le (by simp);have hMl2:(M.upd (c+8+1) ⟨1,true,W.map DV.str⟩) (c+8)=some ⟨1,true,l.map DV.str++[.str [101,108,115,101]]⟩:=by rw [A2 (by omega)];exact hMl
   simp only [go_sem,seval,ne0,A0,tk,hMl2];refine N8 (E4 (by simp) (by omega) (by omega)) ?_;simp only [go_sem,seval,ne0,A0];repeat' ((with_reducible first|refine wr ?_|refine k_cu ?_ ?_|refine wb2 ?_ ?_<;>(intro hb;try simp only [hb])|fail)<;>try simp only [go_sem,seval,ne0,A0])
   have e1:R.length=l.length+1+W.length:=by rw [hR];simp;omega
   rw [<- e1];exact ⟨_,nil.upd (c+8+1+1) ⟨1,true,R.map DV.str⟩,P8 A0 (fun j hj=>.inl (by rw [A2 hj];rfl)) (by rw [A0,hR];simp),c+8+1+1,rfl,rfl⟩
 | s :: s2 :: r =>
  obtain ⟨A,hA⟩:∃ A,A=s :: s2 :: r:=⟨_,rfl⟩;have n1:((A.length:Int) == 1)=false:=by rw [hA];simp;omega
  have n0:decide ((A.length:Int)>0)=true:=by rw [hA];simp;omega
  rw [A7l] at hR;rw [<- hA] at hR hY hb2 ⊢;repeat' ((with_reducible first|refine wr ?_|refine k_cu ?_ ?_|refine wb2 ?_ ?_<;>(intro hb;try simp only [hb])|fail)<;>try simp only [go_sem,seval,ne0,A0,n1,n0])
  rw [A2 (show ¬ id=c+1 by omega),A0];refine N8 (E4 (by simp) (by omega) (by omega)) ?_;simp only [go_sem,seval,ne0,A0];obtain ⟨M,hM⟩:∃ M,M=((((nil.upd 0 (pstB k n t a x A p)).upd id ⟨1,true,l.map DV.str⟩).upd (c+1) ⟨1,true,[.str [101,108,115,101]]⟩).del id).upd (c+8) ⟨1,true,l.map DV.str++[.str [101,108,115,101]]⟩:=⟨_,rfl⟩;rw [<- hM];have hMn:∀ i,i≠0->i≠c+1->i≠c+8->M i=none:=fun i h0 h1 h2=>by
   rw [hM,A2 h2];simp only [Hp.del];split
   ·rfl
   ·rename_i h3;rw [A2 h1,A2 h3,A2 h0];rfl
  have hMl:M (c+8)=some ⟨1,true,l.map DV.str++[.str [101,108,115,101]]⟩:=by rw [hM];exact A0
  clear hM;refine ⟨by and_intros<;>exact hMn _ (by omega) (by omega) (by omega),?_⟩;refine AC.call (hY M (c+8+1)) ?_;rintro _ _ _ ⟨rfl,rfl,rfl⟩ -;obtain ⟨W,hW⟩:∃ W,W=I7 P A:=⟨_,rfl⟩;rw [<- hW] at hR ⊢;have hWl:W.length<=1000000000:=hW▸hb2;have tk:List.take W.length (W.map DV.str)=W.map DV.str:=List.take_of_length_le (by simp);have hMl2:(M.upd (c+8+1) ⟨1,true,W.map DV.str⟩) (c+8)=some ⟨1,true,l.map DV.str++[.str [101,108,115,101]]⟩:=by rw [A2 (by omega)];exact hMl
  simp only [go_sem,seval,ne0,A0,tk,hMl2];refine N8 (E4 (by simp) (by omega) (by omega)) ?_;simp only [go_sem,seval,ne0,A0];repeat' ((with_reducible first|refine wr ?_|refine k_cu ?_ ?_|refine wb2 ?_ ?_<;>(intro hb;try simp only [hb])|fail)<;>try simp only [go_sem,seval,ne0,A0])
  have e1:R.length=l.length+1+W.length:=by rw [hR];simp;omega
  rw [<- e1];exact ⟨_,nil.upd (c+8+1+1) ⟨1,true,R.map DV.str⟩,P8 A0 (fun j hj=>.inl (by rw [A2 hj];rfl)) (by rw [A0,hR];simp),c+8+1+1,rfl,rfl⟩
theorem c_psD (k:Int) (n t:List UInt8) (a:List Ex) (x y:List Pb.St) (p:Int) (P:Pb.St->List (List UInt8)) (hX:OwL 59 [J4 x] (I7 P x)) (hY:OwL 59 [J4 y] (I7 P y))
  (hS:∀ s,y=[s]->OwL 102 [s.v] (P s)) (hb1:(I7 P x).length<=1000000000) (hb2:(I7 P y).length<=1000000000) (hb3:∀ s,y=[s]->(P s).length<=1000000000)
  (l R:List (List UInt8)) (id c:Nat) (hid:2<=id) (hc:id<c) (hl:l.length<=1000000000) (hR:R=l++A4k P k x y) :
  IW Tryz.prog 107 (pz Tryz.prog 102 (.o (.o (.o (.o (.i .h)))))) ⟨(tm [(1,.ptr 0 0),(3,.slc id 0 l.length),(4,.ptr 1 0)]),(((nil.upd 0 (pstB k n t a x y p)).upd 1 (pshB (M9 k))).upd id ⟨1,true,l.map DV.str⟩),c⟩ (rt [.tmp 2] fun v H' c' => ∃ v2 H2,GL H' [v] H2 [v2]/\∃ id,v2=.slc id 0 R.length/\H2=nil.upd id ⟨1,true,R.map DV.str⟩):=by
 unfold A4k at hR;have tk1:List.take (I7 P x).length ((I7 P x).map DV.str)=(I7 P x).map DV.str:=List.take_of_length_le (by simp);have ne0:=R7 0 1 id c (c+1) (by omega);cases hth:(M9 k).thn with
 | false =>
  rw [hth] at hR;rw [if_neg Bool.false_ne_true] at hR;repeat' ((with_reducible first|refine wr ?_|refine k_cu ?_ ?_|refine wb2 ?_ ?_<;>(intro hb;try simp only [hb])|fail)<;>try simp only [go_sem,seval,hth,ne0,A0])
  refine D4 (E4 (by simp) (by omega) (by omega)) ?_;simp only [go_sem,seval,ne0,A0];repeat' ((with_reducible first|refine wr ?_|refine k_cu ?_ ?_|refine wb2 ?_ ?_<;>(intro hb;try simp only [hb])|fail)<;>try simp only [go_sem,seval,ne0,A0])
  have e1:R.length=l.length+1:=by rw [hR];simp
  rw [<- e1];exact ⟨_,nil.upd (c+1) ⟨1,true,R.map DV.str⟩,P8 A0 (fun j hj=>.inl (by rw [A2 hj];rfl)) (by rw [A0,hR];simp),c+1,rfl,rfl⟩
 | true =>
  rw [hth] at hR;rw [if_pos rfl] at hR;repeat' ((with_reducible first|refine wr ?_|refine k_cu ?_ ?_|refine wb2 ?_ ?_<;>(intro hb;try simp only [hb])|fail)<;>try simp only [go_sem,seval,hth,ne0,A0])
  refine AC.call (hX _ _) ?_;rintro _ _ _ ⟨rfl,rfl,rfl⟩ -;simp only [go_sem,seval,ne0,A0,tk1];refine D4 (E4 (by simp) (by omega) (by omega)) ?_;simp only [go_sem,seval,ne0,A0];have e1:l.length+(I7 P x).length=(l++I7 P x).length:=by simp
  rw [e1];refine IW.weaken (Q8 (l:=[(1,.ptr 0 0),(3,.slc (c+1) 0 (l++I7 P x).length)]) ⟨rfl,rfl,trivial⟩) ?_ (c_psE k n t a x y p P hY hS hb2 hb3 (l++I7 P x) R (c+1) _ (by omega) (by omega) (by simp;omega) (by rw [hR,List.append_assoc]));intro j b hj;by_cases e:j=c+1
  ·subst e;rw [A0] at hj ⊢;rw [<- hj,List.map_append]
  ·rw [A2 e] at hj ⊢;by_cases e0:j=0
   ·subst e0;rw [A0] at hj;rw [<- hj];simp only [Hp.del];rw [if_neg (by omega),A2 (by omega),A2 (by omega),A2 (by omega),A0]
   ·rw [A2 e0] at hj;cases hj
theorem c_psC (k:Int) (n t:List UInt8) (a:List Ex) (x y:List Pb.St) (p:Int) (P:Pb.St->List (List UInt8)) (hX:OwL 59 [J4 x] (I7 P x)) (hY:OwL 59 [J4 y] (I7 P y))
  (hS:∀ s,y=[s]->OwL 102 [s.v] (P s)) (hb1:(I7 P x).length<=1000000000) (hb2:(I7 P y).length<=1000000000) (hb3:∀ s,y=[s]->(P s).length<=1000000000)
  (hE:∀ e∈a,OwL 65 [e.v] (txT (exT e))) (ha:a.length<=1000)
  (l R:List (List UInt8)) (id c:Nat) (hid:2<=id) (hc:id<c) (hRl:R.length<=1000000000) (hR:R=l++(agI 0 a++A4k P k x y)) :
  IW Tryz.prog 107 (pz Tryz.prog 102 (.i (.o (.o (.i .h))))) ⟨(tm [(1,.ptr 0 0),(3,.slc id 0 l.length),(4,.ptr 1 0)]),(((nil.upd 0 (pstB k n t a x y p)).upd 1 (pshB (M9 k))).upd id ⟨1,true,l.map DV.str⟩),c⟩ (rt [.tmp 2] fun v H' c' => ∃ v2 H2,GL H' [v] H2 [v2]/\∃ id,v2=.slc id 0 R.length/\H2=nil.upd id ⟨1,true,R.map DV.str⟩):=by
 have ne0:=A1y 0 1 id c (by omega);repeat' ((with_reducible first|refine wr ?_|refine k_cu ?_ ?_|refine wb2 ?_ ?_<;>(intro hb;try simp only [hb])|fail)<;>try simp only [go_sem,seval,ne0,A0])
 refine A0b (fun q:Nat × Nat × List (List UInt8)=>[(1,.ptr 0 0),(3,.slc q.2.1 0 q.2.2.length),(4,.ptr 1 0),(44,H9 a),(45,I64 a.length),(46,I64 q.1)]) (fun q=>((nil.upd 0 (pstB k n t a x y p)).upd 1 (pshB (M9 k))).upd q.2.1 ⟨1,true,q.2.2.map DV.str⟩)
  (fun q cc=>q.1<=a.length/\2<=q.2.1/\q.2.1<cc/\R=q.2.2++(agI q.1 (a.drop q.1)++A4k P k x y)) (fun q=>a.length-q.1) (0,id,l) (fun b=>⟨rfl,rfl,rfl,rfl,rfl,rfl,trivial⟩) (by simp [C5,tm,Tm.upd]) (Sub.refl _) ⟨Nat.zero_le _,hid,hc,hR⟩ ?_
 clear ne0 hR hc hid;rintro ⟨i,id,cur⟩ c ⟨hi,hid,hc,hR⟩;simp only at hi hid hc hR;simp only;by_cases hlt:i<a.length
 ·have hd:decide ((i:Int)<a.length)=true:=by simpa using hlt
  have hg:=List.getElem?_eq_getElem hlt;have hw:IntKind.i64.wrap ((i:Int)+1)=((i+1:Nat):Int):=by rw [w64 (by omega) (by omega)];omega
  have hP:=hE _ (List.getElem_mem hlt);rw [List.drop_eq_getElem_cons hlt,agI] at hR;obtain ⟨e,he⟩:∃ e,e=a[i]:=⟨_,rfl⟩;rw [<- he] at hg hP hR;have hgm:(a.map Ex.v)[i]? = some e.v:=by rw [List.getElem?_map,hg];rfl
  rw [Ex.v_w] at hP hgm;have hle:cur.length+(txT (exT e)).length+1<=2000000000:=by
   have:=congrArg List.length hR;simp only [List.length_append] at this;omega
  have tk:List.take (txT (exT e)).length ((txT (exT e)).map DV.str)=(txT (exT e)).map DV.str:=List.take_of_length_le (by simp);have ne0:=nes7 0 1 id c (c+1) (c+1+1) (c+1+1+1) (by omega);by_cases h0:0<i
  ·have hp:decide ((i:Int)>0)=true:=by simpa using h0
   rw [if_pos h0] at hR;repeat' ((with_reducible first|refine wr ?_|refine k_cu ?_ ?_|refine wb2 ?_ ?_<;>(intro hb;try simp only [hb])|fail)<;>try simp only [go_sem,seval,ne0,A0,hd,hgm,hp,hw])
   refine D4 (E4 (by simp) (by omega) (by omega)) ?_;simp only [go_sem,seval,ne0,A0];repeat' ((with_reducible first|refine wr ?_|refine k_cu ?_ ?_|refine wb2 ?_ ?_<;>(intro hb;try simp only [hb])|fail)<;>try simp only [go_sem,seval,ne0,A0,hw])
   refine AC.call (hP _ _) ?_;rintro _ _ _ ⟨rfl,rfl,rfl⟩ -;simp only [go_sem,seval,ne0,A0,tk];refine D4 (E4 (by simp) (by omega) (by omega)) ?_;simp only [go_sem,seval,ne0,A0];repeat' ((with_reducible first|refine wr ?_|refine k_cu ?_ ?_|refine wb2 ?_ ?_<;>(intro hb;try simp only [hb])|fail)<;>try simp only [go_sem,seval,ne0,A0,hw])
   have e1:cur.length+1+(txT (exT e)).length=(cur++([44] :: txT (exT e))).length:=by simp;try omega
   rw [e1];refine ⟨(i+1,c+1+1+1+1,cur++([44] :: txT (exT e))),⟨rfl,rfl⟩,GL.less fun j=>?_,inv ⟨hlt,by simp only;omega,by simp only;omega,by simp only;rw [hR];simp⟩,by simp only;omega⟩;by_cases e:j=c+1+1+1+1
   ·subst e;right;rw [A0,A0];simp
   ·by_cases e2:j=0\/j=1
    ·right;rcases e2 with rfl|rfl<;>(rw [A2 e,A2 e];simp only [Hp.upd,Hp.del,ne0,if_true,if_false])
    ·left;rw [A2 e,A2 (by omega),A2 (by omega)];rfl
  ·have hp:decide ((i:Int)>0)=false:=by simpa using h0
   rw [if_neg h0] at hR;repeat' ((with_reducible first|refine wr ?_|refine k_cu ?_ ?_|refine wb2 ?_ ?_<;>(intro hb;try simp only [hb])|fail)<;>try simp only [go_sem,seval,ne0,A0,hd,hgm,hp,hw])
   refine AC.call (hP _ _) ?_;rintro _ _ _ ⟨rfl,rfl,rfl⟩ -;simp only [go_sem,seval,ne0,A0,tk];refine D4 (E4 (by simp) (by omega) (by omega)) ?_;simp only [go_sem,seval,ne0,A0];repeat' ((with_reducible first|refine wr ?_|refine k_cu ?_ ?_|refine wb2 ?_ ?_<;>(intro hb;try simp only [hb])|fail)<;>try simp only [go_sem,seval,ne0,A0,hw])
   have e1:cur.length+(txT (exT e)).length=(cur++txT (exT e)).length:=by simp;try omega
   rw [e1];refine ⟨(i+1,c+1+1,cur++txT (exT e)),⟨rfl,rfl⟩,GL.less fun j=>?_,inv ⟨hlt,by simp only;omega,by simp only;omega,by simp only;rw [hR];simp⟩,by simp only;omega⟩;by_cases e:j=c+1+1
   ·subst e;right;rw [A0,A0];simp
   ·by_cases e2:j=0\/j=1
    ·right;rcases e2 with rfl|rfl<;>(rw [A2 e,A2 e];simp only [Hp.upd,Hp.del,ne0,if_true,if_false])
    ·left;rw [A2 e,A2 (by omega),A2 (by omega)];rfl
 ·have hd:decide ((i:Int)<a.length)=false:=by simpa using hlt
  rw [List.drop_eq_nil_of_le (by omega),agI,List.nil_append] at hR;repeat' ((with_reducible first|refine E7 (p:=IW _ _ (pz Tryz.prog 102 (.o (.o (.o (.o (.i .h)))))) _ _) ?_|refine wr ?_|refine k_cu ?_ ?_|refine wb2 ?_ ?_<;>(intro hb;try simp only [hb])|fail)<;>try simp only [go_sem,seval,hd])
  unfold A0g;exact IW.weaken (Q8 (l:=[(1,.ptr 0 0),(3,.slc id 0 cur.length),(4,.ptr 1 0)]) ⟨rfl,rfl,rfl,trivial⟩) (Sub.refl _) (c_psD k n t a x y p P hX hY hS hb1 hb2 hb3 cur R id c hid hc (by have:=congrArg List.length hR;simp only [List.length_append] at this;omega) hR)
theorem c_psB (k:Int) (n t:List UInt8) (a:List Ex) (x y:List Pb.St) (p:Int) (P:Pb.St->List (List UInt8)) (hX:OwL 59 [J4 x] (I7 P x)) (hY:OwL 59 [J4 y] (I7 P y))
  (hS:∀ s,y=[s]->OwL 102 [s.v] (P s)) (hb1:(I7 P x).length<=1000000000) (hb2:(I7 P y).length<=1000000000) (hb3:∀ s,y=[s]->(P s).length<=1000000000)
  (hE:∀ e∈a,OwL 65 [e.v] (txT (exT e))) (ha:a.length<=1000) (ht:t.length<=1000)
  (l R:List (List UInt8)) (id c:Nat) (hid:2<=id) (hc:id<c) (hRl:R.length<=1000000000) (hR:R=l++(txL k t++(agI 0 a++A4k P k x y))) :
  IW Tryz.prog 107 (pz Tryz.prog 102 (.i (.i (.o (.o .h))))) ⟨(tm [(1,.ptr 0 0),(3,.slc id 0 l.length),(4,.ptr 1 0)]),(((nil.upd 0 (pstB k n t a x y p)).upd 1 (pshB (M9 k))).upd id ⟨1,true,l.map DV.str⟩),c⟩ (rt [.tmp 2] fun v H' c' => ∃ v2 H2,GL H' [v] H2 [v2]/\∃ id,v2=.slc id 0 R.length/\H2=nil.upd id ⟨1,true,R.map DV.str⟩):=by
 have hq:=c_Quote t (by omega);have hl:l.length<=1000000000:=by
  have:=congrArg List.length hR;simp only [List.length_append] at this;omega
 unfold txL at hR;have ne0:=R7 0 1 id c (c+1) (by omega);cases htx:(M9 k).text with
 | false =>
  rw [htx,if_neg Bool.false_ne_true,List.nil_append] at hR;repeat' ((with_reducible first|refine E7 (p:=IW _ _ (pz Tryz.prog 102 (.i (.o (.o (.i .h))))) _ _) ?_|refine wr ?_|refine k_cu ?_ ?_|refine wb2 ?_ ?_<;>(intro hb;try simp only [hb])|fail)<;>try simp only [go_sem,seval,ne0,A0,htx])
  unfold A0g;exact IW.weaken (Q8 (l:=[(1,.ptr 0 0),(3,.slc id 0 l.length),(4,.ptr 1 0)]) ⟨rfl,rfl,rfl,trivial⟩) (Sub.refl _) (c_psC k n t a x y p P hX hY hS hb1 hb2 hb3 hE ha l R id c hid hc hRl hR)
 | true =>
  rw [htx,if_pos rfl] at hR;repeat' ((with_reducible first|refine E7 (p:=IW _ _ (pz Tryz.prog 102 (.i (.o (.o (.i .h))))) _ _) ?_|refine wr ?_|refine cpc hq ?_|refine k_cu ?_ ?_|refine wb2 ?_ ?_<;>(intro hb;try simp only [hb])|fail)<;>try simp only [go_sem,seval,ne0,A0,htx])
  refine D4 (E4 (by simp) (by omega) (by omega)) ?_;simp only [go_sem,seval,ne0,A0];repeat' ((with_reducible first|refine E7 (p:=IW _ _ (pz Tryz.prog 102 (.i (.o (.o (.i .h))))) _ _) ?_|refine wr ?_|refine k_cu ?_ ?_|refine wb2 ?_ ?_<;>(intro hb;try simp only [hb])|fail)<;>try simp only [go_sem,seval,ne0,A0])
  unfold A0g;have e1:l.length+2=(l++[R5 t,[44]]).length:=by simp
  rw [e1];refine IW.weaken (Q8 (l:=[(1,.ptr 0 0),(3,.slc (c+1) 0 (l++[R5 t,[44]]).length),(4,.ptr 1 0)]) ⟨rfl,rfl,rfl,trivial⟩) ?_ (c_psC k n t a x y p P hX hY hS hb1 hb2 hb3 hE ha (l++[R5 t,[44]]) R (c+1) _ (by omega) (by omega) hRl (by rw [hR];simp));intro j b hj;by_cases e:j=c+1
  ·subst e;rw [A0] at hj ⊢;rw [<- hj];simp
  ·rw [A2 e] at hj ⊢;by_cases e2:j=0\/j=1
   ·rw [<- hj];rcases e2 with rfl|rfl<;>simp only [Hp.upd,Hp.del,ne0,if_true,if_false]
   ·rw [A2 (by omega),A2 (by omega)] at hj;cases hj
theorem c_psA (k:Int) (n t:List UInt8) (a:List Ex) (x y:List Pb.St) (p:Int) (P:Pb.St->List (List UInt8)) (hX:OwL 59 [J4 x] (I7 P x)) (hY:OwL 59 [J4 y] (I7 P y))
  (hS:∀ s,y=[s]->OwL 102 [s.v] (P s)) (hb1:(I7 P x).length<=1000000000) (hb2:(I7 P y).length<=1000000000) (hb3:∀ s,y=[s]->(P s).length<=1000000000)
  (hE:∀ e∈a,OwL 65 [e.v] (txT (exT e))) (ha:a.length<=1000) (ht:t.length<=1000) (hRl:(psL P (.mk k n t a x y p)).length<=1000000000) :
  OwL 102 [(Pb.St.mk k n t a x y p).v] (psL P (.mk k n t a x y p)):=by
 have hsh:PC Tryz.prog 153 [I64 k] (.tup [.agg [.bool (M9 k).name,.bool (M9 k).text,I64 (M9 k).args,.bool (M9 k).thn,.bool (M9 k).els],.bool (kndB k)]):=c_shapeOf k;have hwd:=c_wordOf k;refine OwL.of (by simp [DV.nlL,DV.nl,St.nl]) ?_;refine AC.bodyT A6 rfl (Nat.le_of_ble_eq_true rfl) fun hfr=>?_;rw [Pb.St.v_w];dsimp only [Pb.St.w,Pb.St.kind,Pb.St.name,Pb.St.text,Pb.St.args,Pb.St.thn,Pb.St.els,Pb.St.pos];obtain ⟨R,hR⟩:∃ R,R=psL P (.mk k n t a x y p):=⟨_,rfl⟩;rw [<- hR] at hRl ⊢;rw [psL] at hR;unfold hdL at hR;by_cases h1:k=1
 ·have d1:(k == 1)=true:=by simpa using h1
  rw [if_pos h1] at hR;repeat' ((with_reducible first|refine E7 (p:=IW _ _ (pz Tryz.prog 102 (.i (.i (.o (.o .h))))) _ _) ?_|refine wr ?_|refine cpc hsh ?_|refine cpc hwd ?_|refine k_cu ?_ ?_|refine wb2 ?_ ?_<;>(intro hb;try simp only [hb])|fail)<;>try simp only [go_sem,seval,d1])
  refine D4 (A5o (by decide) (by decide) (by decide)) ?_;simp only [go_sem,seval,A0];repeat' ((with_reducible first|refine E7 (p:=IW _ _ (pz Tryz.prog 102 (.i (.i (.o (.o .h))))) _ _) ?_|refine wr ?_|refine k_cu ?_ ?_|refine wb2 ?_ ?_<;>(intro hb;try simp only [hb])|fail)<;>try simp only [go_sem,seval])
  unfold A0g;refine IW.weaken (Q8 (l:=[(1,.ptr 0 0),(3,.slc 3 0 ([n,[61]]).length),(4,.ptr 1 0)]) ⟨rfl,rfl,rfl,trivial⟩) ?_ (c_psB k n t a x y p P hX hY hS hb1 hb2 hb3 hE ha ht ([n,[61]]) R 3 _ (by decide) (by decide) hRl hR);intro j b hj;by_cases e:j=3
  ·subst e;rw [A0] at hj ⊢;exact hj
  ·rw [A2 e] at hj ⊢;by_cases e2:j=0\/j=1
   ·rw [<- hj];rcases e2 with rfl|rfl<;>first|rfl|(unfold pshB;rw [hnm];rfl)
   ·rw [A2 (by omega),A2 (by omega)] at hj;cases hj
 ·have d1:(k == 1)=false:=by simpa using h1
  rw [if_neg h1] at hR;repeat' ((with_reducible first|refine E7 (p:=IW _ _ (pz Tryz.prog 102 (.i (.i (.o (.o .h))))) _ _) ?_|refine wr ?_|refine cpc hsh ?_|refine cpc hwd ?_|refine k_cu ?_ ?_|refine wb2 ?_ ?_<;>(intro hb;try simp only [hb])|fail)<;>try simp only [go_sem,seval,d1])
  refine D4 (A5o (by decide) (by decide) (by decide)) ?_;simp only [go_sem,seval,A0];cases hnm:(M9 k).name with
  | false =>
   rw [hnm,if_neg Bool.false_ne_true] at hR;repeat' ((with_reducible first|refine E7 (p:=IW _ _ (pz Tryz.prog 102 (.i (.i (.o (.o .h))))) _ _) ?_|refine wr ?_|refine k_cu ?_ ?_|refine wb2 ?_ ?_<;>(intro hb;try simp only [hb])|fail)<;>try simp only [go_sem,seval,hnm,A0])
   unfold A0g;refine IW.weaken (Q8 (l:=[(1,.ptr 0 0),(3,.slc 3 0 ([O1 C1 U9 k]).length),(4,.ptr 1 0)]) ⟨rfl,rfl,rfl,trivial⟩) ?_ (c_psB k n t a x y p P hX hY hS hb1 hb2 hb3 hE ha ht ([O1 C1 U9 k]) R 3 _ (by decide) (by decide) hRl hR);intro j b hj;by_cases e:j=3
   ·subst e;rw [A0] at hj ⊢;exact hj
   ·rw [A2 e] at hj ⊢;by_cases e2:j=0\/j=1
    ·rw [<- hj];rcases e2 with rfl|rfl<;>first|rfl|(unfold pshB;rw [hnm];rfl)
    ·rw [A2 (by omega),A2 (by omega)] at hj;cases hj
  | true =>
   rw [hnm,if_pos rfl] at hR;repeat' ((with_reducible first|refine E7 (p:=IW _ _ (pz Tryz.prog 102 (.i (.i (.o (.o .h))))) _ _) ?_|refine wr ?_|refine k_cu ?_ ?_|refine wb2 ?_ ?_<;>(intro hb;try simp only [hb])|fail)<;>try simp only [go_sem,seval,hnm,A0])
   refine D4 (E4 rfl (by decide) (by decide)) ?_;simp only [go_sem,seval,A0];repeat' ((with_reducible first|refine E7 (p:=IW _ _ (pz Tryz.prog 102 (.i (.i (.o (.o .h))))) _ _) ?_|refine wr ?_|refine k_cu ?_ ?_|refine wb2 ?_ ?_<;>(intro hb;try simp only [hb])|fail)<;>try simp only [go_sem,seval])
   unfold A0g;refine IW.weaken (Q8 (l:=[(1,.ptr 0 0),(3,.slc 5 0 ([O1 C1 U9 k,n]).length),(4,.ptr 1 0)]) ⟨rfl,rfl,rfl,trivial⟩) ?_ (c_psB k n t a x y p P hX hY hS hb1 hb2 hb3 hE ha ht ([O1 C1 U9 k,n]) R 5 _ (by decide) (by decide) hRl hR);intro j b hj;by_cases e:j=5
   ·subst e;rw [A0] at hj ⊢;exact hj
   ·rw [A2 e] at hj ⊢;by_cases e2:j=0\/j=1
    ·rw [<- hj];rcases e2 with rfl|rfl<;>first|rfl|(unfold pshB;rw [hnm];rfl)
    ·rw [A2 (by omega),A2 (by omega)] at hj;cases hj
theorem A1f {d:Nat}:∀ {l:List Pb.St},A2u d l=true->∀ s∈l,A3s d s=true
 | [],_,s,hs=>by cases hs
 | a :: l,h,s,hs=>by
  rw [A2u,Bool.and_eq_true] at h;rcases List.mem_cons.1 hs with rfl|hs
  ·exact h.1
  ·exact A1f h.2 s hs
theorem c_pblkT (l:List Pb.St) (hl:l.length<=4000000) (hP:∀ s∈l,OwL 102 [s.v] (txT (stT s))) (hB:Pb.St.szs l<=4000000):OwL 59 [J4 l] (txT (blT l)):=by
 rw [tx_blk];refine c_pblk _ l hl hP ?_;rw [<- A5f];have:=A0q l;unfold txT;rw [List.length_map];omega
theorem c_prStmt:∀ (m:Nat) (s:Pb.St) (d:Nat),s.sz<m->s.sz<=4000000->A3s d s=true->OwL 102 [s.v] (txT (stT s)):=by
 intro m
 induction m with
 | zero=>intro s d h;omega
 | succ m ih =>
 intro s d hm hB hv;have hps:=ps_eq hv;have hlen:=(A5k s).2;obtain ⟨k,n,t,a,x,y,p⟩:=s;have hv2:=hv;unfold A3s at hv2;simp only [Bool.and_eq_true,decide_eq_true_eq,beq_iff_eq] at hv2;obtain ⟨⟨⟨⟨⟨k1,k2⟩,⟨ha,hE⟩⟩,⟨hn,ht⟩⟩,⟨hx,hy⟩⟩,⟨⟨⟨hx1,hx2⟩,hx3⟩,⟨⟨hy1,hy2⟩,hy3⟩⟩⟩:=hv2;have hsz:Pb.St.szs x+Pb.St.szs y+Ex.szs a+t.length<(Pb.St.mk k n t a x y p).sz:=by rw [Pb.St.sz];omega
 have hPx:∀ s∈x,OwL 102 [s.v] (txT (stT s)):=fun s hs=>ih s (d+1) (by have:=Pb.St.szs_mem hs;omega) (by have:=Pb.St.szs_mem hs;omega) (A1f hx3 s hs);have hPy:∀ s∈y,OwL 102 [s.v] (txT (stT s)):=fun s hs=>ih s (d+1) (by have:=Pb.St.szs_mem hs;omega) (by have:=Pb.St.szs_mem hs;omega) (A1f hy3 s hs);have hX:=c_pblkT x (by omega) hPx (by omega);have hY:=c_pblkT y (by omega) hPy (by omega);rw [tx_blk] at hX hY;have bl:∀ l:List Pb.St,Pb.St.szs l<=4000000->(I7 (fun s=>txT (stT s)) l).length<=1000000000:=fun l h=>by
  rw [<- tx_blk];have:=(B0w l).2;unfold txT;rw [List.length_map];omega
 have har:a.length<=1000:=by
  rw [ha];unfold M9;repeat' split
  all_goals decide
 have htl:t.length<=1000:=by
  by_cases hc:(M9 k).text=true
  ·rw [if_pos hc] at ht;unfold S0 at ht;simp only [Bool.and_eq_true,decide_eq_true_eq] at ht;omega
  ·rw [if_neg hc] at ht;rw [beq_iff_eq.1 ht];simp
 rw [<- hps];refine c_psA k n t a x y p _ hX hY (fun s hs=>hPy s (by rw [hs];simp)) (bl x (by omega)) (bl y (by omega)) (fun s hs=>?_) (fun e he=>?_) har htl (by rw [hps];unfold txT;rw [List.length_map];omega)
 ·have:=(A5k s).2;unfold txT;rw [List.length_map];have h2:=Pb.St.szs_mem (l:=y) (x:=s) (by rw [hs];simp);omega
 ·exact c_printed _ e (Nat.lt_succ_self _) (by have:=Ex.szs_mem he;omega) (vl_ms (List.all_eq_true.1 hE e he))
end Go.Proofs.YthlpinppaclofaaGreatDoor
namespace Go.Pb
variable [Go.Sym.Tab]
open Go.Sym
def dcL (d:Dc):List (List UInt8):=[D7.getD (d.kind-1).toNat [],d.name]++((if d.kind<7 then (if d.value<0 then [[45]] else [])++[G5 (if d.value<0 then -d.value else d.value)] else [])++[[59]])
theorem tx_num {v:Int} (h1:0<=v) (h2:v<=2147483647):txT (Y0 v)=[G5 v]:=by
 unfold Y0;rw [if_neg (by omega)];rfl
theorem dc_eq {d:Dc} (h:A7x d=true):txT (dcT d)=dcL d:=by
 unfold A7x at h;simp only [Bool.and_eq_true,decide_eq_true_eq] at h;obtain ⟨⟨⟨⟨k1,k2⟩,hn⟩,v1⟩,v2⟩:=h;unfold dcT dcL;rw [if_neg (by omega)];dsimp only;by_cases h6:6<d.kind
 ·rw [if_pos h6,if_neg (show ¬ d.kind<7 by omega)];simp [E3,I0,L9,O7 hn]
 ·rw [if_neg h6,if_pos (show d.kind<7 by omega)];have v2':d.value<=2147483647:=by split at v2<;>omega
  by_cases hv:d.value<0
  ·have hk:d.kind=6:=by split at v1<;>omega
   have v1' : -2147483647<=d.value:=by rw [if_pos hk] at v1;exact v1
   rw [if_pos (show d.value<0 /\ -2147483647<=d.value/\d.kind=6 from ⟨hv,v1',hk⟩),if_pos hv,if_pos hv];simp [E3,I0,L9,O7 hn,tx_num (v := -d.value) (by omega) (by omega)]
  ·rw [if_neg (show ¬ (d.value<0 /\ -2147483647<=d.value/\d.kind=6) from fun hc=>hv hc.1),if_neg hv,if_neg hv];simp [E3,I0,L9,O7 hn,tx_num (v:=d.value) (by omega) v2']
def hdPr (h:Hd):List (List UInt8):=[[111,110],E1.getD (h.trig-1).toNat []]++((if 3<=h.trig then [h.name] else [])++txT (blT h.body))
theorem hd_eq {h:Hd} (hv:A3t h=true):txT (hdT h)=hdPr h:=by
 unfold A3t at hv;simp only [Bool.and_eq_true,decide_eq_true_eq] at hv;obtain ⟨⟨⟨k1,k2⟩,hn⟩, -⟩:=hv;unfold hdT hdPr;by_cases h3:3<=h.trig
 ·rw [if_pos h3] at hn;rw [if_pos (by omega),if_pos h3];simp [E3,I0,L9,O7 hn]
 ·rw [if_neg (by omega),if_neg h3];simp [E3,I0,L9]
def mdL (m:Md):List (List UInt8):=[[109,111,100,101],m.name,G5 m.prio,[123]]++(m.hds.flatMap hdPr++[[125]])
theorem A5w {α : Type} {f : α -> List Tok} {g : α -> List (List UInt8)}:∀ {l:List α},(∀ x∈l,txT (f x)=g x)->txT (l.flatMap f)=l.flatMap g
 | [],_=>rfl
 | a :: l,h=>by
  rw [List.flatMap_cons,List.flatMap_cons,E3,h a List.mem_cons_self,A5w fun x hx=>h x (List.mem_cons_of_mem _ hx)]
theorem md_eq {m:Md} (hv:A1v m=true):txT (mdT m)=mdL m:=by
 unfold A1v at hv;simp only [Bool.and_eq_true,decide_eq_true_eq] at hv;obtain ⟨⟨⟨⟨hn,p1⟩,p2⟩, -⟩,hh⟩:=hv;unfold mdT mdL;have hf:=A5w (l:=m.hds) (f:=hdT) (g:=hdPr) fun h hm=>hd_eq (List.all_eq_true.1 hh h hm);simp [E3,I0,L9,O7 hn,tx_num p1 p2,hf]
theorem ru_eq {r:Ru} (h:A9o r=true):txT (ruT r)=r.decls.flatMap dcL++r.modes.flatMap mdL:=by
 have h0:=h;unfold A9o at h;simp only [Bool.and_eq_true,decide_eq_true_eq] at h;obtain ⟨⟨-,h1⟩,h2⟩:=h;unfold ruT;rw [if_neg,E3,A5w fun d hd=>dc_eq (List.all_eq_true.1 h1 d hd),A5w fun m hm=>md_eq (List.all_eq_true.1 h2 m hm)];intro hb;obtain ⟨m,hm,hb⟩:=List.any_eq_true.1 hb;obtain ⟨g,hg,hb⟩:=List.any_eq_true.1 hb;have h3:=List.all_eq_true.1 h2 m hm;unfold A1v at h3;simp only [Bool.and_eq_true] at h3;have h4:=List.all_eq_true.1 h3.2 g hg;unfold A3t at h4;simp only [Bool.and_eq_true,decide_eq_true_eq] at h4;unfold hdBad at hb;simp only [Bool.or_eq_true,decide_eq_true_eq] at hb;omega
def ShT (t:Tok):Prop:=(I5 t).length<=1000
theorem sh_0:ShT M1:=by show (I5 M1).length<=1000;rw [show I5 M1=[] from rfl];simp
theorem clo_sh:Clo ShT:=⟨fun t ht=>by obtain rfl:=List.mem_singleton.1 ht;exact sh_0,fun x h t ht=>by
  obtain rfl:=List.mem_singleton.1 ht;unfold ShT;rw [I3];omega,fun x t ht=>by
  unfold D5 at ht;by_cases h:C4 x=false
  ·rw [if_pos h] at ht;obtain rfl:=List.mem_singleton.1 ht;exact sh_0
  ·rw [if_neg h] at ht;obtain rfl:=List.mem_singleton.1 ht;have h1:C4 x=true:=by cases hx:C4 x with|true=>rfl|false=>exact absurd hx h
   unfold C4 at h1;simp only [Bool.and_eq_true,decide_eq_true_eq] at h1;show x.length<=1000;omega,fun x t ht=>by
  unfold Y0 at ht;split at ht
  ·obtain rfl:=List.mem_singleton.1 ht;exact sh_0
  ·obtain rfl:=List.mem_singleton.1 ht;have:=N6 (n:=x) (by omega) (by omega);show (G5 x).length<=1000;omega,fun x t ht=>by
  unfold A6h at ht;split at ht
  ·obtain rfl:=List.mem_singleton.1 ht;exact sh_0
  ·rename_i hc;obtain rfl:=List.mem_singleton.1 ht;have h2:¬ 32<x.length:=fun h=>hc (.inr h);have:=A8p x;show (R5 x).length<=1000;omega⟩
theorem sh_ruT (r:Ru):∀ t∈txT (ruT r),t.length<=100000:=fun t ht=>by
 obtain ⟨x,hx,rfl⟩:=List.mem_map.1 ht;have:(I5 x).length<=1000:=q_ruT clo_sh r x hx;omega
end Go.Pb
namespace Go.Proofs.YthlpinppaclofaaGreatDoor
open Go.Eng (IC IOper DReg IFn B5)
open Go.Sym Go.Pb
theorem c_fmZ (R:List (List UInt8)) (o:Option Nat) (c:Nat) (ho:∀ i,o=some i->i<c) (hn:o=none->R=[]) (hl:R.length<=1000000000) (hb:∀ t∈R,t.length<=100000) :
  IW Tryz.prog 105 (pz Tryz.prog 25 (.o (.o (.o (.i (.i (.o .h))))))) ⟨tm [(3,C2 o R.length)],D1 Sym.nil o ⟨1,true,R.map DV.str⟩,c⟩ (rt [.tmp 2] fun v H' _ => ∃ H2,GL H' [v] H2 [.str (R9 R)]):=by
 have hL:=c_lines R hl hb;rcases o with _|id
 ·obtain rfl:=hn rfl;repeat' ((with_reducible first|refine wr ?_|refine k_cu ?_ ?_|refine wb2 ?_ ?_<;>(intro hb;try simp only [hb])|fail)<;>try simp only [go_sem,seval])
  refine AC.call (hL.give (H0:=Sym.nil) ⟨fun _ h=>h,fun ρ w vs h1 h2=>⟨ρ,rfl,h1,?_,Ext.refl _ _ _⟩⟩) ?_
  ·exact ⟨h2.1,fun i x y hx hy=>by
    match i with
    | 0=>cases hx;exact (h2.2 0 _ y rfl hy).snil_lst
    | _+1=>cases hx⟩
  ·rintro v H' c' ⟨rfl,rfl,rfl⟩ -;simp only [go_sem,seval];repeat' ((with_reducible first|refine wr ?_|refine k_cu ?_ ?_|refine wb2 ?_ ?_<;>(intro hb;try simp only [hb])|fail)<;>try simp only [go_sem,seval])
   exact A4 rfl
 ·repeat' ((with_reducible first|refine wr ?_|refine k_cu ?_ ?_|refine wb2 ?_ ?_<;>(intro hb;try simp only [hb])|fail)<;>try simp only [go_sem,seval])
  refine AC.call (hL.give (H0:=Sym.nil) (GL.one (id:=id) A0 rfl (.cons _ _ _ _ (J8 (u:=1) (by rw [List.length_map]) (K3 _) ⟨[],by rw [A1a];simp⟩) .nil))) ?_;rintro v H' c' ⟨rfl,rfl,rfl⟩ -;simp only [go_sem,seval];repeat' ((with_reducible first|refine wr ?_|refine k_cu ?_ ?_|refine wb2 ?_ ?_<;>(intro hb;try simp only [hb])|fail)<;>try simp only [go_sem,seval])
  exact A4 rfl
abbrev A9w (ds:List Dc) (ms:List Md):Blk:=⟨0,true,[A0p ds,B0l ms]⟩
theorem Z0 {M:Hp} {x y z c:Nat} {a b B0 Bc:Blk} (h0:M 0=some B0) (hc:M c=some Bc) (h1:0<c) (h2:c<x) (h3:x<y) (h4:y<z) :
  (((M.upd y a).del x).upd z b) 0=some B0/\(((M.upd y a).del x).upd z b) c=some Bc/\(((M.upd y a).del x).upd z b) z=some b:=by
 refine ⟨?_,?_,A0⟩
 ·rw [A2 (by omega)];simp only [Hp.del];rw [if_neg (by omega),A2 (by omega)];exact h0
 ·rw [A2 (by omega)];simp only [Hp.del];rw [if_neg (by omega),A2 (by omega)];exact hc
theorem c_fmD (ds:List Dc) (ms:List Md) (R rest:List (List UInt8)) (hds:ds.length<=1000) (hv:∀ d∈ds,A7x d=true) (hRl:R.length<=1000000000)
  (next:∀ (o:Option Nat) (cur:List (List UInt8)) (c:Nat),(∀ i,o=some i->0<i/\i<c)->(o=none->cur=[])->1<=c->R=cur++rest ->
   IW Tryz.prog 105 (pz Tryz.prog 25 (.o (.o (.i (.i (.o .h)))))) ⟨tm [(1,.ptr 0 0),(3,C2 o cur.length)],D1 (nil.upd 0 (A9w ds ms)) o ⟨1,true,cur.map DV.str⟩,c⟩ (rt [.tmp 2] fun v H' _ => ∃ H2,GL H' [v] H2 [.str (R9 R)]))
  (hR:R=ds.flatMap dcL++rest) :
  IW Tryz.prog 105 (pz Tryz.prog 25 (.i (.o (.i .h)))) ⟨tm [(1,.ptr 0 0),(3,.snil)],nil.upd 0 (A9w ds ms),1⟩ (rt [.tmp 2] fun v H' _ => ∃ H2,GL H' [v] H2 [.str (R9 R)]):=by
 repeat' ((with_reducible first|refine wr ?_|refine k_cu ?_ ?_|refine wb2 ?_ ?_<;>(intro hb;try simp only [hb])|fail)<;>try simp only [go_sem,seval,A0])
 refine A0b (fun q:Nat × Option Nat × List (List UInt8)=>[(1,.ptr 0 0),(3,C2 q.2.1 q.2.2.length),(14,A0p ds),(15,I64 ds.length),(16,I64 q.1)]) (fun q=>D1 (nil.upd 0 (A9w ds ms)) q.2.1 ⟨1,true,q.2.2.map DV.str⟩)
  (fun q cc=>q.1<=ds.length/\(∀ i,q.2.1=some i->0<i/\i<cc)/\(q.2.1=none->q.2.2=[])/\1<=cc/\R=q.2.2++((ds.drop q.1).flatMap dcL++rest)) (fun q=>ds.length-q.1) (0,none,[]) (fun b=>⟨rfl,rfl,rfl,rfl,rfl,trivial⟩) (by simp [C5,tm,Tm.upd,C2]) (Sub.refl _) ⟨Nat.zero_le _,by simp,by simp,by decide,hR⟩ ?_
 clear hR;rintro ⟨i,o,cur⟩ c ⟨hi,ho,hn,hc,hR⟩;simp only at hi ho hn hc hR;simp only;by_cases hlt:i<ds.length
 ·have hd:decide ((i:Int)<ds.length)=true:=by simpa using hlt
  have hg:=List.getElem?_eq_getElem hlt;have hw:IntKind.i64.wrap ((i:Int)+1)=((i+1:Nat):Int):=by rw [w64 (by omega) (by omega)];omega
  have hvd:=hv _ (List.getElem_mem hlt);rw [List.drop_eq_getElem_cons hlt,List.flatMap_cons] at hR;obtain ⟨d,hd0⟩:∃ d,d=ds[i]:=⟨_,rfl⟩;rw [<- hd0] at hg hvd hR;have hgm:(ds.map Dc.v)[i]? = some d.v:=by rw [List.getElem?_map,hg];rfl
  unfold A7x at hvd;simp only [Bool.and_eq_true,decide_eq_true_eq] at hvd;obtain ⟨⟨⟨⟨k1,k2⟩,hnm⟩,v1⟩,v2⟩:=hvd;obtain ⟨j,hj⟩:∃ j:Nat,d.kind=1+(j:Int):=⟨(d.kind-1).toNat,by omega⟩;have hwj:IntKind.i64.wrap (d.kind-1)=(j:Int):=by rw [w64 (by omega) (by omega)];omega
  have hjn:(d.kind-1).toNat=j:=by omega
  have hgj:(D7.map DV.str)[j]? = some (.str (D7.getD j [])):=by
   rw [List.getElem?_map,List.getD_eq_getElem?_getD,List.getElem?_eq_getElem (show j<D7.length from (by show j<8;omega))];rfl
  rw [dcL,hjn] at hR;generalize D7.getD j []=kw at hgj hR;repeat' ((with_reducible first|refine wr ?_|refine cpc c_pdecls ?_|refine k_cu ?_ ?_|refine wb2 ?_ ?_<;>(intro hb;try simp only [hb])|fail)<;>try simp only [go_sem,seval,A0,hd,hgm,hw])
  obtain ⟨M,hM⟩:∃ M,M=((D1 (nil.upd 0 (A9w ds ms)) o ⟨1,true,cur.map DV.str⟩).upd c ⟨0,true,[I64 0,.str [],I64 0,I64 0]⟩).upd c ⟨0,true,[I64 d.kind,.str d.name,I64 d.value,I64 d.pos]⟩:=⟨_,rfl⟩;rw [<- hM];have hMn:∀ j,c<j->M j=none:=fun j hj=>by
   rw [hM,A2 (by omega),A2 (by omega)];cases o with
   | none=>rw [opt_n,A2 (by omega)];rfl
   | some id=>have:=ho id rfl;rw [V2,A2 (by omega),A2 (by omega)];rfl
  have hMc:M c=some ⟨0,true,[I64 d.kind,.str d.name,I64 d.value,I64 d.pos]⟩:=by rw [hM];exact A0
  have hM0:M 0=some (A9w ds ms):=by
   rw [hM,A2 (by omega),A2 (by omega)];cases o with
   | none=>exact A0
   | some id=>have:=ho id rfl;rw [V2,A2 (by omega)];exact A0
  have hMo:∀ id,o=some id->M id=some ⟨1,true,cur.map DV.str⟩:=fun id hid=>by
   subst hid;have:=ho id rfl;rw [hM,A2 (by omega),A2 (by omega),V2];exact A0
  clear hM;refine ⟨by and_intros<;>exact hMn _ (by omega),?_⟩;simp only [go_sem,seval,hMc,hwj,hgj];have hcl:cur.length<=1000000000:=by
   have:=congrArg List.length hR;simp only [List.length_append] at this;omega
  refine N8 (F7 (cs:=cur.map DV.str) (fun e=>by rw [hn e];simp) (fun id hid=>by have:=ho id hid;rw [A2 (by omega)];exact hMo id hid) (by simp) (by omega) (by omega) (by omega)) ?_;obtain ⟨x,hx⟩:∃ x,x=c+1+12:=⟨_,rfl⟩;rw [<- hx];obtain ⟨M2,hM2⟩:∃ M2,M2=(Q1 (M.upd (c+1+9) ⟨1,true,[.str kw,.str d.name]⟩) o).upd x ⟨1,true,cur.map DV.str++[.str kw,.str d.name]⟩:=⟨_,rfl⟩;rw [<- hM2];have e0:M2 0=some (A9w ds ms):=by
   rw [hM2,A2 (by omega)];cases o with
   | none=>show (M.upd _ _) 0=_;rw [A2 (by omega)];exact hM0
   | some id=>have:=ho id rfl;rw [P9,if_neg (by omega),A2 (by omega)];exact hM0
  have ec:M2 c=some ⟨0,true,[I64 d.kind,.str d.name,I64 d.value,I64 d.pos]⟩:=by
   rw [hM2,A2 (by omega)];cases o with
   | none=>show (M.upd _ _) c=_;rw [A2 (by omega)];exact hMc
   | some id=>have:=ho id rfl;rw [P9,if_neg (by omega),A2 (by omega)];exact hMc
  have el:M2 x=some ⟨1,true,(cur++[kw,d.name]).map DV.str⟩:=by rw [hM2,A0];simp
  clear hM2;have hxc:c<x:=by omega
  clear hx;obtain ⟨l2,hl2⟩:∃ l2,l2=cur++[kw,d.name]:=⟨_,rfl⟩;rw [<- hl2] at el;have hln:cur.length+2=l2.length:=by rw [hl2];simp
  rw [hln];have hl2l:l2.length<=1000000002:=by omega
  have ne0:=R7 0 c x (x+1) (x+1+1) (by omega);by_cases h7:d.kind<7
  ·have d7:decide (d.kind<7)=true:=by simpa using h7
   rw [if_pos h7] at hR;simp only [go_sem,seval,ec,el];by_cases hng:d.value<0
   ·have dn:decide (d.value<0)=true:=by simpa using hng
    have hwn:IntKind.i64.wrap (0-d.value) = -d.value:=by rw [w64 (by omega) (by split at v1<;>omega)];omega
    have hmx:(if -d.value>d.value then -d.value else d.value) = -d.value:=by rw [if_pos (by omega)]
    rw [if_pos hng,if_pos hng] at hR;repeat' ((with_reducible first|refine wr ?_|refine k_cu ?_ ?_|refine wb2 ?_ ?_<;>(intro hb;try simp only [hb])|fail)<;>try simp only [go_sem,seval,ne0,A0,e0,ec,el,d7,hw,dn,hwn,hmx])
    refine D4 (E4 (by simp) (by omega) (by omega)) ?_;simp only [go_sem,seval,ne0,A0];obtain ⟨f0,fc,f2⟩:=Z0 (y:=x+1) (z:=x+1+1) (x:=x) (a:=⟨1,true,[.str [45]]⟩) (b:=⟨1,true,l2.map DV.str++[.str [45]]⟩) e0 ec (by omega) (by omega) (by omega) (by omega);obtain ⟨M3,hM3⟩:∃ M3,M3=((M2.upd (x+1) ⟨1,true,[.str [45]]⟩).del x).upd (x+1+1) ⟨1,true,l2.map DV.str++[.str [45]]⟩:=⟨_,rfl⟩;rw [<- hM3] at f0 fc f2 ⊢;clear hM3 e0 ec;obtain ⟨l3,hl3⟩:∃ l3,l3=l2++[[45]]:=⟨_,rfl⟩;have el3:M3 (x+1+1)=some ⟨1,true,l3.map DV.str⟩:=by rw [f2,hl3];simp
    clear f2;have e0:=f0;have ec:=fc;clear f0 fc;have hl3n:l2.length+1=l3.length:=by rw [hl3];simp
    rw [hl3n];obtain ⟨x3,hx3⟩:∃ x3,x3=x+1+1:=⟨_,rfl⟩;rw [<- hx3] at el3 ⊢;have ne0:=R7 0 c x3 (x3+1) (x3+1+1) (by omega);repeat' ((with_reducible first|refine wr ?_|refine k_cu ?_ ?_|refine wb2 ?_ ?_<;>(intro hb;try simp only [hb])|fail)<;>try simp only [go_sem,seval,ne0,A0,e0,ec,el3,d7,hw,dn,hwn,hmx])
    refine cpc (c_Itoa (-d.value) (by omega) (by split at v1<;>omega)) ?_;simp only [go_sem,seval,ne0,A0,el3];repeat' ((with_reducible first|refine wr ?_|refine k_cu ?_ ?_|refine wb2 ?_ ?_<;>(intro hb;try simp only [hb])|fail)<;>try simp only [go_sem,seval,ne0,A0,e0,ec,el3,d7,hw])
    refine D4 (E4 (by simp) (by omega) (by omega)) ?_;simp only [go_sem,seval,ne0,A0];obtain ⟨f0,fc,f2⟩:=Z0 (y:=x3+1) (z:=x3+1+1) (x:=x3) (a:=⟨1,true,[.str (G5 (-d.value))]⟩) (b:=⟨1,true,l3.map DV.str++[.str (G5 (-d.value))]⟩) e0 ec (by omega) (by omega) (by omega) (by omega);obtain ⟨M4,hM4⟩:∃ M4,M4=((M3.upd (x3+1) ⟨1,true,[.str (G5 (-d.value))]⟩).del x3).upd (x3+1+1) ⟨1,true,l3.map DV.str++[.str (G5 (-d.value))]⟩:=⟨_,rfl⟩;rw [<- hM4] at f0 fc f2 ⊢;clear hM4 e0 ec;obtain ⟨l4,hl4⟩:∃ l4,l4=l3++[(G5 (-d.value))]:=⟨_,rfl⟩;have el4:M4 (x3+1+1)=some ⟨1,true,l4.map DV.str⟩:=by rw [f2,hl4];simp
    clear f2;have e0:=f0;have ec:=fc;clear f0 fc;have hl4n:l3.length+1=l4.length:=by rw [hl4];simp
    rw [hl4n];obtain ⟨x4,hx4⟩:∃ x4,x4=x3+1+1:=⟨_,rfl⟩;rw [<- hx4] at el4 ⊢;have ne0:=R7 0 c x4 (x4+1) (x4+1+1) (by omega);repeat' ((with_reducible first|refine wr ?_|refine k_cu ?_ ?_|refine wb2 ?_ ?_<;>(intro hb;try simp only [hb])|fail)<;>try simp only [go_sem,seval,ne0,A0,e0,ec,el4,d7,hw])
    refine D4 (E4 (by simp) (by omega) (by omega)) ?_;simp only [go_sem,seval,ne0,A0];repeat' ((with_reducible first|refine wr ?_|refine k_cu ?_ ?_|refine wb2 ?_ ?_<;>(intro hb;try simp only [hb])|fail)<;>try simp only [go_sem,seval,ne0,A0,hw])
    have e1:l4.length+1=(l4++[[59]]).length:=by simp
    rw [e1];obtain ⟨f0, -,f2⟩:=Z0 (y:=x4+1) (z:=x4+1+1) (x:=x4) (a:=⟨1,true,[.str [59]]⟩) (b:=⟨1,true,l4.map DV.str++[.str [59]]⟩) e0 ec (by omega) (by omega) (by omega) (by omega);refine ⟨(i+1,some (x4+1+1),l4++[[59]]),⟨rfl,rfl⟩,GL.less' fun j b hj=>?_,inv ⟨hlt,(fun i h=>by cases h;omega),(fun h=>by cases h),by omega,by simp only;rw [hR,hl4,hl3,hl2];simp⟩,by simp only;omega⟩;simp only [V2] at hj;by_cases e:j=x4+1+1
    ·subst e;rw [A0] at hj;rw [f2, <- hj];simp
    ·rw [A2 e] at hj;by_cases e2:j=0
     ·subst e2;rw [A0] at hj;rw [f0, <- hj]
     ·rw [A2 e2] at hj;cases hj
   ·have dn:decide (d.value<0)=false:=by simpa using hng
    have hwn:IntKind.i64.wrap (0-d.value) = -d.value:=by rw [w64 (by split at v2<;>omega) (by omega)];omega
    have hmx:(if -d.value>d.value then -d.value else d.value)=d.value:=by
     by_cases h0 : -d.value>d.value
     ·omega
     ·rw [if_neg h0]
    rw [if_neg hng,if_neg hng] at hR;repeat' ((with_reducible first|refine wr ?_|refine k_cu ?_ ?_|refine wb2 ?_ ?_<;>(intro hb;try simp only [hb])|fail)<;>try simp only [go_sem,seval,ne0,A0,e0,ec,el,d7,hw,dn,hwn,hmx])
    refine cpc (c_Itoa d.value (by omega) (by split at v2<;>omega)) ?_;simp only [go_sem,seval,ne0,A0,el];repeat' ((with_reducible first|refine wr ?_|refine k_cu ?_ ?_|refine wb2 ?_ ?_<;>(intro hb;try simp only [hb])|fail)<;>try simp only [go_sem,seval,ne0,A0,e0,ec,el,d7,hw])
    refine D4 (E4 (by simp) (by omega) (by omega)) ?_;simp only [go_sem,seval,ne0,A0];obtain ⟨f0,fc,f2⟩:=Z0 (y:=x+1) (z:=x+1+1) (x:=x) (a:=⟨1,true,[.str (G5 d.value)]⟩) (b:=⟨1,true,l2.map DV.str++[.str (G5 d.value)]⟩) e0 ec (by omega) (by omega) (by omega) (by omega);obtain ⟨M4,hM4⟩:∃ M4,M4=((M2.upd (x+1) ⟨1,true,[.str (G5 d.value)]⟩).del x).upd (x+1+1) ⟨1,true,l2.map DV.str++[.str (G5 d.value)]⟩:=⟨_,rfl⟩;rw [<- hM4] at f0 fc f2 ⊢;clear hM4 e0 ec;obtain ⟨l4,hl4⟩:∃ l4,l4=l2++[(G5 d.value)]:=⟨_,rfl⟩;have el4:M4 (x+1+1)=some ⟨1,true,l4.map DV.str⟩:=by rw [f2,hl4];simp
    clear f2;have e0:=f0;have ec:=fc;clear f0 fc;have hl4n:l2.length+1=l4.length:=by rw [hl4];simp
    rw [hl4n];obtain ⟨x4,hx4⟩:∃ x4,x4=x+1+1:=⟨_,rfl⟩;rw [<- hx4] at el4 ⊢;have ne0:=R7 0 c x4 (x4+1) (x4+1+1) (by omega);repeat' ((with_reducible first|refine wr ?_|refine k_cu ?_ ?_|refine wb2 ?_ ?_<;>(intro hb;try simp only [hb])|fail)<;>try simp only [go_sem,seval,ne0,A0,e0,ec,el4,d7,hw])
    refine D4 (E4 (by simp) (by omega) (by omega)) ?_;simp only [go_sem,seval,ne0,A0];repeat' ((with_reducible first|refine wr ?_|refine k_cu ?_ ?_|refine wb2 ?_ ?_<;>(intro hb;try simp only [hb])|fail)<;>try simp only [go_sem,seval,ne0,A0,hw])
    have e1:l4.length+1=(l4++[[59]]).length:=by simp
    rw [e1];obtain ⟨f0, -,f2⟩:=Z0 (y:=x4+1) (z:=x4+1+1) (x:=x4) (a:=⟨1,true,[.str [59]]⟩) (b:=⟨1,true,l4.map DV.str++[.str [59]]⟩) e0 ec (by omega) (by omega) (by omega) (by omega);refine ⟨(i+1,some (x4+1+1),l4++[[59]]),⟨rfl,rfl⟩,GL.less' fun j b hj=>?_,inv ⟨hlt,(fun i h=>by cases h;omega),(fun h=>by cases h),by omega,by simp only;rw [hR,hl4,hl2];simp⟩,by simp only;omega⟩;simp only [V2] at hj;by_cases e:j=x4+1+1
    ·subst e;rw [A0] at hj;rw [f2, <- hj];simp
    ·rw [A2 e] at hj;by_cases e2:j=0
     ·subst e2;rw [A0] at hj;rw [f0, <- hj]
     ·rw [A2 e2] at hj;cases hj
  ·have d7:decide (d.kind<7)=false:=by simpa using h7
   rw [if_neg h7] at hR;simp only [go_sem,seval,ec,el];repeat' ((with_reducible first|refine wr ?_|refine k_cu ?_ ?_|refine wb2 ?_ ?_<;>(intro hb;try simp only [hb])|fail)<;>try simp only [go_sem,seval,ne0,A0,e0,ec,el,d7,hw])
   refine D4 (E4 (by simp) (by omega) (by omega)) ?_;simp only [go_sem,seval,ne0,A0];repeat' ((with_reducible first|refine wr ?_|refine k_cu ?_ ?_|refine wb2 ?_ ?_<;>(intro hb;try simp only [hb])|fail)<;>try simp only [go_sem,seval,ne0,A0,hw])
   have e1:l2.length+1=(l2++[[59]]).length:=by simp
   rw [e1];obtain ⟨f0, -,f2⟩:=Z0 (y:=x+1) (z:=x+1+1) (x:=x) (a:=⟨1,true,[.str [59]]⟩) (b:=⟨1,true,l2.map DV.str++[.str [59]]⟩) e0 ec (by omega) (by omega) (by omega) (by omega);refine ⟨(i+1,some (x+1+1),l2++[[59]]),⟨rfl,rfl⟩,GL.less' fun j b hj=>?_,inv ⟨hlt,(fun i h=>by cases h;omega),(fun h=>by cases h),by omega,by simp only;rw [hR,hl2];simp⟩,by simp only;omega⟩;simp only [V2] at hj;by_cases e:j=x+1+1
   ·subst e;rw [A0] at hj;rw [f2, <- hj];simp
   ·rw [A2 e] at hj;by_cases e2:j=0
    ·subst e2;rw [A0] at hj;rw [f0, <- hj]
    ·rw [A2 e2] at hj;cases hj
 ·have hd:decide ((i:Int)<ds.length)=false:=by simpa using hlt
  rw [List.drop_eq_nil_of_le (by omega),List.flatMap_nil,List.nil_append] at hR;repeat' ((with_reducible first|refine E7 (p:=IW _ _ (pz Tryz.prog 25 (.o (.o (.i (.i (.o .h)))))) _ _) ?_|refine wr ?_|refine k_cu ?_ ?_|refine wb2 ?_ ?_<;>(intro hb;try simp only [hb])|fail)<;>try simp only [go_sem,seval,hd])
  unfold A0g;exact IW.weaken (Q8 (l:=[(1,.ptr 0 0),(3,C2 o cur.length)]) ⟨rfl,rfl,trivial⟩) (Sub.refl _) (next o cur c ho hn hc hR)
abbrev pmdB (m:Md):Blk:=⟨0,true,[.str m.name,I64 m.prio,A8e m.hds,I64 m.pos]⟩
theorem A9l {M:Hp} {x y z c:Nat} {a b Bc:Blk} (hc:M c=some Bc) (h2:¬ c=x) (h3:¬ c=y) (h4:¬ c=z) :
  (((M.upd y a).del x).upd z b) c=some Bc/\(((M.upd y a).del x).upd z b) z=some b:=by
 refine ⟨?_,A0⟩;rw [A2 h4];simp only [Hp.del];rw [if_neg h2,A2 h3];exact hc
theorem c_fmH (m:Md) (Q:Exit->Go.Sym.St->Prop) (a55 a56 a57:DV) (R rest:List (List UInt8)) (hh:m.hds.length<=1000) (hv:∀ h∈m.hds,A3t h=true) (hS:∀ h∈m.hds,Pb.St.szs h.body<=4000000) (hRl:R.length<=1000000000)
  (l:List (List UInt8)) (id b c:Nat) (hid:id<c) (hb:b<c) (hne:¬ b=id) (hR:R=l++(m.hds.flatMap hdPr++rest))
  (next:∀ (id:Nat) (cur:List (List UInt8)) (c2:Nat),id<c2->c<=c2->R=cur++rest ->
   IW Tryz.prog 105 (pz Tryz.prog 25 (.o (.i (.i (.o (.i (.o .h))))))) ⟨tm [(3,.slc id 0 cur.length),(55,a55),(56,a56),(57,a57)],nil.upd id ⟨1,true,cur.map DV.str⟩,c2⟩ Q) :
  IW Tryz.prog 105 (pz Tryz.prog 25 (.i (.o (.i (.i (.i .h)))))) ⟨tm [(3,.slc id 0 l.length),(7,.ptr b 0),(55,a55),(56,a56),(57,a57)],(nil.upd b (pmdB m)).upd id ⟨1,true,l.map DV.str⟩,c⟩ Q:=by
 have hb0:((nil.upd b (pmdB m)).upd id ⟨1,true,l.map DV.str⟩) b=some (pmdB m):=by rw [A2 hne];exact A0
 repeat' ((with_reducible first|refine wr ?_|refine k_cu ?_ ?_|refine wb2 ?_ ?_<;>(intro hb;try simp only [hb])|fail)<;>try simp only [go_sem,seval,hb0])
 refine A0b (fun q:Nat × Nat × List (List UInt8)=>[(3,.slc q.2.1 0 q.2.2.length),(55,a55),(56,a56),(57,a57),(70,A8e m.hds),(71,I64 m.hds.length),(72,I64 q.1)]) (fun q=>nil.upd q.2.1 ⟨1,true,q.2.2.map DV.str⟩)
  (fun q cc=>q.1<=m.hds.length/\q.2.1<cc/\c<=cc/\R=q.2.2++((m.hds.drop q.1).flatMap hdPr++rest)) (fun q=>m.hds.length-q.1) (0,id,l) (fun b=>⟨rfl,rfl,rfl,rfl,rfl,rfl,rfl,trivial⟩) (by simp [C5,tm,Tm.upd]) (fun j b hj=>by
   by_cases e:j=id
   ·subst e;rw [A0] at hj ⊢;exact hj
   ·rw [A2 e] at hj;cases hj) ⟨Nat.zero_le _,hid,Nat.le_refl _,hR⟩ ?_
 clear hR hid hne hb0;rintro ⟨i,id,cur⟩ c3 ⟨hi,hid,hc3,hR⟩;simp only at hi hid hc3 hR;simp only;by_cases hlt:i<m.hds.length
 ·have hd:decide ((i:Int)<m.hds.length)=true:=by simpa using hlt
  have hg:=List.getElem?_eq_getElem hlt;have hw:IntKind.i64.wrap ((i:Int)+1)=((i+1:Nat):Int):=by rw [w64 (by omega) (by omega)];omega
  have hvd:=hv _ (List.getElem_mem hlt);have hsz:=hS _ (List.getElem_mem hlt);rw [List.drop_eq_getElem_cons hlt,List.flatMap_cons] at hR;obtain ⟨h,hh0⟩:∃ h,h=m.hds[i]:=⟨_,rfl⟩;rw [<- hh0] at hg hvd hR hsz;have hgm:(m.hds.map Hd.v)[i]? = some h.v:=by rw [List.getElem?_map,hg];rfl
  have hbk:=c_pblkT h.body (by have:=Pb.St.szs_len h.body;omega) (fun s hs=>by
   unfold A3t A2v at hvd;simp only [Bool.and_eq_true] at hvd;exact c_prStmt _ s 1 (Nat.lt_succ_self _) (by have:=Pb.St.szs_mem hs;omega) (A1f hvd.2.2 s hs)) hsz
  have hbl:(txT (blT h.body)).length<=1000000000:=by
   have:=(B0w h.body).2;unfold txT;rw [List.length_map];omega
  unfold A3t at hvd;simp only [Bool.and_eq_true,decide_eq_true_eq] at hvd;obtain ⟨⟨⟨k1,k2⟩,hnm⟩, -⟩:=hvd;obtain ⟨j,hj⟩:∃ j:Nat,h.trig=1+(j:Int):=⟨(h.trig-1).toNat,by omega⟩;have hwj:IntKind.i64.wrap (h.trig-1)=(j:Int):=by rw [w64 (by omega) (by omega)];omega
  have hjn:(h.trig-1).toNat=j:=by omega
  have hgj:(E1.map DV.str)[j]? = some (.str (E1.getD j [])):=by
   rw [List.getElem?_map,List.getD_eq_getElem?_getD,List.getElem?_eq_getElem (show j<E1.length from (by show j<6;omega))];rfl
  rw [hdPr,hjn] at hR;generalize E1.getD j []=kw at hgj hR;generalize txT (blT h.body)=W at hbk hbl hR;have hcl:cur.length<=1000000000:=by
   have:=congrArg List.length hR;simp only [List.length_append] at this;omega
  repeat' ((with_reducible first|refine wr ?_|refine cpc c_ptrigs ?_|refine k_cu ?_ ?_|refine wb2 ?_ ?_<;>(intro hb;try simp only [hb])|fail)<;>try simp only [go_sem,seval,A0,hd,hgm,hw])
  obtain ⟨M,hM⟩:∃ M,M=((nil.upd id ⟨1,true,cur.map DV.str⟩).upd c3 ⟨0,true,[I64 0,.str [],.snil,I64 0]⟩).upd c3 ⟨0,true,[I64 h.trig,.str h.name,J4 h.body,I64 h.pos]⟩:=⟨_,rfl⟩;rw [<- hM];have hMn:∀ j,c3<j->M j=none:=fun j hj=>by
   rw [hM,A2 (by omega),A2 (by omega),A2 (by omega)];rfl
  have hMc:M c3=some ⟨0,true,[I64 h.trig,.str h.name,J4 h.body,I64 h.pos]⟩:=by rw [hM];exact A0
  have hMo:M id=some ⟨1,true,cur.map DV.str⟩:=by rw [hM,A2 (by omega),A2 (by omega)];exact A0
  clear hM;refine ⟨by and_intros<;>exact hMn _ (by omega),?_⟩;simp only [go_sem,seval,hMc,hMo,hwj,hgj];rw [A2 (show ¬ id=c3+1+7 by omega),hMo];refine N8 (E4 (by simp) (by omega) (by omega)) ?_;obtain ⟨ec,el⟩:=A9l (M:=M) (x:=id) (y:=c3+1+7) (z:=c3+1+10) (c:=c3) (a:=⟨1,true,[.str [111,110],.str kw]⟩) (b:=⟨1,true,cur.map DV.str++[.str [111,110],.str kw]⟩) hMc (by omega) (by omega) (by omega);obtain ⟨M2,hM2⟩:∃ M2,M2=((M.upd (c3+1+7) ⟨1,true,[.str [111,110],.str kw]⟩).del id).upd (c3+1+10) ⟨1,true,cur.map DV.str++[.str [111,110],.str kw]⟩:=⟨_,rfl⟩;rw [<- hM2] at ec el ⊢;clear hM2;obtain ⟨x,hx⟩:∃ x,x=c3+1+10:=⟨_,rfl⟩;rw [<- hx] at el ⊢;have hxc:c3<x:=by omega
  clear hx;obtain ⟨l2,hl2⟩:∃ l2,l2=cur++[[111,110],kw]:=⟨_,rfl⟩;rw [show cur.map DV.str++[.str [111,110],.str kw]=l2.map DV.str by rw [hl2];simp] at el;have hln:cur.length+2=l2.length:=by rw [hl2];simp
  rw [hln];have hl2l:l2.length<=1000000002:=by omega
  have ne0:=A1y c3 x (x+1) (x+1+1) (by omega);by_cases h3:3<=h.trig
  ·have d3:decide (h.trig≥3)=true:=by simpa using h3
   rw [if_pos h3] at hR;simp only [go_sem,seval,ec,el];repeat' ((with_reducible first|refine wr ?_|refine k_cu ?_ ?_|refine wb2 ?_ ?_<;>(intro hb;try simp only [hb])|fail)<;>try simp only [go_sem,seval,ne0,A0,ec,el,d3,hw])
   refine D4 (E4 (by simp) (by omega) (by omega)) ?_;simp only [go_sem,seval,ne0,A0];obtain ⟨fc,f2⟩:=A9l (M:=M2) (x:=x) (y:=x+1) (z:=x+1+1) (c:=c3) (a:=⟨1,true,[.str h.name]⟩) (b:=⟨1,true,l2.map DV.str++[.str h.name]⟩) ec (by omega) (by omega) (by omega);obtain ⟨M3,hM3⟩:∃ M3,M3=((M2.upd (x+1) ⟨1,true,[.str h.name]⟩).del x).upd (x+1+1) ⟨1,true,l2.map DV.str++[.str h.name]⟩:=⟨_,rfl⟩;rw [<- hM3] at fc f2 ⊢;clear hM3 ec;obtain ⟨l3,hl3⟩:∃ l3,l3=l2++[h.name]:=⟨_,rfl⟩;have el3:M3 (x+1+1)=some ⟨1,true,l3.map DV.str⟩:=by rw [f2,hl3];simp
   clear f2;have hl3n:l2.length+1=l3.length:=by rw [hl3];simp
   rw [hl3n];obtain ⟨x3,hx3⟩:∃ x3,x3=x+1+1:=⟨_,rfl⟩;rw [<- hx3] at el3 ⊢;have ne0:=A1y c3 x3 (x3+1) (x3+1+1) (by omega);repeat' ((with_reducible first|refine wr ?_|refine k_cu ?_ ?_|refine wb2 ?_ ?_<;>(intro hb;try simp only [hb])|fail)<;>try simp only [go_sem,seval,ne0,A0,fc,el3,d3,hw])
   refine AC.call (hbk _ _) ?_;rintro _ _ _ ⟨rfl,rfl,rfl⟩ -;have tk:List.take W.length (W.map DV.str)=W.map DV.str:=List.take_of_length_le (by simp);simp only [go_sem,seval,ne0,A0,tk,el3];refine D4 (E4 (by simp) (by omega) (by omega)) ?_;simp only [go_sem,seval,ne0,A0];repeat' ((with_reducible first|refine wr ?_|refine k_cu ?_ ?_|refine wb2 ?_ ?_<;>(intro hb;try simp only [hb])|fail)<;>try simp only [go_sem,seval,ne0,A0,hw])
   have e1:l3.length+W.length=(l3++W).length:=by simp
   rw [e1];refine ⟨(i+1,x3+1+1,l3++W),⟨rfl,rfl⟩,GL.less' fun j b hj=>?_,inv ⟨hlt,by simp only;omega,by omega,by simp only;rw [hR,hl3,hl2];simp⟩,by simp only;omega⟩;simp only at hj;by_cases e:j=x3+1+1
   ·subst e;rw [A0] at hj ⊢;rw [<- hj];simp
   ·rw [A2 e] at hj;cases hj
  ·have d3:decide (h.trig≥3)=false:=by simpa using h3
   rw [if_neg h3] at hR;simp only [go_sem,seval,ec,el];repeat' ((with_reducible first|refine wr ?_|refine k_cu ?_ ?_|refine wb2 ?_ ?_<;>(intro hb;try simp only [hb])|fail)<;>try simp only [go_sem,seval,ne0,A0,ec,el,d3,hw])
   refine AC.call (hbk _ _) ?_;rintro _ _ _ ⟨rfl,rfl,rfl⟩ -;have tk:List.take W.length (W.map DV.str)=W.map DV.str:=List.take_of_length_le (by simp);simp only [go_sem,seval,ne0,A0,tk,el];refine D4 (E4 (by simp) (by omega) (by omega)) ?_;simp only [go_sem,seval,ne0,A0];repeat' ((with_reducible first|refine wr ?_|refine k_cu ?_ ?_|refine wb2 ?_ ?_<;>(intro hb;try simp only [hb])|fail)<;>try simp only [go_sem,seval,ne0,A0,hw])
   have e1:l2.length+W.length=(l2++W).length:=by simp
   rw [e1];refine ⟨(i+1,x+1+1,l2++W),⟨rfl,rfl⟩,GL.less' fun j b hj=>?_,inv ⟨hlt,by simp only;omega,by omega,by simp only;rw [hR,hl2];simp⟩,by simp only;omega⟩;simp only at hj;by_cases e:j=x+1+1
   ·subst e;rw [A0] at hj ⊢;rw [<- hj];simp
   ·rw [A2 e] at hj;cases hj
 ·have hd:decide ((i:Int)<m.hds.length)=false:=by simpa using hlt
  rw [List.drop_eq_nil_of_le (by omega),List.flatMap_nil,List.nil_append] at hR;repeat' ((with_reducible first|refine E7 (p:=IW _ _ (pz Tryz.prog 25 (.o (.i (.i (.o (.i (.o .h))))))) _ _) ?_|refine wr ?_|refine k_cu ?_ ?_|refine wb2 ?_ ?_<;>(intro hb;try simp only [hb])|fail)<;>try simp only [go_sem,seval,hd])
  unfold A0g;exact IW.weaken (Q8 (l:=[(3,.slc id 0 cur.length),(55,a55),(56,a56),(57,a57)]) ⟨rfl,rfl,rfl,rfl,trivial⟩) (Sub.refl _) (next id cur c3 hid hc3 hR)
theorem c_fmM (ds:List Dc) (ms:List Md) (R:List (List UInt8)) (hms:ms.length<=1000) (hv:∀ m∈ms,A1v m=true) (hS:∀ m∈ms, ∀ h∈m.hds,Pb.St.szs h.body<=4000000) (hRl:R.length<=1000000000) (hRb:∀ t∈R,t.length<=100000)
  (o:Option Nat) (l:List (List UInt8)) (c:Nat) (ho:∀ i,o=some i->0<i/\i<c) (hn:o=none->l=[]) (hc:1<=c) (hR:R=l++ms.flatMap mdL) :
  IW Tryz.prog 105 (pz Tryz.prog 25 (.o (.o (.i (.i (.o .h)))))) ⟨tm [(1,.ptr 0 0),(3,C2 o l.length)],D1 (nil.upd 0 (A9w ds ms)) o ⟨1,true,l.map DV.str⟩,c⟩ (rt [.tmp 2] fun v H' _ => ∃ H2,GL H' [v] H2 [.str (R9 R)]):=by
 have h0:(D1 (nil.upd 0 (A9w ds ms)) o ⟨1,true,l.map DV.str⟩) 0=some (A9w ds ms):=by
  cases o with
  | none=>exact A0
  | some id=>have:=ho id rfl;rw [V2,A2 (by omega)];exact A0
 repeat' ((with_reducible first|refine wr ?_|refine k_cu ?_ ?_|refine wb2 ?_ ?_<;>(intro hb;try simp only [hb])|fail)<;>try simp only [go_sem,seval,h0])
 refine A0b (fun q:Nat × Option Nat × List (List UInt8)=>[(3,C2 q.2.1 q.2.2.length),(55,B0l ms),(56,I64 ms.length),(57,I64 q.1)]) (fun q=>D1 Sym.nil q.2.1 ⟨1,true,q.2.2.map DV.str⟩)
  (fun q cc=>q.1<=ms.length/\(∀ i,q.2.1=some i->i<cc)/\(q.2.1=none->q.2.2=[])/\R=q.2.2++(ms.drop q.1).flatMap mdL) (fun q=>ms.length-q.1) (0,o,l) (fun b=>⟨rfl,rfl,rfl,rfl,trivial⟩) (by simp [C5,tm,Tm.upd,C2]) (fun j b hj=>by
   cases o with
   | none=>cases hj
   | some id =>
    simp only [V2] at hj ⊢;by_cases e:j=id
    ·subst e;rw [A0] at hj ⊢;exact hj
    ·rw [A2 e] at hj;cases hj) ⟨Nat.zero_le _,fun i h=>(ho i h).2,hn,hR⟩ ?_
 clear hR hn ho h0;rintro ⟨i,o,cur⟩ c3 ⟨hi,ho,hn,hR⟩;simp only at hi ho hn hR;simp only;by_cases hlt:i<ms.length
 ·have hd:decide ((i:Int)<ms.length)=true:=by simpa using hlt
  have hg:=List.getElem?_eq_getElem hlt;have hw:IntKind.i64.wrap ((i:Int)+1)=((i+1:Nat):Int):=by rw [w64 (by omega) (by omega)];omega
  have hvd:=hv _ (List.getElem_mem hlt);have hsz:=hS _ (List.getElem_mem hlt);rw [List.drop_eq_getElem_cons hlt,List.flatMap_cons] at hR;obtain ⟨m,hm0⟩:∃ m,m=ms[i]:=⟨_,rfl⟩;rw [<- hm0] at hg hvd hR hsz;have hgm:(ms.map Md.v)[i]? = some m.v:=by rw [List.getElem?_map,hg];rfl
  unfold A1v at hvd;simp only [Bool.and_eq_true,decide_eq_true_eq] at hvd;obtain ⟨⟨⟨⟨hnm,p1⟩,p2⟩,hhl⟩,hh⟩:=hvd;have hit:=c_Itoa m.prio (by omega) (by omega);rw [mdL] at hR;have hcl:cur.length<=1000000000:=by
   have:=congrArg List.length hR;simp only [List.length_append] at this;omega
  repeat' ((with_reducible first|refine wr ?_|refine cpc hit ?_|refine k_cu ?_ ?_|refine wb2 ?_ ?_<;>(intro hb;try simp only [hb])|fail)<;>try simp only [go_sem,seval,A0,hd,hgm,hw])
  obtain ⟨M,hM⟩:∃ M,M=((D1 Sym.nil o ⟨1,true,cur.map DV.str⟩).upd c3 ⟨0,true,[.str [],I64 0,.snil,I64 0]⟩).upd c3 ⟨0,true,[.str m.name,I64 m.prio,A8e m.hds,I64 m.pos]⟩:=⟨_,rfl⟩;rw [<- hM];have hMn:∀ j,c3<j->M j=none:=fun j hj=>by
   rw [hM,A2 (by omega),A2 (by omega)];cases o with
   | none=>rfl
   | some id=>have:=ho id rfl;rw [V2,A2 (by omega)];rfl
  have hMc:M c3=some ⟨0,true,[.str m.name,I64 m.prio,A8e m.hds,I64 m.pos]⟩:=by rw [hM];exact A0
  have hMo:∀ id,o=some id->M id=some ⟨1,true,cur.map DV.str⟩:=fun id hid=>by
   subst hid;have:=ho id rfl;rw [hM,A2 (by omega),A2 (by omega),V2];exact A0
  clear hM;refine ⟨by and_intros<;>exact hMn _ (by omega),?_⟩;refine N8 (F7 (cs:=cur.map DV.str) (fun e=>by rw [hn e];simp) (fun id hid=>by have:=ho id hid;rw [A2 (by omega)];exact hMo id hid) (by simp) (by omega) (by omega) (by omega)) ?_;simp only [go_sem,seval];repeat' ((with_reducible first|refine E7 (p:=IW _ _ (pz Tryz.prog 25 (.i (.o (.i (.i (.i .h)))))) _ _) ?_|refine wr ?_|refine k_cu ?_ ?_|refine wb2 ?_ ?_<;>(intro hb;try simp only [hb])|fail)<;>try simp only [go_sem,seval,A0])
  unfold A0g;have e4:cur.length+4=(cur++[[109,111,100,101],m.name,G5 m.prio,[123]]).length:=by simp
  rw [e4];refine IW.weaken (Q8 (l:=[(3,.slc (c3+1+9) 0 (cur++[[109,111,100,101],m.name,G5 m.prio,[123]]).length),(7,.ptr c3 0),(55,B0l ms),(56,I64 ms.length),(57,I64 i)]) ⟨rfl,rfl,rfl,rfl,rfl,trivial⟩) ?_ (c_fmH m _ _ _ _ R ([[125]]++(ms.drop (i+1)).flatMap mdL) (by omega) (fun h hm=>List.all_eq_true.1 hh h hm) hsz hRl (cur++[[109,111,100,101],m.name,G5 m.prio,[123]]) (c3+1+9) c3 _ (by omega) (by omega) (by omega) (by rw [hR];simp) ?_)
  ·intro j b hj;by_cases e:j=c3+1+9
   ·subst e;rw [A0] at hj ⊢;rw [<- hj];simp
   ·rw [A2 e] at hj ⊢;by_cases e2:j=c3
    ·subst e2;rw [A0] at hj;rw [<- hj];cases o with
     | none=>show (M.upd _ _) _=_;rw [A2 (by omega)];exact hMc
     | some id=>have:=ho id rfl;rw [P9,if_neg (by omega),A2 (by omega)];exact hMc
    ·rw [A2 e2] at hj;cases hj
  ·intro id cur2 c4 hid hc4 hR2;have hl2:cur2.length<=1000000000:=by
    have:=congrArg List.length hR2;simp only [List.length_append] at this;omega
   have ne0:=O0 id c4 (c4+1) (by omega);repeat' ((with_reducible first|refine wr ?_|refine k_cu ?_ ?_|refine wb2 ?_ ?_<;>(intro hb;try simp only [hb])|fail)<;>try simp only [go_sem,seval,ne0,A0,hw])
   refine D4 (E4 (by simp) (by omega) (by omega)) ?_;simp only [go_sem,seval,ne0,A0];repeat' ((with_reducible first|refine wr ?_|refine k_cu ?_ ?_|refine wb2 ?_ ?_<;>(intro hb;try simp only [hb])|fail)<;>try simp only [go_sem,seval,ne0,A0,hw])
   have e1:cur2.length+1=(cur2++[[125]]).length:=by simp
   rw [e1];refine ⟨(i+1,some (c4+1),cur2++[[125]]),⟨rfl,rfl⟩,GL.less' fun j b hj=>?_,inv ⟨hlt,(fun i h=>by cases h;omega),(fun h=>by cases h),by simp only;rw [hR2];simp⟩,by simp only;omega⟩;simp only [V2] at hj;by_cases e:j=c4+1
   ·subst e;rw [A0] at hj ⊢;rw [<- hj];simp
   ·rw [A2 e] at hj;cases hj
 ·have hd:decide ((i:Int)<ms.length)=false:=by simpa using hlt
  rw [List.drop_eq_nil_of_le (by omega),List.flatMap_nil,List.append_nil] at hR;subst hR;repeat' ((with_reducible first|refine E7 (p:=IW _ _ (pz Tryz.prog 25 (.o (.o (.o (.i (.i (.o .h))))))) _ _) ?_|refine wr ?_|refine k_cu ?_ ?_|refine wb2 ?_ ?_<;>(intro hb;try simp only [hb])|fail)<;>try simp only [go_sem,seval,hd])
  unfold A0g;exact IW.weaken (Q8 (l:=[(3,C2 o R.length)]) ⟨rfl,trivial⟩) (Sub.refl _) (c_fmZ R o c3 ho hn hRl hRb)
theorem c_PFormat (r:Ru) (hB:r.sz<=3000000):PC Tryz.prog 25 [r.v] (.str (fmtR r)):=by
 have hv:=c_Valid r (by omega);refine PC.ofT A6 rfl (Nat.le_of_ble_eq_true rfl) (by simp [DV.nlL,DV.nl,A1m,A1l]) rfl ?_;unfold fmtR;cases hb:A9o r with
 | false =>
  rw [hb] at hv;rw [if_neg Bool.false_ne_true];repeat' ((with_reducible first|refine wr ?_|refine cpc hv ?_|refine k_cu ?_ ?_|refine wb2 ?_ ?_<;>(intro hb;try simp only [hb])|fail)<;>try simp only [go_sem,seval])
  exact A4 rfl
 | true =>
  rw [hb] at hv;rw [if_pos rfl];have hR:=ru_eq hb;have hsh:=sh_ruT r;have hl:=(ruT_len r).1;have hlen:(txT (ruT r)).length<=1000000000:=by unfold txT;rw [List.length_map];omega
  generalize txT (ruT r)=R at hR hsh hlen ⊢;unfold A9o at hb;simp only [Bool.and_eq_true,decide_eq_true_eq] at hb;obtain ⟨⟨⟨hd,hm⟩,h1⟩,h2⟩:=hb;have hbod:∀ m∈r.modes, ∀ h∈m.hds,Pb.St.szs h.body<=4000000:=fun m hm h hh=>by
   have e1:h.sz<=(m.hds.map Hd.sz).sum:=S2 hh;have e2:m.sz<=(r.modes.map Md.sz).sum:=S2 hm;have e3:h.sz=1+h.name.length+Pb.St.szs h.body:=rfl;have e4:m.sz=1+m.name.length+(m.hds.map Hd.sz).sum:=rfl;have e5:r.sz=(r.decls.map Dc.sz).sum+(r.modes.map Md.sz).sum:=rfl;omega
  repeat' ((with_reducible first|refine E7 (p:=IW _ _ (pz Tryz.prog 25 (.i (.o (.i .h)))) _ _) ?_|refine wr ?_|refine cpc hv ?_|refine k_cu ?_ ?_|refine wb2 ?_ ?_<;>(intro hb;try simp only [hb])|fail)<;>try simp only [go_sem,seval])
  unfold A0g;refine IW.weaken (Q8 (l:=[(1,.ptr 0 0),(3,.snil)]) ⟨rfl,rfl,trivial⟩) (Sub.refl _) ?_;exact c_fmD r.decls r.modes R (r.modes.flatMap mdL) (by omega) (fun d hd=>List.all_eq_true.1 h1 d hd) hlen (fun o cur c ho hn hc hR2=>c_fmM r.decls r.modes R (by omega) (fun m hm=>List.all_eq_true.1 h2 m hm) hbod hlen hsh o cur c ho hn hc hR2) hR
theorem c_TextRb (l:List Tok) (hl:l.length<=10000000) (hx:∀ t∈l,Fit t):PC Tryz.prog 45 [G6 l] (.str (O4 l)):=by
 refine PC.ofT A6 rfl (Nat.le_of_ble_eq_true rfl) (by simp only [DV.nlL,DV.nl,Q9,Bool.and_true]) rfl ?_;repeat' ((with_reducible first|refine wr ?_|refine k_cu ?_ ?_|refine wb2 ?_ ?_<;>(intro hb;try simp only [hb])|fail)<;>try simp only [go_sem,seval])
 refine D6 (fun k:Nat=>[(0,G6 l),(3,.str (P7 spB 0 (l.take k))),(4,I64 k)]) (fun _=>nil) (fun k _=>k<=l.length) (fun k=>l.length-k) 0 (by simp [C5,tm,Tm.upd,P7]) (Sub.nil _) (by simp) ?_;rintro k c hk;by_cases hlt:k<l.length
 ·have hd:decide ((k:Int)<l.length)=true:=by simpa using hlt
  have hg:=List.getElem?_eq_getElem hlt;have hw:IntKind.i64.wrap ((k:Int)+1)=((k+1:Nat):Int):=by rw [w64 (by omega) (by omega)];omega
  have hst:=glue_step (sp:=spB) hg;have hfit:=hx _ (List.getElem_mem hlt);have hal:(P7 spB 0 (l.take k)).length<=200025 * (l.take k).length:=A3v (fun x hx'=>hx x (List.mem_of_mem_take hx'));rw [List.length_take] at hal;obtain ⟨t,ht⟩:∃ t,t=l[k]:=⟨_,rfl⟩;rw [<- ht] at hg hst hfit;obtain ⟨acc,hacc⟩:∃ acc,acc=P7 spB 0 (l.take k):=⟨_,rfl⟩;rw [<- hacc] at hst hal ⊢;have h1:=c_OneR t hfit;have h1l:=oneT_len hfit;by_cases h0:k=0
  ·have hp:decide ((k:Int)>0)=false:=by simp;omega
   have a2:=N9 (s:=acc) (t:=I5 t) (by omega);repeat' ((with_reducible first|refine wr ?_|refine cpc h1 ?_|refine k_cu ?_ ?_|refine wb2 ?_ ?_<;>(intro hb;try simp only [hb])|fail)<;>try simp only [go_sem,seval,hd,hg,hw,hp,a2])
   exact ⟨k+1,⟨by rw [hst,spB,if_pos h0,List.append_nil],rfl⟩,Sub.nil _,inv hlt,by omega⟩
  ·have hp:decide ((k:Int)>0)=true:=by simp;omega
   have a1:=N9 (s:=acc) (t:=[32]) (by rw [List.length_singleton];omega);have a2:=N9 (s:=acc++[32]) (t:=I5 t) (by rw [List.length_append,List.length_singleton];omega);repeat' ((with_reducible first|refine wr ?_|refine cpc h1 ?_|refine k_cu ?_ ?_|refine wb2 ?_ ?_<;>(intro hb;try simp only [hb])|fail)<;>try simp only [go_sem,seval,hd,hg,hw,hp,a1,a2])
   exact ⟨k+1,⟨by rw [hst,spB,if_neg h0],rfl⟩,Sub.nil _,inv hlt,by omega⟩
 ·have hd:decide ((k:Int)<l.length)=false:=by simpa using hlt
  repeat' ((with_reducible first|refine wr ?_|refine k_cu ?_ ?_|refine wb2 ?_ ?_<;>(intro hb;try simp only [hb])|fail)<;>try simp only [go_sem,seval,hd])
  refine A4 ?_;rw [List.take_of_length_le (by omega)];rfl
theorem c_RFormatE (e:Ex) (hB:e.sz<=100000):PC Tryz.prog 32 [e.v] (.str (Y4 e)):=by
 have hv:=c_ValidE31 e (by omega);rw [vdE31_eq] at hv;have hT:=c_exprT _ e (Nat.lt_succ_self _) (by omega);have hl:=(V4 e).2;have hX:=c_TextRb (exT e) (by omega) (fit_exT e);refine PC.ofT A6 rfl (Nat.le_of_ble_eq_true rfl) (by simp [DV.nlL,DV.nl,Ex.nl]) rfl ?_;unfold Y4;cases hb:Q7 e with
 | false =>
  rw [hb] at hv;rw [if_neg Bool.false_ne_true];rw [Ex.v_w] at hv ⊢;repeat' ((with_reducible first|refine wr ?_|refine cpc hv ?_|refine k_cu ?_ ?_|refine wb2 ?_ ?_<;>(intro hb;try simp only [hb])|fail)<;>try simp only [go_sem,seval])
  exact A4 rfl
 | true =>
  rw [hb] at hv;rw [if_pos rfl];rw [Ex.v_w] at hv hT ⊢;repeat' ((with_reducible first|refine wr ?_|refine cpc hv ?_|refine cpc hT ?_|refine cpc hX ?_|refine k_cu ?_ ?_|refine wb2 ?_ ?_<;>(intro hb;try simp only [hb])|fail)<;>try simp only [go_sem,seval])
  exact ⟨_,GL.refl _ _⟩
open Go.Sym
abbrev x13:XT Tryz.prog 13:=mkF (by unfold B5;conv=>lhs;reduce;simp only [seval,u8n]) (fun h=>by conv=>lhs;cbv)
instance t13:FT Tryz.prog 13 x13.d:=x13.ft
abbrev x41:XT Tryz.prog 41:=mkF (by unfold B5;conv=>lhs;reduce;simp only [seval,u8n]) (fun h=>by conv=>lhs;cbv)
instance t41:FT Tryz.prog 41 x41.d:=x41.ft
abbrev x46:XT Tryz.prog 46:=mkF (by unfold B5;conv=>lhs;reduce;simp only [seval,u8n]) (fun h=>by conv=>lhs;cbv)
instance t46:FT Tryz.prog 46 x46.d:=x46.ft
abbrev x20:XT Tryz.prog 20:=mkF (by unfold B5;conv=>lhs;reduce;simp only [seval,u8n]) (fun h=>by conv=>lhs;cbv)
instance t20:FT Tryz.prog 20 x20.d:=x20.ft
abbrev x21:XT Tryz.prog 21:=mkF (by unfold B5;conv=>lhs;reduce;simp only [seval,u8n]) (fun h=>by conv=>lhs;cbv)
instance t21:FT Tryz.prog 21 x21.d:=x21.ft
abbrev x12:XT Tryz.prog 12:=mkF (by unfold B5;conv=>lhs;reduce;simp only [seval,u8n]) (fun h=>by conv=>lhs;cbv)
instance t12:FT Tryz.prog 12 x12.d:=x12.ft
abbrev x27:XT Tryz.prog 27:=mkF (by unfold B5;conv=>lhs;reduce;simp only [seval,u8n]) (fun h=>by conv=>lhs;cbv)
instance t27:FT Tryz.prog 27 x27.d:=x27.ft
abbrev x7:XT Tryz.prog 7:=mkF (by unfold B5;conv=>lhs;reduce;simp only [seval,u8n]) (fun h=>by conv=>lhs;cbv)
instance t7:FT Tryz.prog 7 x7.d:=x7.ft
end Go.Proofs.YthlpinppaclofaaGreatDoor
namespace Go.Pb
variable [Go.Sym.Tab]
open Go.Sym
theorem qu_all (r:List UInt8):∀ t:List UInt8,(∀ c∈t,32<=c.toNat/\c.toNat<=126)->quM (t.flatMap quB++34 :: r)=some (t,(t.flatMap quB).length+1)
 | [],_=>by rw [List.flatMap_nil,List.nil_append,I1,if_pos (by rfl)];rfl
 | c :: t,h=>by
  have ih:=qu_all r t fun x hx=>h x (List.mem_cons_of_mem _ hx);have hc:=h c List.mem_cons_self;rw [List.flatMap_cons];unfold quB;split
  ·rename_i hq;simp only [List.cons_append,List.nil_append];rw [I1,if_neg (by decide),if_neg (by decide),if_pos (by rfl)];simp only;have ih:quM (t.flatMap quB++34 :: r)=some (t,(t.flatMap quB).length+1):=ih;unfold quB at ih;rw [if_pos hq,ih];rfl
  ·rename_i hq;simp only [List.cons_append,List.nil_append];have ih:quM (t.flatMap quB++34 :: r)=some (t,(t.flatMap quB).length+1):=ih;unfold quB at ih;rw [I1,if_neg (by omega),if_neg (by omega),if_neg (by omega),ih];rfl
end Go.Pb
namespace Go.Pb
variable [Go.Sym.Tab]
open Go.Sym
end Go.Pb
namespace Go.Pb
variable [Go.Sym.Tab]
open Go.Sym
def nxK (L:List UInt8) (n i:Nat):Nat × Nat:=if h:i<L.length then ((L[i]).toNat % n,i+1) else (0,i)
def X1:List (List UInt8):=[[115,119,48],[99,111,105,108,48],[108,97,109,112,48],[118,48],[116,109,48],[101,118,48],[109,111,100,101,48],[110,111,110,101],[115,110,100,48],[115,104,111,119,48]]
def nmK (L:List UInt8) (w:Nat) (p:List UInt8) (n i:Nat):List UInt8 × Nat :=
 let a:=nxK L w i
 if 0<w/\a.1+1=w then
  let b:=nxK L 10 a.2
  (X1.getD b.1 [],b.2)
 else
  let b:=nxK L n (if 0<w then a.2 else i)
  (p++G5 (b.1:Int),b.2)
theorem B0i (L:List UInt8) (n i:Nat):i<=(nxK L n i).2:=by unfold nxK;split<;>simp
theorem R6 (L:List UInt8) {n:Nat} (i:Nat) (h:0<n):(nxK L n i).1<n:=by
 unfold nxK;split
 ·exact Nat.mod_lt _ h
 ·exact h
abbrev Mk:=List UInt8 × Nat
def bigL:List (List UInt8):=[[50,49,52,55,52,56,51,54,52,55],[49,48,48,48,48,48,48],[54,53,53,51,54],[49,48,48,48,48,48]]
def aopL:List (List UInt8):=[[43],[45],[42],[47],[37]]
def copL:List (List UInt8):=[[60],[60,61],[62],[62,61],[61,61],[33,61]]
def bl0 (L:List UInt8) (w i:Nat):Mk :=
 let k:=nxK L 5 i
 if k.1=0 then ([116,114,117,101],k.2)
 else if k.1=1 then ([102,97,108,115,101],k.2)
 else if k.1=2 then let a:=nmK L w [109,111,100,101] 3 k.2;([97,99,116,105,118,101,32]++a.1,a.2)
 else let a:=nmK L w [115,119] 4 k.2;([99,108,111,115,101,100,32]++a.1,a.2)
def in1 (L:List UInt8) (w i:Nat):Mk :=
 let k:=nxK L 7 i
 if k.1=0\/k.1=1 then nmK L w [118] 3 k.2
 else if k.1=2 then ([112,108,97,121,101,114],k.2)
 else if k.1=3 then ([98,97,108,108],k.2)
 else if k.1=4 then let a:=nmK L w [116,109] 2 k.2;([108,101,102,116,32]++a.1,a.2)
 else if k.1=5 then let j:=nxK L 4 k.2;(bigL.getD j.1 [],j.2)
 else let j:=nxK L 12 k.2;(G5 (j.1:Int),j.2)
def wlK (L:List UInt8) (w:Nat) (f g:Nat->Mk) (i:Nat):Mk :=
 let k:=nxK L (4 * w) i
 if 0<w/\k.1=1 then f k.2 else g (if 0<w then k.2 else i)
def in0 (L:List UInt8) (w:Nat):Nat->Mk:=wlK L w (bl0 L w) (in1 L w)
mutual
def inK (L:List UInt8) (w:Nat):Nat->Nat->Mk
 | 0,i=>in0 L w i
 | d+1,i=>wlK L w (blK L w d) (fun i =>
   let k:=nxK L 5 i
   if k.1=0 then in0 L w k.2
   else if k.1=1 then let a:=in0 L w k.2;([45]++a.1,a.2)
   else
    let a:=inK L w d k.2
    let c:=inK L w d a.2
    let o:=nxK L 5 c.2
    (((((([40]++a.1)++[32])++aopL.getD o.1 [])++[32])++c.1)++[41],o.2)) i
def blK (L:List UInt8) (w:Nat):Nat->Nat->Mk
 | 0,i=>bl0 L w i
 | d+1,i =>
  let k:=nxK L 6 i
  if k.1=0 then let a:=bl0 L w k.2;([33]++a.1,a.2)
  else if k.1=1 then
   let a:=blK L w d k.2
   let c:=blK L w d a.2
   (((([40]++a.1)++[32,38,38,32])++c.1)++[41],c.2)
  else if k.1=2 then
   let a:=blK L w d k.2
   let c:=blK L w d a.2
   (((([40]++a.1)++[32,124,124,32])++c.1)++[41],c.2)
  else
   let a:=inK L w d k.2
   let o:=nxK L 6 a.2
   let c:=inK L w d o.2
   (((a.1++[32])++copL.getD o.1 [])++[32]++c.1,c.2)
end
end Go.Pb
namespace Go.Pb
variable [Go.Sym.Tab]
open Go.Sym
def bdB (c:UInt8):Bool := !ptB c && decide (c.toNat≠61) && decide (c.toNat≠38) && decide (c.toNat≠124)
def bd:List UInt8->Bool
 | []=>true
 | c :: _=>bdB c
theorem bdB_iff {c:UInt8} (h:bdB c=true):ptB c=false/\c.toNat≠61/\c.toNat≠38/\c.toNat≠124:=by
 simpa [bdB,and_assoc] using h
theorem bd_pt {r:List UInt8} (hr:bd r=true):∀ c q,r=c :: q->ptB c=false:=fun c q e=>by subst e;exact (bdB_iff hr).1
theorem bd_dg {r:List UInt8} (hr:bd r=true):∀ c q,r=c :: q->dgB c=false:=fun c q e=>by
 have:=bd_pt hr c q e;simp only [ptB,Bool.or_eq_false_iff] at this;exact this.1.2
theorem bd_two {c d:UInt8} {q:List UInt8} (h:bd (d :: q)=true):A2w c d=false:=by
 obtain ⟨h0,h1,h2,h3⟩:=bdB_iff h;unfold A2w;rw [Bool.eq_false_iff];intro h4;simp at h4;omega
theorem spn_bd {p:UInt8->Bool}:∀ r:List UInt8,(∀ c q,r=c :: q->p c=false)->B8 p r=0
 | [],_=>rfl
 | c :: r,h=>by simp only [B8];rw [if_neg (by rw [h c r rfl];simp)]
theorem A6i {p:UInt8->Bool} {r:List UInt8} (hr:∀ c q,r=c :: q->p c=false):∀ s:List UInt8,B8 p (s.take (B8 p s)++r)=B8 p s
 | []=>by rw [show B8 p []=0 from rfl,List.take_zero,List.nil_append];exact spn_bd r hr
 | c :: s=>by
  by_cases h:p c=true
  ·have e:B8 p (c :: s)=B8 p s+1:=by simp only [B8];rw [if_pos h]
   rw [e,List.take_succ_cons,List.cons_append];simp only [B8];rw [if_pos h,A6i hr s]
  ·have e:B8 p (c :: s)=0:=by simp only [B8];rw [if_neg h]
   rw [e,List.take_zero,List.nil_append];exact spn_bd r hr
theorem sg_loc2 {r:List UInt8} (hr:bd r=true):∀ {s:List UInt8},D2 s≠0->D2 (s.take (D2 s)++r)=D2 s
 | [],h=>absurd rfl h
 | [c],h=>by
  have ho:A0v c=true:=by
   cases ho:A0v c with
   | true=>rfl
   | false=>simp [D2,ho] at h
  have e:D2 [c]=1:=by simp [D2,ho]
  rw [e,List.take_succ_cons,List.take_zero,List.cons_append,List.nil_append]
  match r,hr with
  | [],_=>exact e
  | d :: r,hr=>simp only [D2];rw [if_neg (by rw [bd_two hr];simp),if_pos ho]
 | c :: d :: q,h=>by
  by_cases h2:A2w c d=true
  ·have e:D2 (c :: d :: q)=2:=by simp only [D2];rw [if_pos h2]
   rw [e,List.take_succ_cons,List.take_succ_cons,List.take_zero];simp only [List.cons_append,List.nil_append,D2];rw [if_pos h2]
  ·have ho:A0v c=true:=by
    cases ho:A0v c with
    | true=>rfl
    | false=>simp only [D2] at h;rw [if_neg h2,if_neg (by rw [ho];simp)] at h;exact absurd rfl h
   have e:D2 (c :: d :: q)=1:=by simp only [D2];rw [if_neg h2,if_pos ho]
   rw [e,List.take_succ_cons,List.take_zero,List.cons_append,List.nil_append]
   match r,hr with
   | [],_=>simp only [D2];rw [if_pos ho]
   | d :: r,hr=>simp only [D2];rw [if_neg (by rw [bd_two hr];simp),if_pos ho]
theorem A8t {s r:List UInt8} (h:(A5 s).err=0) (hr:bd r=true):A5 (s.take (A5 s).n++r)=A5 s:=by
 cases s with
 | nil=>simp [A5,nxE] at h
 | cons c q =>
  obtain ⟨hn1,hn2⟩:=A1n h;obtain ⟨k,hk⟩:∃ k,(A5 (c :: q)).n=k+1:=⟨(A5 (c :: q)).n-1,by omega⟩;have hform:(c :: q).take (A5 (c :: q)).n++r=c :: (q.take k++r):=by rw [hk,List.take_succ_cons,List.cons_append]
  have htk:(c :: (q.take k++r)).take (A5 (c :: q)).n=(c :: q).take (A5 (c :: q)).n:=by rw [<- hform];exact take_app hn2
  have hp:=A6i (p:=ptB) (bd_pt hr) (c :: q);have hg:=A6i (p:=dgB) (bd_dg hr) (c :: q);rw [hform];by_cases hl:ltB c=true
  ·by_cases h12:12<B8 ptB (c :: q)
   ·rw [A5,if_pos hl,if_pos h12] at h;simp [nxE] at h
   ·have e:A5 (c :: q)=⟨if C9 ((c :: q).take (B8 ptB (c :: q)))=true then 2 else 1,(c :: q).take (B8 ptB (c :: q)),0,B8 ptB (c :: q),0⟩:=by rw [A5,if_pos hl,if_neg h12]
    have en:(A5 (c :: q)).n=B8 ptB (c :: q):=by rw [e]
    rw [en] at hform htk;rw [hform] at hp;rw [A5,if_pos hl,hp,if_neg h12,htk,e]
  ·by_cases hd:dgB c=true
   ·by_cases h1:1<B8 dgB (c :: q)/\c.toNat=48
    ·rw [A5,if_neg hl,if_pos hd,if_pos h1] at h;simp [nxE] at h
    ·by_cases h2:2147483647<J7 ((c :: q).take (B8 dgB (c :: q)))
     ·rw [A5,if_neg hl,if_pos hd,if_neg h1,if_pos h2] at h;simp [nxE] at h
     ·have e:A5 (c :: q)=⟨3,[],(J7 ((c :: q).take (B8 dgB (c :: q))):Int),B8 dgB (c :: q),0⟩:=by rw [A5,if_neg hl,if_pos hd,if_neg h1,if_neg h2]
      have en:(A5 (c :: q)).n=B8 dgB (c :: q):=by rw [e]
      rw [en] at hform htk;rw [hform] at hg;rw [A5,if_neg hl,if_pos hd,hg,htk,if_neg h1,if_neg h2,e]
   ·by_cases h34:c.toNat=34
    ·cases hq:quM q with
     | none=>rw [A5,if_neg hl,if_neg hd,if_pos h34,hq] at h;simp [nxE] at h
     | some x =>
      obtain ⟨t,m⟩:=x;by_cases h32:32<t.length
      ·rw [A5,if_neg hl,if_neg hd,if_pos h34,hq] at h;simp only at h;rw [if_pos h32] at h;simp [nxE] at h
      ·have e:A5 (c :: q)=⟨4,t,0,m+1,0⟩:=by rw [A5,if_neg hl,if_neg hd,if_pos h34,hq];simp only;rw [if_neg h32]
       have en:m=k:=by rw [e] at hk;simp only at hk;omega
       subst en;rw [e,A5,if_neg hl,if_neg hd,if_pos h34,qu_loc r hq];simp only;rw [if_neg h32]
    ·by_cases hs:D2 (c :: q)=0
     ·rw [A5,if_neg hl,if_neg hd,if_neg h34,if_pos hs] at h;simp [nxE] at h
     ·have e:A5 (c :: q)=⟨5,(c :: q).take (D2 (c :: q)),0,D2 (c :: q),0⟩:=by rw [A5,if_neg hl,if_neg hd,if_neg h34,if_neg hs]
      have en:(A5 (c :: q)).n=D2 (c :: q):=by rw [e]
      have hsg:=sg_loc2 hr hs;rw [en] at hform htk;rw [hform] at hsg;rw [A5,if_neg hl,if_neg hd,if_neg h34,hsg,if_neg hs,htk,e]
abbrev T3:=Int × List UInt8 × Int
def st3 (t:Tok):T3:=(t.kind,t.text,t.value)
def Lk (r:List UInt8) (tr:List T3):Prop:=∀ (s:List UInt8) (k:Nat),s.drop k=r->∃ l,Z1 s (k+skM false r) l/\l.map st3=tr
theorem Lk_nil:Lk [] []:=by
 intro s k hs;have hl:s.length<=k:=by
  have:=congrArg List.length hs;simp at this;omega
 exact ⟨[],by show s.length<=k+0;omega,rfl⟩
theorem Lk_sep {c:UInt8} {r:List UInt8} {tr:List T3} (hc:S3 c=true) (h:Lk r tr):Lk (c :: r) tr:=by
 intro s k hs;have e:skM false (c :: r)=skM false r+1:=by simp only [skM];rw [if_pos hc]
 rw [e];obtain ⟨l,h1,h2⟩:=h s (k+1) (by rw [<- List.drop_drop,hs];rfl);exact ⟨l,by rw [show k+(skM false r+1)=k+1+skM false r by omega];exact h1,h2⟩
theorem Lk_tok {a r:List UInt8} {K V:Int} {T:List UInt8} {tr:List T3} (hx:A5 (a++r)=⟨K,T,V,a.length,0⟩) (ha:a≠[]) (h:Lk r tr):Lk (a++r) ((K,T,V) :: tr):=by
 intro s k hs;have h0:skM false (a++r)=0:=next_sk (by rw [hx]);rw [h0,Nat.add_zero];have hl:k<s.length:=by
  have:=congrArg List.length hs;have h2:0<a.length:=by cases a with|nil=>exact absurd rfl ha|cons _ _=>simp
  simp at this;omega
 have hd:s.drop (k+a.length)=r:=by rw [<- List.drop_drop,hs,List.drop_left]
 obtain ⟨l,h1,h2⟩:=h s _ hd;refine ⟨nxT (A5 (s.drop k)) (k:Int) :: l,⟨hl,by rw [hs,hx],rfl,by rw [hs,hx];dsimp only;rw [hd];exact h1⟩,?_⟩;rw [List.map_cons,h2,hs,hx];rfl
theorem Z1.uniq {s:List UInt8}:∀ {k:Nat} {l l':List Tok},Z1 s k l->Z1 s k l'->l=l'
 | k,[],[],_,_=>rfl
 | k,[],t :: l',h,h'=>by have h:s.length<=k:=h;have:=h'.1;omega
 | k,t :: l,[],h,h'=>by have h':s.length<=k:=h';have:=h.1;omega
 | k,t :: l,t' :: l',h,h'=>by
  obtain ⟨-, -,h3,h4⟩:=h;obtain ⟨-, -,g3,g4⟩:=h';rw [h3,g3,Z1.uniq h4 g4]
def Pc (b:Bool) (p:List UInt8) (tp:List T3):Prop:=∀ r tr,(b=true->bd r=true)->Lk r tr->Lk (p++r) (tp++tr)
def lexL (b:Bool):Nat->List UInt8->Option (List T3)
 | 0,_=>none
 | _+1,[]=>some []
 | f+1,c :: s=>if S3 c=true then lexL b f s else
  let x:=A5 (c :: s)
  let q:=(c :: s).drop x.n
  if x.err=0/\1<=x.n/\x.n<=(c :: s).length/\bd q=true/\(q=[]->b=true) then (lexL b f q).map fun l=>(x.kind,x.text,x.value) :: l else none
theorem bd_app {q r:List UInt8} (h:bd q=true) (h2:q=[]->bd r=true):bd (q++r)=true:=by
 cases q with
 | nil=>exact h2 rfl
 | cons c q=>exact h
theorem lex_pc {b:Bool}:∀ (f:Nat) (s:List UInt8) (ts:List T3),lexL b f s=some ts->Pc b s ts
 | 0,s,ts,h=>by simp [lexL] at h
 | f+1,[],ts,h=>by
  simp only [lexL] at h;cases h;exact fun r tr _ hr=>hr
 | f+1,c :: s,ts,h=>by
  unfold lexL at h;split at h
  ·rename_i hc;have ih:=lex_pc f s ts h;intro r tr hb hr;exact Lk_sep hc (ih r tr hb hr)
  ·dsimp only at h;split at h
   ·rename_i hx;obtain ⟨h1,h2,h3,h4,h5⟩:=hx;obtain ⟨l,hl,rfl⟩:=Option.map_eq_some_iff.1 h;have ih:=lex_pc f _ l hl;intro r tr hb hr;have hbd:bd ((c :: s).drop (A5 (c :: s)).n++r)=true:=bd_app h4 fun e=>hb (h5 e);have hn:=A8t h1 hbd;rw [<- List.append_assoc,List.take_append_drop] at hn;have hlen:((c :: s).take (A5 (c :: s)).n).length=(A5 (c :: s)).n:=by rw [List.length_take];omega
    have:=Lk_tok (a:=(c :: s).take (A5 (c :: s)).n) (r:=(c :: s).drop (A5 (c :: s)).n++r) (K:=(A5 (c :: s)).kind) (T:=(A5 (c :: s)).text) (V:=(A5 (c :: s)).value) (tr:=l++tr)
     (by rw [<- List.append_assoc,List.take_append_drop,hn,hlen];revert h1;cases A5 (c :: s);intro h1;simp only at h1;rw [h1]) (fun e=>by rw [e] at hlen;simp at hlen;omega) (ih r tr hb hr)
    rw [<- List.append_assoc,List.take_append_drop] at this;exact this
   ·cases h
theorem Pc.app {b b':Bool} {p p':List UInt8} {t t':List T3} (h:Pc b p t) (h':Pc b' p' t') (hb:b=true->∀ r,(b'=true->bd r=true)->bd (p'++r)=true):Pc b' (p++p') (t++t'):=by
 intro r tr hr hl;rw [List.append_assoc,List.append_assoc];exact h _ _ (fun e=>hb e r hr) (h' r tr hr hl)
theorem Pc.lit {b b':Bool} {p:List UInt8} {c:UInt8} {q:List UInt8} {t t':List T3} (h:Pc b p t) (h':Pc b' (c :: q) t') (hc:bdB c=true):Pc b' (p++c :: q) (t++t'):=h.app h' fun _ _ _=>hc
theorem Pc.pre {b':Bool} {p p':List UInt8} {t t':List T3} (h:Pc false p t) (h':Pc b' p' t'):Pc b' (p++p') (t++t'):=h.app h' fun e=>by cases e
theorem Pc.toks {b:Bool} {s:List UInt8} {ts:List T3} (h:Pc b s ts) (h0:(B4 s).2.2=0):(B4 s).1.map st3=ts:=by
 have:=h [] [] (fun _=>rfl) Lk_nil;rw [List.append_nil,List.append_nil] at this;obtain ⟨l,h1,h2⟩:=this s 0 rfl;rw [Nat.zero_add] at h1;rw [(A0r h0).2.uniq h1,h2]
theorem Pc.scan {b:Bool} {s:List UInt8} {ts:List T3} (h:Pc b s ts) (hl:s.length<=20000):(B4 s).2.2=0:=by
 have:=h [] [] (fun _=>rfl) Lk_nil;rw [List.append_nil,List.append_nil] at this;obtain ⟨l,h1,h2⟩:=this s 0 rfl;rw [Nat.zero_add] at h1;rw [reads_scanM hl h1]
end Go.Pb
set_option maxHeartbeats 1000000
namespace Go.Pb
variable [Go.Sym.Tab]
open Go.Sym
structure Rq (s m:Rd):Prop where
 i:s.i=m.i
 e:s.e=m.e
 ops:s.ops=m.ops
 par:s.par=m.par
def OR {α : Type} (R : α -> α -> Prop):Option (α × Rd)->Option (α × Rd)->Prop
 | none,none=>True
 | some x,some y=>R x.1 y.1/\Rq x.2 y.2
 | _,_=>False
theorem OR.cas {α : Type} {R : α -> α -> Prop} {a b:Option (α × Rd)} (h:OR R a b):(a=none/\b=none)\/∃ x s y m,a=some (x,s)/\b=some (y,m)/\R x y/\Rq s m:=by
 match a,b,h with
 | none,none,_=>exact .inl ⟨rfl,rfl⟩
 | some (x,s),some (y,m),h=>exact .inr ⟨x,s,y,m,rfl,rfl,h.1,h.2⟩
abbrev PE (e e':Ex):Prop:=e.plain=e'.plain
theorem PE.mk {k v p p':Int} {n:List UInt8} {a a':List Ex} (h:Ex.plains a=Ex.plains a'):PE (.mk k v n a p) (.mk k v n a' p'):=by unfold PE;rw [Ex.plain,Ex.plain,h]
theorem ex1 {e e':Ex} (h:PE e e'):Ex.plains [e]=Ex.plains [e']:=by simp only [Ex.plains];rw [h]
theorem ex2 {e e' x x':Ex} (h:PE e e') (k:PE x x'):Ex.plains [e,x]=Ex.plains [e',x']:=by simp only [Ex.plains];rw [h,k]
theorem Rq.ok {s m:Rd} (h:Rq s m):okR s=okR m:=by unfold okR;rw [h.e]
theorem Rq.refl (s:Rd):Rq s s:=⟨rfl,rfl,rfl,rfl⟩
theorem Rq.fail {s m:Rd} (h:Rq s m) (p p' e:Int):Rq (G3 s p e) (G3 m p' e):=by
 unfold G3;rw [h.ok];split
 ·exact ⟨h.i,rfl,h.ops,h.par⟩
 ·exact h
theorem Rq.nxt {s m:Rd} (h:Rq s m):Rq (B3 s) (B3 m):=⟨by show s.i+1=m.i+1;rw [h.i],h.e,h.ops,h.par⟩
section
variable {L L':List Tok} {E E':Int} (hL:L.map st3=L'.map st3)
include hL
theorem rq_len:L.length=L'.length:=by have:=congrArg List.length hL;simpa using this
theorem A5m {s m:Rd} (h:Rq s m):st3 (A3 L E s)=st3 (A3 L' E' m):=by
 unfold A3;rw [<- h.i,List.getD_eq_getElem?_getD,List.getD_eq_getElem?_getD];have hi:=congrArg (fun l=>l[s.i]?) hL;simp only [List.getElem?_map] at hi
 revert hi
 cases L[s.i]? with
 | none=>cases L'[s.i]? with
  | none=>intro _;rfl
  | some y=>intro hi;cases hi
 | some x=>cases L'[s.i]? with
  | none=>intro hi;cases hi
  | some y=>intro hi;exact Option.some.inj hi
theorem A9x {s m:Rd} (h:Rq s m):(A3 L E s).kind=(A3 L' E' m).kind:=congrArg (fun t:T3=>t.1) (A5m (E:=E) (E':=E') hL h)
theorem rq_text {s m:Rd} (h:Rq s m):(A3 L E s).text=(A3 L' E' m).text:=congrArg (fun t:T3=>t.2.1) (A5m (E:=E) (E':=E') hL h)
theorem rq_val {s m:Rd} (h:Rq s m):(A3 L E s).value=(A3 L' E' m).value:=congrArg (fun t:T3=>t.2.2) (A5m (E:=E) (E':=E') hL h)
theorem rq_is {s m:Rd} (h:Rq s m) (x:List UInt8):isR L E s x=isR L' E' m x:=by
 unfold isR;rw [h.ok,A9x (E:=E) (E':=E') hL h,rq_text (E:=E) (E':=E') hL h]
theorem rq_isK {s m:Rd} (h:Rq s m) (k:Int):F2 L E s k=F2 L' E' m k:=by
 unfold F2;rw [h.ok,A9x (E:=E) (E':=E') hL h]
theorem rq_amgA {s m:Rd} (h:Rq s m):∀ (l:List (List UInt8)) (k:Nat),P5 L E s k l=P5 L' E' m k l
 | [],k=>rfl
 | t :: l,k=>by rw [P5,P5,rq_is (E:=E) (E':=E') hL h,rq_amgA h l]
theorem rq_amg {s m:Rd} (h:Rq s m) (l:List (List UInt8)):B7 L E s l=B7 L' E' m l:=rq_amgA (E:=E) (E':=E') hL h l 0
theorem Rq.syn {s m:Rd} (h:Rq s m):Rq (K8 L E s) (K8 L' E' m):=h.fail _ _ _
theorem Rq.lim {s m:Rd} (h:Rq s m) (n most e:Int):Rq (C0 L E s n most e) (C0 L' E' m n most e):=by
 unfold C0;split
 ·exact h.fail _ _ _
 ·exact h
theorem Rq.exp {s m:Rd} (h:Rq s m) (x:List UInt8):Rq (C7 L E s x) (C7 L' E' m x):=by
 unfold C7;rw [rq_is (E:=E) (E':=E') hL h];split
 ·exact h.syn hL
 ·exact h.nxt
theorem Rq.take {s m:Rd} (h:Rq s m) (k:Int):Rq (A9 L E s k).2 (A9 L' E' m k).2/\st3 (A9 L E s k).1=st3 (A9 L' E' m k).1:=by
 unfold A9;rw [rq_isK (E:=E) (E':=E') hL h];split
 ·exact ⟨h.syn hL,rfl⟩
 ·exact ⟨h.nxt,A5m (E:=E) (E':=E') hL h⟩
theorem rq_ttext {s m:Rd} (h:Rq s m) (k:Int):(A9 L E s k).1.text=(A9 L' E' m k).1.text:=congrArg (fun t:T3=>t.2.1) (h.take hL k).2
theorem rq_prim {s m:Rd} (h:Rq s m):PE (E6 L E s).1 (E6 L' E' m).1/\Rq (E6 L E s).2 (E6 L' E' m).2:=by
 unfold E6;dsimp only;have h1:Rq { s with ops:=s.ops+1 } { m with ops:=s.ops+1 }:=⟨h.i,h.e,rfl,h.par⟩;have h2:=h1.lim hL (s.ops+1) 32 9 (E:=E) (E':=E');rw [rq_amg (E:=E) (E':=E') hL h D8,rq_isK (E:=E) (E':=E') hL h 3,rq_isK (E:=E) (E':=E') hL h 1, <- h.ops];split
 ·exact ⟨rfl,h.syn hL⟩
 rw [h2.ok];split
 ·exact ⟨rfl,h2⟩
 split
 ·split
  ·rw [rq_ttext (E:=E) (E':=E') hL h2.nxt 1];exact ⟨PE.mk rfl,(h2.nxt.take hL 1).1⟩
  ·exact ⟨PE.mk rfl,h2.nxt⟩
 rw [A9x (E:=E) (E':=E') hL h,rq_val (E:=E) (E':=E') hL h,rq_text (E:=E) (E':=E') hL h];split
 ·exact ⟨PE.mk rfl,h2.nxt⟩
 ·exact ⟨PE.mk rfl,h2.nxt⟩
theorem RE.all:∀ f:Nat,(∀ n s m,Rq s m->OR PE (D3 L E f n s) (D3 L' E' f n m))/\(∀ n e e' s m,PE e e'->Rq s m->OR PE (F9 L E f n e s) (F9 L' E' f n e' m))/\(∀ s m,Rq s m->OR PE (G8 L E f s) (G8 L' E' f m))
 | 0=>⟨fun _ _ _ _=>trivial,fun _ _ _ _ _ _ _=>trivial,fun _ _ _=>trivial⟩
 | f+1=>by
  obtain ⟨hb,hl,hu⟩:=RE.all f;refine ⟨fun n s m h=>?_,fun n e e' s m he h=>?_,fun s m h=>?_⟩
  ·rw [D3,D3];split
   ·exact hu s m h
   rcases (hb (n+1) s m h).cas with ⟨e1,e2⟩|⟨x,s1,y,m1,e1,e2,hx,h1⟩
   ·rw [e1,e2];trivial
   ·rw [e1,e2];exact hl n x y s1 m1 hx h1
  ·rw [F9,F9];dsimp only;rw [rq_amg (E:=E) (E':=E') hL h B6];split
   ·exact ⟨he,h⟩
   rcases (hb (n+1) _ _ h.nxt).cas with ⟨e1,e2⟩|⟨x,s1,y,m1,e1,e2,hx,h1⟩
   ·rw [e1,e2];trivial
   ·rw [e1,e2];dsimp only;have hp:PE (.mk (12+B7 L' E' m B6) 0 [] [e,x] (A3 L E s).pos) (.mk (12+B7 L' E' m B6) 0 [] [e',y] (A3 L' E' m).pos):=PE.mk (ex2 he hx);split
    ·exact ⟨hp,h1⟩
    ·exact hl n _ _ s1 m1 hp h1
  ·rw [G8,G8];dsimp only;have h2:=h.lim hL (s.par+1) 16 50 (E:=E) (E':=E');rw [rq_amg (E:=E) (E':=E') hL h J1, <- h.par];split
   ·exact rq_prim hL h
   rw [h2.ok];split
   ·exact ⟨rfl,h2⟩
   have h3:Rq { C0 L E s (s.par+1) 16 50 with i:=(C0 L E s (s.par+1) 16 50).i+1,par:=(C0 L E s (s.par+1) 16 50).par+1 } { C0 L' E' m (s.par+1) 16 50 with i:=(C0 L' E' m (s.par+1) 16 50).i+1,par:=(C0 L' E' m (s.par+1) 16 50).par+1 } :=
    ⟨by show _+1=_+1;rw [h2.i],h2.e,h2.ops,by show _+1=_+1;rw [h2.par]⟩
   split
   ·rcases (hb 1 _ _ h3).cas with ⟨e1,e2⟩|⟨x,s1,y,m1,e1,e2,hx,h1⟩
    ·rw [e1,e2];trivial
    ·rw [e1,e2];have h4:=h1.exp hL [41] (E:=E) (E':=E');exact ⟨hx,h4.i,h4.e,h4.ops,by show _-1=_-1;rw [h4.par]⟩
   ·rcases (hu _ _ h3).cas with ⟨e1,e2⟩|⟨x,s1,y,m1,e1,e2,hx,h1⟩
    ·rw [e1,e2];trivial
    ·rw [e1,e2];exact ⟨PE.mk (ex1 hx),h1.i,h1.e,h1.ops,by show _-1=_-1;rw [h1.par]⟩
theorem rq_expn {s m:Rd} (h:Rq s m) (f:Nat):OR PE (F4 L E f s) (F4 L' E' f m):=(RE.all hL f).1 1 _ _ ⟨h.i,h.e,rfl,rfl⟩
theorem xpnF_rel:(J3 L E).1.plain=(J3 L' E').1.plain/\Rq (J3 L E).2 (J3 L' E').2:=by
 obtain ⟨N,h1⟩:=W3 L E;obtain ⟨N',h2⟩:=W3 L' E';have h:=rq_expn hL (E:=E) (E':=E') (Rq.refl rd0) (max N N');have a1:F4 L E (max N N') rd0=some _:=h1 _ (Nat.le_max_left ..);have a2:F4 L' E' (max N N') rd0=some _:=h2 _ (Nat.le_max_right ..);rw [a1,a2] at h;exact h
end
end Go.Pb
namespace Go.Pb
variable [Go.Sym.Tab]
open Go.Sym
theorem dg_dig {d:Nat} (h:d<10):dgB (S8 d)=true/\(S8 d).toNat=48+d:=by
 have e:(S8 d).toNat=48+d:=by unfold S8;simp;omega
 exact ⟨by simp [dgB,e];omega,e⟩
theorem dec_facts:∀ (m n:Nat),n<m->(∀ c∈A3m n,dgB c=true)/\J7 (A3m n)=n/\∃ c r,A3m n=c :: r/\(0<n->c.toNat≠48):=by
 intro m
 induction m with
 | zero=>intro n h;omega
 | succ m ih =>
  intro n h;by_cases h0:n<10
  ·obtain ⟨h1,h2⟩:=dg_dig h0;rw [A0d h0];refine ⟨fun c hc=>by rw [List.mem_singleton.1 hc];exact h1,?_,_,_,rfl,fun hp=>by omega⟩;show 10 * 0+((S8 n).toNat-48)=n;omega
  ·obtain ⟨i1,i2,c,r,i3,i4⟩:=ih (n / 10) (by omega);obtain ⟨h1,h2⟩:=dg_dig (d:=n % 10) (by omega);rw [A3l h0];refine ⟨fun c hc=>?_,?_,c,r++[S8 (n % 10)],by rw [i3];rfl,fun _=>i4 (by omega)⟩
   ·rcases List.mem_append.1 hc with hc|hc
    ·exact i1 c hc
    ·rw [List.mem_singleton.1 hc];exact h1
   ·rw [numV_app,i2,h2];omega
theorem spn_all {p:UInt8->Bool}:∀ {s:List UInt8},(∀ c∈s,p c=true)->B8 p s=s.length
 | [],_=>rfl
 | c :: r,h=>by
  rw [B8,if_pos (h c List.mem_cons_self),spn_all fun x hx=>h x (List.mem_cons_of_mem _ hx)];rfl
def LxT (t:Tok):Prop:=Pc true (I5 t) [st3 t]
theorem lx_of {t:Tok} (h:A5 (I5 t)=⟨t.kind,t.text,t.value,(I5 t).length,0⟩) (h0:I5 t≠[]):LxT t:=fun r tr hb hr=>by
 have h1:=A8t (s:=I5 t) (r:=r) (by rw [h]) (hb rfl);rw [h] at h1;dsimp only at h1;rw [List.take_of_length_le (Nat.le_refl _)] at h1;exact Lk_tok h1 h0 hr
theorem lx_name {n:List UInt8} (h:C4 n=true):LxT ⟨1,n,0,0⟩:=by
 refine lx_of (t:=⟨1,n,0,0⟩) ?_ ?_
 ·show A5 n=⟨1,n,0,n.length,0⟩;unfold C4 at h;simp only [Bool.and_eq_true,decide_eq_true_eq,Bool.not_eq_true'] at h;obtain ⟨⟨⟨⟨h1,h2⟩,h3⟩,h4⟩,h5⟩:=h;cases n with
  | nil=>simp at h1
  | cons c r =>
   have h3:ltB c=true:=h3;rw [A5,if_pos h3,h4,if_neg (by omega),List.take_length,h5];rfl
 ·rintro rfl;exact absurd h (by decide)
theorem lx_num {v:Int} (h0:0<=v) (h1:v<=2147483647):LxT ⟨3,[],v,0⟩:=by
 obtain ⟨d1,d2,c,r,d3,d4⟩:=dec_facts (v.toNat+1) v.toNat (by omega);have ho:I5 ⟨3,[],v,0⟩=A3m v.toNat:=by
  show G5 v=_;unfold G5;rw [if_neg (by omega)]
  congr 1
  omega
 refine lx_of (t:=⟨3,[],v,0⟩) ?_ (by rw [ho,d3];simp);rw [ho];have hc:dgB c=true:=d1 c (by rw [d3];exact List.mem_cons_self);have hl:ltB c=false:=by
  cases hz:ltB c with
  | false=>rfl
  | true=>simp only [ltB,dgB,Bool.or_eq_true,Bool.and_eq_true,decide_eq_true_eq] at hz hc;omega
 have hs:=spn_all d1;rw [d3] at hs d2 ⊢;rw [A5,if_neg (by rw [hl];decide),if_pos hc,hs,List.take_length,d2,if_neg ?_,if_neg (by omega)]
 ·rw [Int.toNat_of_nonneg h0]
 ·rintro ⟨g1,g2⟩;by_cases hv:0<v.toNat
  ·exact d4 hv g2
  ·have:v.toNat=0:=by omega
   rw [this,A0d (by decide)] at d3;cases d3;simp at g1
theorem lx_txt {x:List UInt8} (h:S0 x=true):LxT ⟨4,x,0,0⟩:=by
 unfold S0 at h;rw [Bool.and_eq_true,decide_eq_true_eq] at h;have hq:=qu_all [] x fun c hc=>by
  have:=List.all_eq_true.1 h.1 c hc;simpa [txB] using this
 refine lx_of (t:=⟨4,x,0,0⟩) ?_ (by show 34 :: _≠[];simp);show A5 (34 :: (x.flatMap quB++[34]))=⟨4,x,0,(34 :: (x.flatMap quB++[34])).length,0⟩;rw [A5,if_neg (by decide),if_neg (by decide),if_pos (by rfl),hq];dsimp only;rw [if_neg (by omega)];simp
def kwL:List (List UInt8):=D7++E1++C1++B6++D8++J1++[[41],[59],[44],[61],[123],[125],[101,108,115,101],[109,111,100,101],[111,110]]
theorem kw_lex:∀ w∈kwL,lexL true 100 w=some [st3 (B1 w)]:=by decide +kernel
theorem lx_word {w:List UInt8} (h:w∈kwL):LxT (B1 w):=by
 have:=lex_pc (b:=true) _ _ _ (kw_lex w h);unfold LxT;rw [I3];exact this
structure Clv (Q:Tok->Prop):Prop where
 w:∀ x∈kwL,Q (B1 x)
 n:∀ x,C4 x=true->Q ⟨1,x,0,0⟩
 v:∀ x,0<=x->x<=2147483647->Q ⟨3,[],x,0⟩
 t:∀ x,S0 x=true->Q ⟨4,x,0,0⟩
theorem clv_lx:Clv LxT:=⟨fun _ h=>lx_word h,fun _ h=>lx_name h,fun _ h1 h2=>lx_num h1 h2,fun _ h=>lx_txt h⟩
theorem kw_sign:∀ j:Nat,j<13->B6.getD j []∈kwL:=by decide +kernel
section
variable {Q:Tok->Prop} (C:Clv Q)
include C
theorem v_w {x:List UInt8} (h:x∈kwL):F3 Q [B1 x]:=fun t ht=>by obtain rfl:=List.mem_singleton.1 ht;exact C.w x h
theorem v_n {x:List UInt8} (h:C4 x=true):F3 Q (D5 x):=fun t ht=>by
 unfold D5 at ht;rw [if_neg (by rw [h];decide)] at ht;obtain rfl:=List.mem_singleton.1 ht;exact C.n x h
theorem v_v {x:Int} (h0:0<=x) (h1:x<=2147483647):F3 Q (Y0 x):=fun t ht=>by
 unfold Y0 at ht;rw [if_neg (by omega)] at ht;obtain rfl:=List.mem_singleton.1 ht;exact C.v x h0 h1
theorem va {a b:List Tok} (h1:F3 Q a) (h2:F3 Q b):F3 Q (a++b):=fun t ht=>by
 rcases List.mem_append.1 ht with h|h
 ·exact h1 t h
 ·exact h2 t h
theorem v_oper {q:Int × List Tok} {m:Int} (h:F3 Q q.2):F3 Q (C6 q m):=by
 unfold C6;split
 ·exact va C (va C (v_w C (by decide)) h) (v_w C (by decide))
 ·exact h
theorem v_exT':∀ (m:Nat) (e:Ex),e.sz<m->(∃ o d,msM e=some (o,d))->F3 Q (exT e):=by
 intro m
 induction m with
 | zero=>intro e h;omega
 | succ m ih =>
 rintro ⟨k,v,n,a,p⟩ hm ⟨o,d,hms⟩;obtain ⟨h1,h2,h3,h4,h5,h6⟩:=B0k hms;have hlr:=O5 k;have hcnt:G1 k=if A8 k=6 then 1 else if A8 k<6 then 2 else 0:=rfl
 rw [A4d];unfold D9;dsimp only;have hvl:k=1->0<=v/\v<=2147483647:=fun hk=>by
  unfold U8 at h4;simp only [Bool.or_eq_true,Bool.and_eq_true,beq_iff_eq,decide_eq_true_eq] at h4;omega
 have hnm:k=2\/W6 k=true->C4 n=true:=fun hk=>by unfold T9 at h3;rw [if_pos hk] at h3;exact h3
 by_cases k1:k=1
 ·rw [if_pos k1];exact v_v C (hvl k1).1 (hvl k1).2
 rw [if_neg k1];by_cases k2:k=2
 ·rw [if_pos k2];exact v_n C (hnm (.inl k2))
 rw [if_neg k2];by_cases k3:k=3
 ·rw [if_pos k3];exact v_w C (by decide)
 rw [if_neg k3];by_cases k4:k=4
 ·rw [if_pos k4];exact v_w C (by decide)
 rw [if_neg k4];by_cases k8:k=8
 ·rw [if_pos k8];exact v_w C (by decide)
 rw [if_neg k8];by_cases k9:k=9
 ·rw [if_pos k9];exact v_w C (by decide)
 rw [if_neg k9];by_cases k5:k=5
 ·rw [if_pos k5];exact va C (v_w C (by decide)) (v_n C (hnm (.inr (by subst k5;rfl))))
 rw [if_neg k5];by_cases k6:k=6
 ·rw [if_pos k6];exact va C (v_w C (by decide)) (v_n C (hnm (.inr (by subst k6;rfl))))
 rw [if_neg k6];by_cases k7:k=7
 ·rw [if_pos k7];exact va C (v_w C (by decide)) (v_n C (hnm (.inr (by subst k7;rfl))))
 rw [if_neg k7];have hlev:A8 k<7:=by
  unfold kOk at h1;simp only [Bool.or_eq_true,Bool.and_eq_true,decide_eq_true_eq] at h1;rcases h1 with h1|h1
  ·exact h1
  ·unfold A8;repeat' split
   all_goals omega
 have hkr:=A7c hlev;have hc0:G1 k≠0:=by
  rw [hcnt];by_cases g:A8 k=6
  ·rw [if_pos g];decide
  ·rw [if_neg g,if_pos (by omega)];decide
 obtain ⟨d',hml, -⟩:=h6 hc0;have hargs:∀ x∈a,F3 Q (exT x):=fun x hx=>ih x (by have:=Ex.sz_arg (e:=.mk k v n a p) hx;omega) (A6x hml x hx);by_cases g:A8 k=6
 ·rw [hcnt,if_pos g] at h2;obtain ⟨x,rfl⟩:∃ x,a=[x]:=List.length_eq_one_iff.1 h2;simp only [List.map_cons,List.map_nil];rw [if_pos g];refine va C ?_ (v_oper C (hargs x List.mem_cons_self));by_cases h10:k=10
  ·rw [if_pos h10];exact v_w C (by decide)
  ·rw [if_neg h10];exact v_w C (by decide)
 ·rw [hcnt,if_neg g,if_pos (by omega)] at h2;obtain ⟨x,y,rfl⟩:=len_two h2;simp only [List.map_cons,List.map_nil];rw [if_pos (by omega)];refine va C (va C (v_oper C (hargs x List.mem_cons_self)) (v_w C (kw_sign _ ?_))) (v_oper C (hargs y (List.mem_cons_of_mem _ List.mem_cons_self)));have:k≠10/\k≠11:=⟨fun h=>g (Q4 (.inl h)),fun h=>g (Q4 (.inr h))⟩;omega
theorem v_exT {e:Ex} (h:Q7 e=true):F3 Q (exT e):=by
 refine v_exT' C (e.sz+1) e (Nat.lt_succ_self _) ?_;unfold Q7 at h;split at h
 ·rename_i o d hm;exact ⟨o,d,hm⟩
 ·cases h
end
theorem pc_sp {c:UInt8} (h:S3 c=true):Pc false [c] []:=fun r tr _ hr=>Lk_sep h hr
theorem pc_nil {b:Bool}:Pc b [] []:=fun r tr _ hr=>hr
theorem pc_join:∀ {l:List Tok},F3 LxT l->Pc true (Lib.joinTail [32] (txT l)) (l.map st3)
 | [],_=>pc_nil
 | t :: l,h=>by
  have h1:Pc true (I5 t) [st3 t]:=h t List.mem_cons_self;have h2:=pc_join (l:=l) fun x hx=>h x (List.mem_cons_of_mem _ hx);have h3:Pc true (I5 t++Lib.joinTail [32] (txT l)) (st3 t :: l.map st3):=by
   cases l with
   | nil=>simpa [txT,Lib.joinTail] using h1
   | cons u l =>
    have e:Lib.joinTail [32] (txT (u :: l))=32 :: (I5 u++Lib.joinTail [32] (txT l)):=by simp [txT,Lib.joinTail]
    rw [e] at h2 ⊢;exact h1.lit h2 (by decide)
  have h4:=(pc_sp (c:=32) (by decide)).pre h3;simpa [txT,Lib.joinTail] using h4
theorem pc_text {l:List Tok} (h:F3 LxT l):Pc true (Lib.join (txT l) [32]) (l.map st3):=by
 cases l with
 | nil=>exact pc_nil
 | cons t l =>
  have h1:Pc true (I5 t) [st3 t]:=h t List.mem_cons_self;have h2:=pc_join (l:=l) fun x hx=>h x (List.mem_cons_of_mem _ hx);cases l with
  | nil=>simpa [txT,Lib.join,Lib.joinTail] using h1
  | cons u l =>
   have e:Lib.joinTail [32] (txT (u :: l))=32 :: (I5 u++Lib.joinTail [32] (txT l)):=by simp [txT,Lib.joinTail]
   have e2:Lib.join (txT (t :: u :: l)) [32]=I5 t++Lib.joinTail [32] (txT (u :: l)):=by rw [txT,List.map_cons,Lib.join_cons];rfl
   rw [e2];rw [e] at h2 ⊢;exact h1.lit h2 (by decide)
end Go.Pb
namespace Go.Pb
variable [Go.Sym.Tab]
open Go.Sym
theorem lines_ne {l:List (List UInt8)} (h:l≠[]):R9 l≠[]:=by
 cases l with
 | nil=>exact absurd rfl h
 | cons w l =>
  unfold R9 lnT;rw [List.map_cons,List.flatten_cons];split<;>simp
theorem ruT_ne {r:Ru} (h:r≠⟨[],[]⟩):ruT r≠[]:=by
 unfold ruT;split
 ·simp
 obtain ⟨D,M⟩:=r;dsimp only;intro e;rw [List.append_eq_nil_iff] at e;cases D with
 | cons d D =>
  have h1:=e.1;rw [List.flatMap_cons,List.append_eq_nil_iff] at h1;have h2:=h1.1;unfold dcT at h2;split at h2
  ·cases h2
  ·simp at h2
 | nil =>
  cases M with
  | nil=>exact h rfl
  | cons m M =>
   have h1:=e.2;rw [List.flatMap_cons,List.append_eq_nil_iff] at h1;have h2:=h1.1;unfold mdT at h2;simp at h2
theorem fmt_ne {r:Ru} (hv:A9o r=true) (h:r≠⟨[],[]⟩):fmtR r≠[]:=by
 unfold fmtR;rw [if_pos hv];refine lines_ne ?_;unfold txT;intro e;rw [List.map_eq_nil_iff] at e;exact ruT_ne h e
theorem back_ex {e:Ex} (hv:Q7 e=true) (hl:(O4 (exT e)).length<=20000):∃ b:Ex,X8 (O4 (exT e))=(b,0,0)/\b.plain=e.plain:=by
 have hp:=pc_text (v_exT clv_lx hv);unfold txT at hp;rw [X3] at hp;have h0:=hp.scan hl;have ht:=hp.toks h0;obtain ⟨e',s',a1,a2,a3,a4⟩:=A2t (L:=exT e) (E:=0) hv (s:=rd0) (post:=[]) (by rw [List.append_nil];rfl) rfl rfl;have hu:=(W3 (exT e) 0).uniq a2;obtain ⟨h3,h4⟩:=xpnF_rel ht (E:=(O4 (exT e)).length) (E':=0);rw [hu] at h3 h4;have hlen:=rq_len ht;have hi:¬ (okR (J3 (B4 (O4 (exT e))).1 (O4 (exT e)).length).2=true/\(J3 (B4 (O4 (exT e))).1 (O4 (exT e)).length).2.i<(B4 (O4 (exT e))).1.length):=by
  rw [h4.i,hlen];dsimp only;rw [a3];simp [rd0]
 refine ⟨(J3 (B4 (O4 (exT e))).1 (O4 (exT e)).length).1,?_,h3.trans a1⟩;unfold X8;dsimp only;rw [if_neg (by rw [h0];decide),if_neg hi,if_neg (by rw [h4.ok];dsimp only;rw [a4];decide)]
section
variable {L:List Tok} {E:Int}
end
end Go.Pb
namespace Go.Pb
variable [Go.Sym.Tab]
open Go.Sym
def Mo {α : Type} (a b:Option α):Prop:=∀ r,a=some r->b=some r
theorem Mo.refl {α : Type} (a:Option α):Mo a a:=fun _ h=>h
theorem Mo.none {α : Type} (b:Option α):Mo none b:=fun _ h=>by cases h
section
variable (L:List Tok) (E:Int)
theorem ME.all:∀ f:Nat,(∀ n s,Mo (D3 L E f n s) (D3 L E (f+1) n s))/\(∀ n e s,Mo (F9 L E f n e s) (F9 L E (f+1) n e s))/\(∀ s,Mo (G8 L E f s) (G8 L E (f+1) s))
 | 0=>⟨fun _ _=>Mo.none _,fun _ _ _=>Mo.none _,fun _=>Mo.none _⟩
 | f+1=>by
  obtain ⟨hb,hl,hu⟩:=ME.all f;refine ⟨fun n s=>?_,fun n e s=>?_,fun s=>?_⟩
  ·rw [D3,D3];split
   ·exact hu s
   cases h:D3 L E f (n+1) s with
   | none=>exact Mo.none _
   | some q=>rw [hb _ _ _ h];exact hl _ _ _
  ·rw [F9,F9];dsimp only;split
   ·exact Mo.refl _
   cases h:D3 L E f (n+1) (B3 s) with
   | none=>exact Mo.none _
   | some q =>
    rw [hb _ _ _ h];dsimp only;split
    ·exact Mo.refl _
    ·exact hl _ _ _
  ·rw [G8,G8];dsimp only;split
   ·exact Mo.refl _
   split
   ·exact Mo.refl _
   split
   ·cases h:D3 L E f 1 { i:=(C0 L E s (s.par+1) 16 50).i+1,e:=(C0 L E s (s.par+1) 16 50).e,pos:=(C0 L E s (s.par+1) 16 50).pos,ops:=(C0 L E s (s.par+1) 16 50).ops,par:=(C0 L E s (s.par+1) 16 50).par+1 } with
    | none=>exact Mo.none _
    | some q=>rw [hb _ _ _ h];exact Mo.refl _
   ·cases h:G8 L E f { i:=(C0 L E s (s.par+1) 16 50).i+1,e:=(C0 L E s (s.par+1) 16 50).e,pos:=(C0 L E s (s.par+1) 16 50).pos,ops:=(C0 L E s (s.par+1) 16 50).ops,par:=(C0 L E s (s.par+1) 16 50).par+1 } with
    | none=>exact Mo.none _
    | some q=>rw [hu _ _ h];exact Mo.refl _
theorem Z9 (f:Nat) (s:Rd):Mo (F4 L E f s) (F4 L E (f+1) s):=(ME.all L E f).1 _ _
theorem mo_tail (f:Nat) (k p:Int) (s:Rd):Mo (X4 L E f k p s) (X4 L E (f+1) k p s):=by
 unfold X4;split
 ·cases h:F4 L E f s with
  | none=>exact Mo.none _
  | some q=>rw [Z9 L E f _ _ h];exact Mo.refl _
 split
 ·cases h:F4 L E f (C7 L E (A9 L E s 4).2 [44]) with
  | none=>exact Mo.none _
  | some q=>rw [Z9 L E f _ _ h];exact Mo.refl _
 split
 ·exact Mo.refl _
 dsimp only;split
 ·cases h:F4 L E f (A9 L E s 1).2 with
  | none=>exact Mo.none _
  | some q =>
   rw [Z9 L E f _ _ h];dsimp only;split
   ·cases h2:F4 L E f (C7 L E q.2 [44]) with
    | none=>exact Mo.none _
    | some q2=>rw [Z9 L E f _ _ h2];exact Mo.refl _
   ·exact Mo.refl _
 ·exact Mo.refl _
theorem MS.all:∀ f:Nat,(∀ d s,Mo (I8 L E f d s) (I8 L E (f+1) d s))/\(∀ d l s,Mo (S1 L E f d l s) (S1 L E (f+1) d l s)) /\
  (∀ d s,Mo (O8 L E f d s) (O8 L E (f+1) d s))/\(∀ d s,Mo (A0h L E f d s) (A0h L E (f+1) d s))
 | 0=>⟨fun _ _=>Mo.none _,fun _ _ _=>Mo.none _,fun _ _=>Mo.none _,fun _ _=>Mo.none _⟩
 | f+1=>by
  obtain ⟨hb,hl,hs,ho⟩:=MS.all f;refine ⟨fun d s=>?_,fun d l s=>?_,fun d s=>?_,fun d s=>?_⟩
  ·rw [I8,I8];exact hl _ _ _
  ·rw [S1,S1];split
   ·split
    ·exact Mo.refl _
    cases h:O8 L E f d (C0 L E s ((l.length:Int)+1) 64 9) with
    | none=>exact Mo.none _
    | some q=>rw [hs _ _ _ h];exact hl _ _ _
   ·exact Mo.refl _
  ·rw [O8,O8];dsimp only;split
   ·exact Mo.refl _
   split
   ·cases h:F4 L E f (C7 L E (A9 L E (C0 L E s d 8 50) 1).2 [61]) with
    | none=>exact Mo.none _
    | some q=>rw [Z9 L E f _ _ h];exact Mo.refl _
   split
   ·cases h:F4 L E f (B3 (C0 L E s d 8 50)) with
    | none=>exact Mo.none _
    | some q =>
     rw [Z9 L E f _ _ h];dsimp only;cases h2:I8 L E f (d+1) q.2 with
     | none=>exact Mo.none _
     | some q2 =>
      rw [hb _ _ _ h2];dsimp only;split
      ·cases h3:A0h L E f d (B3 q2.2) with
       | none=>exact Mo.none _
       | some q3=>rw [ho _ _ _ h3];exact Mo.refl _
      ·exact Mo.refl _
   ·exact mo_tail L E f _ _ _
  ·rw [A0h,A0h];split
   ·cases h:O8 L E f (d+1) s with
    | none=>exact Mo.none _
    | some q=>rw [hs _ _ _ h];exact Mo.refl _
   ·exact hb _ _
theorem mo_mlp:∀ (f:Nat) (l:List Hd) (s:Rd),Mo (R8 L E f l s) (R8 L E (f+1) l s)
 | 0,_,_=>Mo.none _
 | f+1,l,s=>by
  rw [R8,R8];split
  ·split
   ·exact Mo.refl _
   dsimp only;split
   ·exact Mo.refl _
   generalize hk:(if 2<=B7 L E (C7 L E (C0 L E s ((l.length:Int)+1) 32 9) [111,110]) E1 then (A9 L E (B3 (C7 L E (C0 L E s ((l.length:Int)+1) 32 9) [111,110])) 1).2 else B3 (C7 L E (C0 L E s ((l.length:Int)+1) 32 9) [111,110]))=s4;cases h:I8 L E f 1 s4 with
   | none=>exact Mo.none _
   | some q=>rw [(MS.all L E f).1 _ _ _ h];exact mo_mlp f _ _
  ·exact Mo.refl _
theorem mo_mod (f:Nat) (s:Rd):Mo (A8d L E f s) (A8d L E (f+1) s):=by
 unfold A8d;dsimp only;cases h:R8 L E f [] (C7 L E (A9 L E (A9 L E (C7 L E s [109,111,100,101]) 1).2 3).2 [123]) with
 | none=>exact Mo.none _
 | some q=>rw [mo_mlp L E f _ _ _ h];exact Mo.refl _
theorem mo_rld:∀ (f:Nat) (l:List Dc) (s:Rd),Mo (W4 L E f l s) (W4 L E (f+1) l s)
 | 0,_,_=>Mo.none _
 | f+1,l,s=>by
  rw [W4,W4];dsimp only;split
  ·exact Mo.refl _
  split
  ·exact mo_rld f _ _
  ·exact mo_rld f _ _
theorem mo_rlm:∀ (f:Nat) (l:List Md) (s:Rd),Mo (R4 L E f l s) (R4 L E (f+1) l s)
 | 0,_,_=>Mo.none _
 | f+1,l,s=>by
  rw [R4,R4];dsimp only;split
  ·split
   ·exact Mo.refl _
   split
   ·cases h:A8d L E f (C0 L E s ((l.length:Int)+1) 16 9) with
    | none=>exact Mo.none _
    | some q=>rw [mo_mod L E f _ _ h];exact mo_rlm f _ _
   ·exact mo_rlm f _ _
  ·exact Mo.refl _
theorem mo_rul (f:Nat) (s:Rd):Mo (A8a L E f s) (A8a L E (f+1) s):=by
 unfold A8a;cases h:W4 L E f [] s with
 | none=>exact Mo.none _
 | some q =>
  rw [mo_rld L E f _ _ _ h];dsimp only;cases h2:R4 L E f [] q.2 with
  | none=>exact Mo.none _
  | some q2=>rw [mo_rlm L E f _ _ _ h2];exact Mo.refl _
end
theorem mo_evt {α : Type} {g:Nat->Option α} (h:∀ f,Mo (g f) (g (f+1))) {f:Nat} {r : α} (hf:g f=some r):Evt g r:=by
 refine ⟨f,fun k hk=>?_⟩
 induction k with
 | zero =>
  obtain rfl:f=0:=(by omega);exact hf
 | succ k ih =>
  by_cases e:f=k+1
  ·subst e;exact hf
  ·exact h k r (ih (by omega))
theorem rulF_at {L:List Tok} {E:Int} {f:Nat} {r:Ru × Rd} (h:A8a L E f rd0=some r):A6m L E=r:=(rulF_e L E).uniq (mo_evt (mo_rul L E · rd0) h)
theorem xpnF_at {L:List Tok} {E:Int} {f:Nat} {r:Ex × Rd} (h:F4 L E f rd0=some r):J3 L E=r:=(W3 L E).uniq (mo_evt (Z9 L E · rd0) h)
theorem parM_at {s:List UInt8} {r:Ru} {i N:Nat} {p o q:Int} (h1:(B4 s).2.2=0) (h2:A8a (B4 s).1 s.length N rd0=some (r,⟨i,0,p,o,q⟩)):parM s=(r,0,0):=by
 unfold parM;dsimp only;rw [if_neg (by rw [h1];decide),rulF_at h2,if_neg (by show ¬ ((0:Int) == 0)=false;decide)]
theorem parE_at {s:List UInt8} {r:Ex} {i N:Nat} {p o q:Int} (h1:(B4 s).2.2=0) (h2:F4 (B4 s).1 s.length N rd0=some (r,⟨i,0,p,o,q⟩)) (hi:(B4 s).1.length<=i):X8 s=(r,0,0):=by
 unfold X8;dsimp only;rw [if_neg (by rw [h1];decide),xpnF_at h2];dsimp only;have hz:(if okR (⟨i,0,p,o,q⟩:Rd)=true/\i<(B4 s).1.length then K8 (B4 s).1 s.length ⟨i,0,p,o,q⟩ else ⟨i,0,p,o,q⟩)=⟨i,0,p,o,q⟩:=if_neg fun h=>absurd h.2 (Nat.not_lt.2 hi);rw [hz,if_neg (by show ¬ ((0:Int) == 0)=false;decide)]
end Go.Pb
end

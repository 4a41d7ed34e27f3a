/-
  HELPERS of the claim: part 6 of its texts.
-/
import Derived.Test.YthlpinppaclofaaGreatDoorSyle
noncomputable section
set_option maxHeartbeats 4000000
set_option maxRecDepth 100000
set_option linter.unusedSimpArgs false
set_option linter.unusedVariables false
namespace Go.Proofs.YthlpinppaclofaaGreatDoor
open Go.Eng (IC IOper DReg IFn B5)
open Go.Sym Go.Pb
theorem v_ru {ρ : Ren} {v:Value} {a:DV} (h:VRel ρ (.agg [a,.snil]) v):VRel ρ (.agg [a,.lst []]) v:=by
 obtain ⟨bb,rfl,k1,k2⟩:=h.agg_inv;refine .agg _ _ k1 fun j x y hx hy=>?_
 match j with
 | 0=>cases hx;exact k2 0 _ y rfl hy
 | 1=>cases hx;exact (k2 1 _ y rfl hy).snil_lst
 | _+2=>cases hx
theorem gl_ru {K H':Hp} {cc:Nat} {o:Option Nat} {a:DV} (l:List Md) (hK:∀ i,cc<=i->K i=none) (ho:∀ i,o=some i->cc<=i) (hno:o=none->l=[]) (hb:∀ i,o=some i->H' i=some ⟨4,true,A4 (l.map Md.v)⟩) (h:∀ j,j<cc->H' j=K j) :
  GL H' [.agg [a,B3 o l.length]] K [.agg [a,X7 l]]:=by
 cases o with
 | none =>
  obtain rfl:=hno rfl;exact (F6 hK h).trans (GL.view fun ρ vs hA=>K4 (fun v h=>v_ru h) vs hA)
 | some i =>
  have:=ho i rfl;exact GL.frzS (id:=i) (hb i rfl) rfl (fun j=>by
   by_cases hj:j<cc
   ·exact .inr ⟨by omega,(h j hj).symm⟩
   ·exact .inl (hK j (by omega))) (.cons _ _ _ _ (.agg _ _ (.cons _ _ _ _ (.same _) (.cons _ _ _ _ (M0 (u:=4) (by simp) (A8g l) ⟨[],by simp⟩) .nil))) .nil)
theorem rv2 {s:Sym.St} {x i u:Nat} {a b:DV} {o:Bool} (h:s.T x=.ptr i 0) (hb:s.H i=some ⟨u,o,[a,b]⟩):Y9 s [.cell x 2 true]=some (.agg [a,b]):=by
 simp only [Y9,A0z,h,ldv,ldB,hb];rfl
theorem c_rules (L:List Tok) (E:Int) (hL:L.length<=1000000000) (hv:∀ x∈L,0<=x.value/\x.value<=9223372036854775807) (f:Nat) (s:Rd) (r:Ru × Rd) (h:A0x L E f s=some r) (hi:s.i<=L.length):RdC L E 47 [] s (r.1.v,r.2):=by
 intro H cc t ht htc;refine AC.bodyT A7 rfl (Nat.le_of_ble_eq_true rfl) fun hfr=>?_;unfold A0x at h;cases hd:O0 L E f [] s with
 | none=>rw [hd] at h;cases h
 | some q =>
 obtain ⟨dl,s1⟩:=q;rw [hd] at h;dsimp only at h;cases hm:L8 L E f [] s1 with
 | none=>rw [hm] at h;cases h
 | some q =>
 obtain ⟨ml,s2⟩:=q;rw [hm] at h;cases h;have ne0:=K0 t cc (cc+1) (by omega);repeat' ((with_reducible first|refine wr ?_|refine cpc c_decls31 ?_|refine k_cu ?_ ?_|refine wb2 ?_ ?_<;>(intro hb;try simp only [hb])|fail)<;>try simp only [go_sem,seval,ne0,A0,A1])
 refine AC.call (c_among L E s _ _ t (by repeat (first|exact ht|rw [A2 (by omega)])) (by omega) C5 (by decide)) ?_;rintro v H' c1 ⟨rfl,rfl⟩ hc1;simp only [go_sem,seval,ne0];repeat' ((with_reducible first|refine wr ?_|refine k_cu ?_ ?_|refine wb2 ?_ ?_<;>(intro hb;try simp only [hb])|fail)<;>try simp only [go_sem,seval,ne0])
 refine D5 (fun q:Nat × Option Nat × List Dc × Rd=>[(0,.ptr t 0),(2,.ptr cc 0),(3,.ptr (cc+1) 0),(4,I64 (B4 L E q.2.2.2 C5))]) (fun q=>C3 (((H.upd cc ⟨0,true,[.snil,.snil]⟩).upd t (rdR L E q.2.2.2)).upd (cc+1) ⟨0,true,[B3 q.2.1 q.2.2.1.length,.snil]⟩) q.2.1 ⟨4,true,A4 (q.2.2.1.map Dc.v)⟩)
  (fun q c=>cc+2<=c/\q.1<=f/\q.2.2.2.i<=L.length/\(q.2.1=none->q.2.2.1=[])/\(∀ i,q.2.1=some i->cc+1<i/\i<c)/\q.2.2.1.length<=128/\O0 L E q.1 q.2.2.1 q.2.2.2=some (dl,s1)) (fun q=>q.1) (f,none,[],s)
  (by simp [D0,tm,Tm.upd]) (fun j b hj=>?_) ⟨by omega,Nat.le_refl _,hi,fun _=>rfl,(fun i hi=>by cases hi),by simp,hd⟩ ?_
 ·simp only [C3,A2a] at hj;by_cases e1:j=cc+1
  ·subst e1;rw [A0] at hj ⊢;exact hj
  ·rw [A2 e1] at hj ⊢;by_cases e2:j=t
   ·subst e2;rw [A0] at hj;rw [A2 (by omega),ht];exact hj
   ·rw [A2 e2] at hj;exact hj
 clear hd;rintro ⟨g,o,l,u⟩ c ⟨hc,hg,hi5,hno,ho,hl1,hv0⟩;dsimp only at hc hg hi5 hno ho hl1 hv0 ⊢;cases g with
 | zero=>simp [O0] at hv0
 | succ g =>
 unfold O0 at hv0;dsimp only at hv0;have hkr : -1<=B4 L E u C5/\B4 L E u C5<8:=Y1 L E u C5 0;have hw:IntKind.i64.wrap ((l.length:Int)+1)=(l.length:Int)+1:=w64 (by omega) (by omega);have hlen:A2k (B3 o l.length)=some (I64 l.length):=by
  cases o with
  | none=>rw [hno rfl];rfl
  | some b=>rfl
 by_cases hk:B4 L E u C5<0
 ·rw [if_pos hk] at hv0;have hdk:decide (B4 L E u C5≥0)=false:=by simp;omega
  have e1:l=dl:=congrArg Prod.fst (Option.some.inj hv0);have e2:u=s1:=congrArg Prod.snd (Option.some.inj hv0);subst e1 e2;repeat' ((with_reducible first|refine wr ?_|refine k_cu ?_ ?_|refine wb2 ?_ ?_<;>(intro hb;try simp only [hb])|fail)<;>try simp only [go_sem,seval,hdk])
  clear hdk hkr hk hv0;refine IW.keep [0,2,3] [.ptr t 0,.ptr cc 0,.ptr (cc+1) 0] (g_fin (Hb:=(H.upd cc ⟨0,true,[.snil,.snil]⟩).upd t (rdR L E u)) (ci:=cc+1) (u:=4) (pre:=[]) (suf:=[.snil]) (xs:=l.map Dc.v) (by simp [DV.one]) (fun h=>by rw [hno h];rfl) (fun i hi=>by have:=ho i hi;exact ⟨by omega,by rw [A2 (by omega),A2 (by omega)];exact hfr i (by omega)⟩) (by simp) (A4g _)) ?_;refine D5 (fun q:Nat × Option Nat × List Md × Rd=>[(0,.ptr t 0),(2,.ptr cc 0),(3,.ptr (cc+1) 0)]) (fun q=>C3 (((H.upd cc ⟨0,true,[.snil,.snil]⟩).upd t (rdR L E q.2.2.2)).upd (cc+1) ⟨0,true,[J5 l,B3 q.2.1 q.2.2.1.length]⟩) q.2.1 ⟨4,true,A4 (q.2.2.1.map Md.v)⟩)
   (fun q c=>cc+2<=c/\q.1<=f/\q.2.2.2.i<=L.length/\(q.2.1=none->q.2.2.1=[])/\(∀ i,q.2.1=some i->cc+1<i/\i<c)/\q.2.2.1.length<=16/\L8 L E q.1 q.2.2.1 q.2.2.2=some (ml,s2)) (fun q=>q.1) (f,none,[],u)
   (by simp [D0,tm,Tm.upd]) (fun j b hj=>hj) ⟨by omega,Nat.le_refl _,hi5,fun _=>rfl,(fun i hi=>by cases hi),by simp,hm⟩ ?_
  clear hm hlen hw;clear hno ho hl1 hi5;rintro ⟨g,o,m,u⟩ c ⟨hc,hg,hi5,hno,ho,hl1,hv⟩;dsimp only at hc hg hi5 hno ho hl1 hv ⊢;cases g with
  | zero=>simp [L8] at hv
  | succ g =>
  unfold L8 at hv;dsimp only at hv;have hw:IntKind.i64.wrap ((m.length:Int)+1)=(m.length:Int)+1:=w64 (by omega) (by omega);have hlen:A2k (B3 o m.length)=some (I64 m.length):=by
   cases o with
   | none=>rw [hno rfl];rfl
   | some b=>rfl
  have hHt:C3 (((H.upd cc ⟨0,true,[.snil,.snil]⟩).upd t (rdR L E u)).upd (cc+1) ⟨0,true,[J5 l,B3 o m.length]⟩) o ⟨4,true,A4 (m.map Md.v)⟩ t=some (rdR L E u):=by rw [C6 (fun i hi=>by have:=ho i hi;omega),A2 (by omega),A0]
  have hbx:C3 (((H.upd cc ⟨0,true,[.snil,.snil]⟩).upd t (rdR L E u)).upd (cc+1) ⟨0,true,[J5 l,B3 o m.length]⟩) o ⟨4,true,A4 (m.map Md.v)⟩ (cc+1)=some ⟨0,true,[J5 l,B3 o m.length]⟩:=by rw [C6 (fun i hi=>by have:=ho i hi;omega),A0]
  have hbo:∀ i:Nat,o=some i->C3 (((H.upd cc ⟨0,true,[.snil,.snil]⟩).upd t (rdR L E u)).upd (cc+1) ⟨0,true,[J5 l,B3 o m.length]⟩) o ⟨4,true,A4 (m.map Md.v)⟩ i=some ⟨4,true,A4 (m.map Md.v)⟩:=fun i hi=>by subst hi;exact A0
  have hbj:∀ j:Nat,j<cc->¬ j=t->C3 (((H.upd cc ⟨0,true,[.snil,.snil]⟩).upd t (rdR L E u)).upd (cc+1) ⟨0,true,[J5 l,B3 o m.length]⟩) o ⟨4,true,A4 (m.map Md.v)⟩ j=H j:=fun j h1 h2=>by rw [C6 (fun i hi=>by have:=ho i hi;omega),A2 (by omega),A2 h2,A2 (by omega)]
  have hb0:C3 (((H.upd cc ⟨0,true,[.snil,.snil]⟩).upd t (rdR L E u)).upd (cc+1) ⟨0,true,[J5 l,B3 o m.length]⟩) o ⟨4,true,A4 (m.map Md.v)⟩ cc=some ⟨0,true,[.snil,.snil]⟩:=by rw [C6 (fun i hi=>by have:=ho i hi;omega),A2 (by omega),A2 (by omega),A0]
  have hbn:∀ j:Nat,c<=j->C3 (((H.upd cc ⟨0,true,[.snil,.snil]⟩).upd t (rdR L E u)).upd (cc+1) ⟨0,true,[J5 l,B3 o m.length]⟩) o ⟨4,true,A4 (m.map Md.v)⟩ j=none:=fun j h1=>by rw [C6 (fun i hi=>by have:=ho i hi;omega),A2 (by omega),A2 (by omega),A2 (by omega)];exact hfr j (by omega)
  have hT:(B3 o m.length).one=true:=by cases o<;>rfl
  generalize hHH:C3 (((H.upd cc ⟨0,true,[.snil,.snil]⟩).upd t (rdR L E u)).upd (cc+1) ⟨0,true,[J5 l,B3 o m.length]⟩) o ⟨4,true,A4 (m.map Md.v)⟩=HH at hHt hbx hbo hbj hb0 hbn ⊢;have fin:∀ (u2:Rd) (x:Blk),GL ((HH.upd t (rdR L E u2)).upd cc x) [.agg [J5 l,B3 o m.length]] (H.upd t (rdR L E u2)) [.agg [J5 l,X7 m]]:=fun u2 x =>
   gl_ru (cc:=cc) m (A9 hfr htc) (fun i hi=>by have:=ho i hi;omega) hno (fun i hi=>by have:=ho i hi;rw [A2 (by omega),A2 (by omega)];exact hbo i hi) (fun j hj=>by
    rw [A2 (by omega)];by_cases e1:j=t
    ·subst e1;rw [A0,A0]
    ·rw [A2 e1,A2 e1,hbj j hj e1])
  have fin0:∀ (x:Blk),GL (HH.upd cc x) [.agg [J5 l,B3 o m.length]] (H.upd t (rdR L E u)) [.agg [J5 l,X7 m]]:=fun x=>by
   have h1:=fin u x
   rwa [upd_same hHt] at h1
  repeat' ((with_reducible first|refine wr ?_|refine k_cu ?_ ?_|refine wb2 ?_ ?_<;>(intro hb;try simp only [hb])|fail)<;>try simp only [go_sem,seval])
  refine AC.call (c_rdok L E u _ _ t hHt (by omega)) ?_;rintro v H' c2 ⟨rfl,rfl⟩ hc2;cases hok:okR u with
  | false =>
   rw [if_neg (by simp [hok])] at hv;have e1:m=ml:=congrArg Prod.fst (Option.some.inj hv);have e2:u=s2:=congrArg Prod.snd (Option.some.inj hv);subst e1 e2;have ne0:=K0 t cc (cc+1) (by omega);simp only [go_sem,seval,hok,hbx,ne0,hT,hb0];repeat' ((with_reducible first|refine wr ?_|refine k_cu ?_ ?_|refine wb2 ?_ ?_<;>(intro hb;try simp only [hb])|fail)<;>try simp only [go_sem,seval,hok,hHt,hbx,ne0,hT])
   rw [hb0];refine D1 (A3i (by rfl) (by decide) (by clear hHH;cases o<;>rfl)) ?_;simp only [go_sem,seval,ne0,A0];repeat' ((with_reducible first|refine wr ?_|refine k_cu ?_ ?_|refine wb2 ?_ ?_<;>(intro hb;try simp only [hb])|fail)<;>try simp only [go_sem,seval,ne0,A0])
   rw [B8 (rv2 rfl A0)];exact ⟨_,_,fin0 _,rfl,rfl⟩
  | true =>
   by_cases hlt:u.i<L.length
   ·rw [if_pos ⟨hok,hlt⟩] at hv;have hdl:decide ((u.i:Int)<(L.length:Int))=true:=by simpa using hlt
    simp only [go_sem,seval,hok,hHt,hdl];repeat' ((with_reducible first|refine wr ?_|refine k_cu ?_ ?_|refine wb2 ?_ ?_<;>(intro hb;try simp only [hb])|fail)<;>try simp only [go_sem,seval,hok,hHt,hdl])
    refine AC.call (c_is L E u _ _ t hHt (by omega) _) ?_;rintro v H' c3 ⟨rfl,rfl⟩ hc3;cases hmo:isR L E u [109,111,100,101] with
    | false =>
     rw [if_pos hmo] at hv;have e1:m=ml:=congrArg Prod.fst (Option.some.inj hv);have e2:J2 L E u=s2:=congrArg Prod.snd (Option.some.inj hv);subst e1 e2;have ne0:=K0 t cc (cc+1) (by omega);simp only [go_sem,seval,hmo];repeat' ((with_reducible first|refine wr ?_|refine k_cu ?_ ?_|refine wb2 ?_ ?_<;>(intro hb;try simp only [hb])|fail)<;>try simp only [go_sem,seval,hmo])
     refine AC.call (c_syntax L E u _ _ t hHt (by omega)) ?_;rintro v H' c4 ⟨rfl,rfl⟩ hc4;simp only [go_sem,seval,ne0,A0,hbx,hb0,hT];repeat' ((with_reducible first|refine wr ?_|refine k_cu ?_ ?_|refine wb2 ?_ ?_<;>(intro hb;try simp only [hb])|fail)<;>try simp only [go_sem,seval,ne0,A0,hbx,hb0,hT])
     refine D1 (A3i (by rfl) (by decide) (by clear hHH;cases o<;>rfl)) ?_;simp only [go_sem,seval,ne0,A0];repeat' ((with_reducible first|refine wr ?_|refine k_cu ?_ ?_|refine wb2 ?_ ?_<;>(intro hb;try simp only [hb])|fail)<;>try simp only [go_sem,seval,ne0,A0])
     rw [B8 (rv2 rfl A0)];exact ⟨_,_,fin _ _,rfl,rfl⟩
    | true =>
     rw [if_neg (by rw [hmo];decide)] at hv;simp only [go_sem,seval,hmo];repeat' ((with_reducible first|refine wr ?_|refine k_cu ?_ ?_|refine wb2 ?_ ?_<;>(intro hb;try simp only [hb])|fail)<;>try simp only [go_sem,seval,hmo,hbx,hlen,hw])
     refine AC.call (c_limit L E u _ _ t hHt (by omega) _ _ _) ?_;rintro v H' c4 ⟨rfl,rfl⟩ hc4;have j1:(B7 L E u ((m.length:Int)+1) 16 9).i=u.i:=F0;have j2:=fun h=>I1 (L:=L) (E:=E) (s:=u) (n:=(m.length:Int)+1) (m:=16) (e:=9) (by decide) h;generalize B7 L E u ((m.length:Int)+1) 16 9=u1 at hv j1 j2 ⊢;simp only [go_sem,seval];repeat' ((with_reducible first|refine wr ?_|refine k_cu ?_ ?_|refine wb2 ?_ ?_<;>(intro hb;try simp only [hb])|fail)<;>try simp only [go_sem,seval])
     refine AC.call (c_rdok L E u1 _ _ t A0 (by omega)) ?_;rintro v H' c5 ⟨rfl,rfl⟩ hc5;cases hok1:okR u1 with
     | false =>
      rw [if_neg (by rw [hok1];decide)] at hv;simp only [go_sem,seval,hok1];repeat' ((with_reducible first|refine wr ?_|refine k_cu ?_ ?_|refine wb2 ?_ ?_<;>(intro hb;try simp only [hb])|fail)<;>try simp only [go_sem,seval,hok1])
      refine ⟨(g,o,m,u1),?_,inv ⟨by omega,by simp only;omega,by rw [j1];exact hi5,hno,(fun i hi=>by have:=ho i hi;omega),hl1,hv⟩,by simp only;omega⟩;intro j b hj;by_cases e2:j=t
      ·subst e2;rw [C6 (fun i hi=>by have:=ho i hi;omega),A2 (by omega),A0] at hj;rw [A0];exact hj
      ·rw [A2 e2, <- hHH];cases o with
       | none =>
        simp only [C3] at hj ⊢;by_cases e1:j=cc+1
        ·subst e1;rw [A0] at hj ⊢;exact hj
        ·rw [A2 e1,A2 e2] at hj ⊢;exact hj
       | some i =>
        simp only [C3] at hj ⊢;by_cases e0:j=i
        ·subst e0;rw [A0] at hj ⊢;exact hj
        rw [A2 e0] at hj ⊢;by_cases e1:j=cc+1
        ·subst e1;rw [A0] at hj ⊢;exact hj
        ·rw [A2 e1,A2 e2] at hj ⊢;exact hj
     | true =>
      rw [if_pos hok1] at hv;obtain ⟨-,j3,rfl⟩:=j2 hok1;cases hmd:Z8 L E g u1 with
      | none=>rw [hmd] at hv;cases hv
      | some qm =>
       obtain ⟨md,u2⟩:=qm;rw [hmd] at hv;dsimp only at hv;have j6:=mod_i hmd hi5;have ne0:=K0 t cc (cc+1) (by omega);simp only [go_sem,seval,hok1,ne0,A0,A1,hbx];repeat' ((with_reducible first|refine wr ?_|refine k_cu ?_ ?_|refine wb2 ?_ ?_<;>(intro hb;try simp only [hb])|fail)<;>try simp only [go_sem,seval,hok1,ne0,A0,A1,hbx])
       refine AC.call (c_mode L E hL g u1 (md,u2) hmd hi5 _ _ t A0 (by omega)) ?_;rintro v H' c6 ⟨rfl,rfl⟩ hc6;dsimp only;have ne0:=O1 t cc (cc+1) c6 (c6+1) (by omega);simp only [go_sem,seval,ne0,A0,A1,hbx];repeat' ((with_reducible first|refine wr ?_|refine k_cu ?_ ?_|refine wb2 ?_ ?_<;>(intro hb;try simp only [hb])|fail)<;>try simp only [go_sem,seval,ne0,A0,A1,hbx])
       refine ⟨⟨by rw [A2 (by omega)];exact hbn _ (by omega),by rw [A2 (by omega)];exact hbn _ (by omega)⟩,?_⟩;have hl4:(A4 (m.map Md.v)).length=m.length * 4:=C7 (u:=4) (A8g _) |>.trans (by simp);repeat' ((with_reducible first|refine wr ?_|refine k_cu ?_ ?_|refine wb2 ?_ ?_<;>(intro hb;try simp only [hb])|fail)<;>try simp only [go_sem,seval,ne0,A0,A1,hbx])
       rw [F4 (cs:=A4 (m.map Md.v)) (fun e=>by rw [hno e];exact ⟨rfl,rfl⟩) (fun i hi=>by have:=ho i hi;rw [A2 (by omega),A2 (by omega)];exact hbo i hi) hl4 (by omega) (by omega) (by omega)];have hdx:∀ X:Hp,R2 X o (cc+1)=X (cc+1):=fun X=>D4 (fun i hi=>by have:=ho i hi;omega);have ne0:=O1 t cc (cc+1) (c5+4) c6 (by omega);simp only [go_sem,seval,ne0,A0,A1,hdx,hbx];repeat' ((with_reducible first|refine wr ?_|refine k_cu ?_ ?_|refine wb2 ?_ ?_<;>(intro hb;try simp only [hb])|fail)<;>try simp only [go_sem,seval,ne0,A0,A1,hdx,hbx])
       refine ⟨(g,some c6,m++[md],u2),?_,inv ⟨by omega,by simp only;omega,j6,(fun h=>by cases h),(fun i hi=>by cases hi;omega),by simp only [List.length_append,List.length_singleton];omega,hv⟩,by simp only;omega⟩;intro j b hj;simp only [C3,X0,List.length_append,List.length_singleton,List.map_append,E3] at hj;by_cases e1:j=cc+1
       ·subst e1;by_cases e3:cc+1=c6
        ·omega
        rw [A2 e3,A0] at hj;rw [A0];exact hj
       rw [A2 e1];by_cases e0:j=c6
       ·subst e0;rw [A0] at hj;rw [A0, <- hj];rfl
       rw [A2 e0] at hj ⊢;rw [A2 e1] at hj;by_cases e2:j=t
       ·subst e2;rw [A0] at hj;rw [D4 (fun i hi=>by have:=ho i hi;omega),A2 (by omega),A0];exact hj
       rw [A2 e2] at hj;by_cases e4:j=cc
       ·subst e4;rw [A0] at hj;rw [D4 (fun i hi=>by have:=ho i hi;omega)]
        repeat rw [A2 (by omega)]
        rw [hb0];exact hj
       ·rw [A2 e4] at hj;have hjc:j<cc:=Classical.byContradiction fun h=>by rw [hfr j (by omega)] at hj;cases hj
        rw [D4 (fun i hi=>by have:=ho i hi;omega)]
        repeat rw [A2 (by omega)]
        rw [hbj j hjc e2];exact hj
   ·rw [if_neg (by simp [hlt])] at hv;have hdl:decide ((u.i:Int)<(L.length:Int))=false:=by simpa using hlt
    have e1:m=ml:=congrArg Prod.fst (Option.some.inj hv);have e2:u=s2:=congrArg Prod.snd (Option.some.inj hv);subst e1 e2;have ne0:=K0 t cc (cc+1) (by omega);simp only [go_sem,seval,hok,hHt,hdl,hbx,ne0,hT,hb0];repeat' ((with_reducible first|refine wr ?_|refine k_cu ?_ ?_|refine wb2 ?_ ?_<;>(intro hb;try simp only [hb])|fail)<;>try simp only [go_sem,seval,hok,hHt,hdl,hbx,ne0,hT])
    rw [hb0];refine D1 (A3i (by rfl) (by decide) (by clear hHH;cases o<;>rfl)) ?_;simp only [go_sem,seval,ne0,A0];repeat' ((with_reducible first|refine wr ?_|refine k_cu ?_ ?_|refine wb2 ?_ ?_<;>(intro hb;try simp only [hb])|fail)<;>try simp only [go_sem,seval,ne0,A0])
    rw [B8 (rv2 rfl A0)];exact ⟨_,_,fin0 _,rfl,rfl⟩
 ·rw [if_neg hk] at hv0;have hdk:decide (B4 L E u C5≥0)=true:=by simp;omega
  have hHt:C3 (((H.upd cc ⟨0,true,[.snil,.snil]⟩).upd t (rdR L E u)).upd (cc+1) ⟨0,true,[B3 o l.length,.snil]⟩) o ⟨4,true,A4 (l.map Dc.v)⟩ t=some (rdR L E u):=by rw [C6 (fun i hi=>by have:=ho i hi;omega),A2 (by omega),A0]
  have hbx:C3 (((H.upd cc ⟨0,true,[.snil,.snil]⟩).upd t (rdR L E u)).upd (cc+1) ⟨0,true,[B3 o l.length,.snil]⟩) o ⟨4,true,A4 (l.map Dc.v)⟩ (cc+1)=some ⟨0,true,[B3 o l.length,.snil]⟩:=by rw [C6 (fun i hi=>by have:=ho i hi;omega),A0]
  have hbo:∀ i:Nat,o=some i->C3 (((H.upd cc ⟨0,true,[.snil,.snil]⟩).upd t (rdR L E u)).upd (cc+1) ⟨0,true,[B3 o l.length,.snil]⟩) o ⟨4,true,A4 (l.map Dc.v)⟩ i=some ⟨4,true,A4 (l.map Dc.v)⟩:=fun i hi=>by subst hi;exact A0
  have hbj:∀ j:Nat,j<cc->¬ j=t->C3 (((H.upd cc ⟨0,true,[.snil,.snil]⟩).upd t (rdR L E u)).upd (cc+1) ⟨0,true,[B3 o l.length,.snil]⟩) o ⟨4,true,A4 (l.map Dc.v)⟩ j=H j:=fun j h1 h2=>by rw [C6 (fun i hi=>by have:=ho i hi;omega),A2 (by omega),A2 h2,A2 (by omega)]
  have hb0:C3 (((H.upd cc ⟨0,true,[.snil,.snil]⟩).upd t (rdR L E u)).upd (cc+1) ⟨0,true,[B3 o l.length,.snil]⟩) o ⟨4,true,A4 (l.map Dc.v)⟩ cc=some ⟨0,true,[.snil,.snil]⟩:=by rw [C6 (fun i hi=>by have:=ho i hi;omega),A2 (by omega),A2 (by omega),A0]
  have hbn:∀ j:Nat,c<=j->C3 (((H.upd cc ⟨0,true,[.snil,.snil]⟩).upd t (rdR L E u)).upd (cc+1) ⟨0,true,[B3 o l.length,.snil]⟩) o ⟨4,true,A4 (l.map Dc.v)⟩ j=none:=fun j h1=>by rw [C6 (fun i hi=>by have:=ho i hi;omega),A2 (by omega),A2 (by omega),A2 (by omega)];exact hfr j (by omega)
  obtain ⟨hok0,hi0, -⟩:=G3 (show 0<=B4 L E u C5 by omega);generalize hHH:C3 (((H.upd cc ⟨0,true,[.snil,.snil]⟩).upd t (rdR L E u)).upd (cc+1) ⟨0,true,[B3 o l.length,.snil]⟩) o ⟨4,true,A4 (l.map Dc.v)⟩=HH at hHt hbx hbo hbj hb0 hbn ⊢;generalize hkk:B4 L E u C5=k at hv0 hk hdk hkr ⊢;repeat' ((with_reducible first|refine wr ?_|refine k_cu ?_ ?_|refine wb2 ?_ ?_<;>(intro hb;try simp only [hb])|fail)<;>try simp only [go_sem,seval,hdk,hbx,hlen,hw])
  refine AC.call (c_limit L E u _ _ t hHt (by omega) _ _ _) ?_;rintro v H' c2 ⟨rfl,rfl⟩ hc2;have j1:(B7 L E u ((l.length:Int)+1) 128 9).i=u.i:=F0;have j2:=fun h=>I1 (L:=L) (E:=E) (s:=u) (n:=(l.length:Int)+1) (m:=128) (e:=9) (by decide) h;generalize B7 L E u ((l.length:Int)+1) 128 9=u1 at hv0 j1 j2 ⊢;simp only [go_sem,seval];repeat' ((with_reducible first|refine wr ?_|refine k_cu ?_ ?_|refine wb2 ?_ ?_<;>(intro hb;try simp only [hb])|fail)<;>try simp only [go_sem,seval])
  refine AC.call (c_rdok L E u1 _ _ t A0 (by omega)) ?_;rintro v H' c3 ⟨rfl,rfl⟩ hc3;cases hok:okR u1 with
  | false =>
   rw [if_neg (by rw [hok];decide)] at hv0;simp only [go_sem,seval,hok];repeat' ((with_reducible first|refine wr ?_|refine cpc c_decls31 ?_|refine k_cu ?_ ?_|refine wb2 ?_ ?_<;>(intro hb;try simp only [hb])|fail)<;>try simp only [go_sem,seval,hok])
   refine AC.call (c_among L E u1 _ _ t A0 (by omega) C5 (by decide)) ?_;rintro v H' c4 ⟨rfl,rfl⟩ hc4;simp only [go_sem,seval];repeat' ((with_reducible first|refine wr ?_|refine k_cu ?_ ?_|refine wb2 ?_ ?_<;>(intro hb;try simp only [hb])|fail)<;>try simp only [go_sem,seval])
   refine ⟨(g,o,l,u1),by simp [D0,tm,Tm.upd],?_,inv ⟨by omega,by simp only;omega,by rw [j1];exact hi5,hno,(fun i hi=>by have:=ho i hi;omega),hl1,hv0⟩,by simp only;omega⟩;intro j b hj;by_cases e2:j=t
   ·subst e2;rw [C6 (fun i hi=>by have:=ho i hi;omega),A2 (by omega),A0] at hj;rw [A0];exact hj
   ·rw [A2 e2, <- hHH];cases o with
    | none =>
     simp only [C3] at hj ⊢;by_cases e1:j=cc+1
     ·subst e1;rw [A0] at hj ⊢;exact hj
     ·rw [A2 e1,A2 e2] at hj ⊢;exact hj
    | some i =>
     simp only [C3] at hj ⊢;by_cases e0:j=i
     ·subst e0;rw [A0] at hj ⊢;exact hj
     rw [A2 e0] at hj ⊢;by_cases e1:j=cc+1
     ·subst e1;rw [A0] at hj ⊢;exact hj
     ·rw [A2 e1,A2 e2] at hj ⊢;exact hj
  | true =>
   rw [if_pos hok] at hv0;obtain ⟨-,j3,rfl⟩:=j2 hok;simp only [go_sem,seval,hok];have ne0:=K0 t cc (cc+1) (by omega);repeat' ((with_reducible first|refine wr ?_|refine k_cu ?_ ?_|refine wb2 ?_ ?_<;>(intro hb;try simp only [hb])|fail)<;>try simp only [go_sem,seval,hok,ne0,A0,A1,hbx])
   refine AC.call (c_declaration L E u1 _ _ t A0 (by omega) hL hv k (by omega) (by omega) (by omega)) ?_;rintro v H' c4 ⟨rfl,rfl⟩ hc4;have ne0:=O1 t cc (cc+1) c4 (c4+1) (by omega);simp only [go_sem,seval,ne0,A0,A1,hbx];repeat' ((with_reducible first|refine wr ?_|refine k_cu ?_ ?_|refine wb2 ?_ ?_<;>(intro hb;try simp only [hb])|fail)<;>try simp only [go_sem,seval,ne0,A0,A1,hbx])
   refine ⟨⟨by rw [A2 (by omega)];exact hbn _ (by omega),by rw [A2 (by omega)];exact hbn _ (by omega)⟩,?_⟩;have hl4:(A4 (l.map Dc.v)).length=l.length * 4:=C7 (u:=4) (A4g _) |>.trans (by simp);repeat' ((with_reducible first|refine wr ?_|refine k_cu ?_ ?_|refine wb2 ?_ ?_<;>(intro hb;try simp only [hb])|fail)<;>try simp only [go_sem,seval,ne0,A0,A1,hbx])
   rw [F4 (cs:=A4 (l.map Dc.v)) (fun e=>by rw [hno e];exact ⟨rfl,rfl⟩) (fun i hi=>by have:=ho i hi;rw [A2 (by omega),A2 (by omega)];exact hbo i hi) hl4 (by omega) (by omega) (by omega)];have hdx:∀ X:Hp,R2 X o (cc+1)=X (cc+1):=fun X=>D4 (fun i hi=>by have:=ho i hi;omega);have ne0:=O1 t cc (cc+1) (c3+5) c4 (by omega);simp only [go_sem,seval,ne0,A0,A1,hdx,hbx];repeat' ((with_reducible first|refine wr ?_|refine cpc c_decls31 ?_|refine k_cu ?_ ?_|refine wb2 ?_ ?_<;>(intro hb;try simp only [hb])|fail)<;>try simp only [go_sem,seval,ne0,A0,A1,hdx,hbx])
   refine AC.call (c_among L E (S4 L E k u1).2 _ _ t (by rw [A2 (by omega),A2 (by omega),D4 (fun i hi=>by have:=ho i hi;omega),A2 (by omega),A0]) (by omega) C5 (by decide)) ?_;rintro v H' c5 ⟨rfl,rfl⟩ hc5;simp only [go_sem,seval];repeat' ((with_reducible first|refine wr ?_|refine k_cu ?_ ?_|refine wb2 ?_ ?_<;>(intro hb;try simp only [hb])|fail)<;>try simp only [go_sem,seval])
   refine ⟨(g,some c4,l++[(S4 L E k u1).1],(S4 L E k u1).2),by simp [D0,tm,Tm.upd],?_,inv ⟨by omega,by simp only;omega,dcl_i (by omega),(fun h=>by cases h),(fun i hi=>by cases hi;omega),by simp only [List.length_append,List.length_singleton];omega,hv0⟩,by simp only;omega⟩;intro j b hj;simp only [C3,X0,List.length_append,List.length_singleton,List.map_append,E3] at hj;by_cases e1:j=cc+1
   ·subst e1;by_cases e3:cc+1=c4
    ·omega
    rw [A2 e3,A0] at hj;rw [A0];exact hj
   rw [A2 e1];by_cases e0:j=c4
   ·subst e0;rw [A0] at hj;rw [A0, <- hj];rfl
   rw [A2 e0] at hj ⊢;rw [A2 e1] at hj;by_cases e2:j=t
   ·subst e2;rw [A0] at hj;rw [D4 (fun i hi=>by have:=ho i hi;omega),A2 (by omega),A0];exact hj
   rw [A2 e2] at hj;by_cases e4:j=cc
   ·subst e4;rw [A0] at hj;rw [D4 (fun i hi=>by have:=ho i hi;omega)]
    repeat rw [A2 (by omega)]
    rw [hb0];exact hj
   ·rw [A2 e4] at hj;have hjc:j<cc:=Classical.byContradiction fun h=>by rw [hfr j (by omega)] at hj;cases hj
    rw [D4 (fun i hi=>by have:=ho i hi;omega)]
    repeat rw [A2 (by omega)]
    rw [hbj j hjc e2];exact hj
end Go.Proofs.YthlpinppaclofaaGreatDoor
set_option maxHeartbeats 8000000
namespace Go.Proofs.YthlpinppaclofaaGreatDoor
open Go.Eng (IC IOper DReg IFn B5)
open Go.Sym Go.Pb
theorem A3u {L:List Tok} {E:Int} {g:Nat} {l:List Md} {s:Rd} {r:List Md × Rd} (h:L8 L E g l s=some r) (ho:okR s=false):r=(l,s):=by
 cases g with
 | zero=>simp [L8] at h
 | succ g =>
  unfold L8 at h;dsimp only at h;rw [ho,if_neg (by simp)] at h;cases h;rfl
theorem rld_nok {L:List Tok} {E:Int} {g:Nat} {l:List Dc} {s:Rd} {r:List Dc × Rd} (h:O0 L E g l s=some r) (ho:okR s=false):r=(l,s):=by
 cases g with
 | zero=>simp [O0] at h
 | succ g =>
  unfold O0 at h;dsimp only at h;rw [B4,Y0 ho,if_pos (by decide)] at h;cases h;rfl
theorem pi_exp {L:List Tok} {E:Int} (hK:∀ t∈L,F9 t) {s:Rd} {w:List UInt8} (hw:D8 w=false) (h:PI L s):PI L (C1 L E s w):=by
 rw [<- W9 hK hw];exact (h.want (by decide)).1
theorem pi_dcl {L:List Tok} {E:Int} (hK:∀ t∈L,F9 t) {s:Rd} {k:Int} (h:PI L s) (hi:s.i<L.length):PI L (S4 L E k s).2:=by
 unfold S4;dsimp only;have h1:=((h.nxt hi).take (E:=E) (x:=1) (by decide)).1;generalize (A6 L E (A8 s) 1).2=s2 at h1 ⊢;split
 ·have h2:PI L (if (k+1 == 6 && isR L E s2 [45])=true then A8 s2 else s2):=by
   split
   ·rename_i hh;simp only [Bool.and_eq_true] at hh;exact h1.nxt (W0 hh.2).2
   ·exact h1
  exact pi_exp hK (by decide +kernel) ((h2.take (E:=E) (x:=3) (by decide)).1)
 ·exact pi_exp hK (by decide +kernel) h1
theorem c_prules (L:List Tok) (E:Int) (hL:L.length<=1000000000) (hv0:∀ x∈L,0<=x.value/\x.value<=9223372036854775807) (hK:∀ t∈L,F9 t) (f:Nat) (s:Rd) (r:Ru × Rd) (h:A0x L E f s=some r) (hP:PI L s) :
  ∀ (H:Hp) (cc t:Nat),H t=some (paB L E s)->t<cc->AC Tryz.prog 73 [.ptr t 0] H cc (fun v H' c' => ∃ x s',v=Ru.v x/\H'=H.upd t (paB L E s')/\Eqv s' r.2/\(okR r.2=true->x=r.1)/\PI L s'):=by
 intro H cc t ht htc;refine AC.bodyT A7 rfl (Nat.le_of_ble_eq_true rfl) fun hfr=>?_;unfold A0x at h;cases hd:O0 L E f [] s with
 | none=>rw [hd] at h;cases h
 | some q =>
 obtain ⟨dl,s1⟩:=q;rw [hd] at h;dsimp only at h;cases hm:L8 L E f [] s1 with
 | none=>rw [hm] at h;cases h
 | some q =>
 obtain ⟨ml,s2⟩:=q;rw [hm] at h;cases h;have tail:∀ (o:Option Nat) (l:List Dc) (u:Rd) (c:Nat),cc+2<=c->(o=none->l=[])->(∀ i,o=some i->cc+1<i/\i<c)->PI L u->((okR u=true/\l=dl/\u=s1)\/(okR u=false/\Eqv u s1)) ->
   IW Tryz.prog 39 (pz Tryz.prog 73 (.o (.o (.o (.i .h))))) ⟨tm [(0,.ptr t 0),(2,.ptr cc 0),(3,.ptr (cc+1) 0)],C3 (((H.upd cc ⟨0,true,[.snil,.snil]⟩).upd t (paB L E u)).upd (cc+1) ⟨0,true,[B3 o l.length,.snil]⟩) o ⟨4,true,A4 (l.map Dc.v)⟩,c⟩ (rt [.cell 2 2 true] fun v H' c' => ∃ v2 H2,GL H' [v] H2 [v2]/\∃ x s',v2=Ru.v x/\H2=H.upd t (paB L E s')/\Eqv s' s2/\(okR s2=true->x=⟨dl,ml⟩)/\PI L s'):=by
  intro o l u c hc hno ho hPu hv;refine IW.keep [0,2,3] [.ptr t 0,.ptr cc 0,.ptr (cc+1) 0] (g_fin (Hb:=(H.upd cc ⟨0,true,[.snil,.snil]⟩).upd t (paB L E u)) (ci:=cc+1) (u:=4) (pre:=[]) (suf:=[.snil]) (xs:=l.map Dc.v) (by simp [DV.one]) (fun h=>by rw [hno h];rfl) (fun i hi=>by have:=ho i hi;exact ⟨by omega,by rw [A2 (by omega),A2 (by omega)];exact hfr i (by omega)⟩) (by simp) (A4g _)) ?_;repeat' ((with_reducible first|refine wr ?_|refine k_cu ?_ ?_|refine wb2 ?_ ?_<;>(intro hb;try simp only [hb])|fail)<;>try simp only [go_sem,seval])
  refine D5 (fun q:Nat × Option Nat × List Md × Rd=>[(0,.ptr t 0),(2,.ptr cc 0),(3,.ptr (cc+1) 0)]) (fun q=>C3 (((H.upd cc ⟨0,true,[.snil,.snil]⟩).upd t (paB L E q.2.2.2)).upd (cc+1) ⟨0,true,[J5 l,B3 q.2.1 q.2.2.1.length]⟩) q.2.1 ⟨4,true,A4 (q.2.2.1.map Md.v)⟩)
   (fun q c=>cc+2<=c/\q.1<=f/\(q.2.1=none->q.2.2.1=[])/\(∀ i,q.2.1=some i->cc+1<i/\i<c)/\q.2.2.1.length<=16/\PI L q.2.2.2/\((okR q.2.2.2=true/\l=dl/\L8 L E q.1 q.2.2.1 q.2.2.2=some (ml,s2))\/(okR q.2.2.2=false/\Eqv q.2.2.2 s2))) (fun q=>q.1) (f,none,[],u)
   (by simp [D0,tm,Tm.upd]) (fun j b hj=>hj) ⟨by omega,Nat.le_refl _,fun _=>rfl,(fun i hi=>by cases hi),by simp,hPu,by
    rcases hv with ⟨g1,g2,g3⟩|⟨g1,g2⟩
    ·exact .inl ⟨g1,g2,by dsimp only;rw [g3];exact hm⟩
    ·have:=A3u hm (by rw [<- g2.ok];exact g1);cases this;exact .inr ⟨g1,g2⟩⟩ ?_
  clear hv hno ho hPu;rintro ⟨g,o,m,u⟩ c ⟨hc,hg,hno,ho,hl1,hPu,hv⟩;dsimp only at hc hg hno ho hl1 hPu hv ⊢;have hriu:=hPu.i;have hlen:A2k (B3 o m.length)=some (I64 m.length):=by
   cases o with
   | none=>rw [hno rfl];rfl
   | some b=>rfl
  have hHt:C3 (((H.upd cc ⟨0,true,[.snil,.snil]⟩).upd t (paB L E u)).upd (cc+1) ⟨0,true,[J5 l,B3 o m.length]⟩) o ⟨4,true,A4 (m.map Md.v)⟩ t=some (paB L E u):=by rw [C6 (fun i hi=>by have:=ho i hi;omega),A2 (by omega),A0]
  have hbx:C3 (((H.upd cc ⟨0,true,[.snil,.snil]⟩).upd t (paB L E u)).upd (cc+1) ⟨0,true,[J5 l,B3 o m.length]⟩) o ⟨4,true,A4 (m.map Md.v)⟩ (cc+1)=some ⟨0,true,[J5 l,B3 o m.length]⟩:=by rw [C6 (fun i hi=>by have:=ho i hi;omega),A0]
  have hbo:∀ i:Nat,o=some i->C3 (((H.upd cc ⟨0,true,[.snil,.snil]⟩).upd t (paB L E u)).upd (cc+1) ⟨0,true,[J5 l,B3 o m.length]⟩) o ⟨4,true,A4 (m.map Md.v)⟩ i=some ⟨4,true,A4 (m.map Md.v)⟩:=fun i hi=>by subst hi;exact A0
  have hbj:∀ j:Nat,j<cc->¬ j=t->C3 (((H.upd cc ⟨0,true,[.snil,.snil]⟩).upd t (paB L E u)).upd (cc+1) ⟨0,true,[J5 l,B3 o m.length]⟩) o ⟨4,true,A4 (m.map Md.v)⟩ j=H j:=fun j h1 h2=>by rw [C6 (fun i hi=>by have:=ho i hi;omega),A2 (by omega),A2 h2,A2 (by omega)]
  have hb0:C3 (((H.upd cc ⟨0,true,[.snil,.snil]⟩).upd t (paB L E u)).upd (cc+1) ⟨0,true,[J5 l,B3 o m.length]⟩) o ⟨4,true,A4 (m.map Md.v)⟩ cc=some ⟨0,true,[.snil,.snil]⟩:=by rw [C6 (fun i hi=>by have:=ho i hi;omega),A2 (by omega),A2 (by omega),A0]
  have hbn:∀ j:Nat,c<=j->C3 (((H.upd cc ⟨0,true,[.snil,.snil]⟩).upd t (paB L E u)).upd (cc+1) ⟨0,true,[J5 l,B3 o m.length]⟩) o ⟨4,true,A4 (m.map Md.v)⟩ j=none:=fun j h1=>by rw [C6 (fun i hi=>by have:=ho i hi;omega),A2 (by omega),A2 (by omega),A2 (by omega)];exact hfr _ (by omega)
  have hT:(B3 o m.length).one=true:=by cases o<;>rfl
  generalize hHH:C3 (((H.upd cc ⟨0,true,[.snil,.snil]⟩).upd t (paB L E u)).upd (cc+1) ⟨0,true,[J5 l,B3 o m.length]⟩) o ⟨4,true,A4 (m.map Md.v)⟩=HH at hHt hbx hbo hbj hb0 hbn ⊢;have fin:∀ (u2:Rd) (x:Blk),GL ((HH.upd t (paB L E u2)).upd cc x) [.agg [J5 l,B3 o m.length]] (H.upd t (paB L E u2)) [.agg [J5 l,X7 m]]:=fun u2 x =>
   gl_ru (cc:=cc) m (A9 hfr htc) (fun i hi=>by have:=ho i hi;omega) hno (fun i hi=>by have:=ho i hi;rw [A2 (by omega),A2 (by omega)];exact hbo i hi) (fun j hj=>by
    rw [A2 (by omega)];by_cases e1:j=t
    ·subst e1;rw [A0,A0]
    ·rw [A2 e1,A2 e1,hbj j hj e1])
  have ne0:=K0 t cc (cc+1) (by omega);repeat' ((with_reducible first|refine wr ?_|refine k_cu ?_ ?_|refine wb2 ?_ ?_<;>(intro hb;try simp only [hb])|fail)<;>try simp only [go_sem,seval])
  refine AC.call (c_pisO L E u HH _ t c (hbn c (Nat.le_refl _)) hHt (by omega) 2 [[109,111,100,101]] (by simp)) ?_;rintro v H' c2 ⟨rfl,rfl⟩ hc2;cases hmo:isP L E u 2 [[109,111,100,101]] with
  | false =>
   have hres:Eqv (if u.i<L.length then pfl L E u 4 else u) s2/\(okR s2=true->(⟨l,m⟩:Ru)=⟨dl,ml⟩):=by
    rcases hv with ⟨hok,g1,hv⟩|⟨hok,hv⟩
    ·cases g with
     | zero=>simp [L8] at hv
     | succ g =>
      unfold L8 at hv;dsimp only at hv;by_cases hlt:u.i<L.length
      ·rw [if_pos ⟨hok,hlt⟩,if_pos (by rw [R0 hK (by decide +kernel)];exact hmo)] at hv;cases hv;rw [if_pos hlt,g1];exact ⟨.refl _,fun _=>rfl⟩
      ·rw [if_neg (fun hh=>hlt hh.2)] at hv;cases hv;rw [if_neg hlt,g1];exact ⟨.refl _,fun _=>rfl⟩
    ·rw [show (if u.i<L.length then pfl L E u 4 else u)=u by rw [R9 hok];split<;>rfl];exact ⟨hv,fun k=>by rw [<- hv.ok,hok] at k;cases k⟩
   have b3:PI L (if u.i<L.length then pfl L E u 4 else u):=by
    split
    ·exact hPu.fl
    ·exact hPu
   simp only [go_sem,seval,hmo];repeat' ((with_reducible first|refine wr ?_|refine k_cu ?_ ?_|refine wb2 ?_ ?_<;>(intro hb;try simp only [hb])|fail)<;>try simp only [go_sem,seval,hmo])
   refine AC.call (c_pend L E u _ _ t hHt (by omega)) ?_;rintro v H' c3 ⟨rfl,rfl⟩ hc3;generalize (if u.i<L.length then pfl L E u 4 else u)=u3 at hres b3 ⊢;simp only [go_sem,seval,ne0,A0,hbx,hb0,hT];repeat' ((with_reducible first|refine wr ?_|refine k_cu ?_ ?_|refine wb2 ?_ ?_<;>(intro hb;try simp only [hb])|fail)<;>try simp only [go_sem,seval,ne0,A0,hbx,hb0,hT])
   refine D1 (A3i (by rfl) (by decide) (by clear hHH;cases o<;>rfl)) ?_;simp only [go_sem,seval,ne0,A0];repeat' ((with_reducible first|refine wr ?_|refine k_cu ?_ ?_|refine wb2 ?_ ?_<;>(intro hb;try simp only [hb])|fail)<;>try simp only [go_sem,seval,ne0,A0])
   rw [B8 (rv2 rfl A0)];exact ⟨_,_,fin _ _,⟨l,m⟩,u3,rfl,rfl,hres.1,hres.2,b3⟩
  | true =>
   obtain ⟨hok,hlt,hkd2⟩:=P1 (by decide) hmo;obtain ⟨hdl,hv⟩:l=dl/\L8 L E g m u=some (ml,s2):=by
    rcases hv with ⟨-,g1,hv⟩|⟨hn, -⟩
    ·exact ⟨g1,hv⟩
    ·rw [hok] at hn;cases hn
   have hmoR:isR L E u [109,111,100,101]=true:=by rw [R0 hK (by decide +kernel)];exact hmo
   cases g with
   | zero=>simp [L8] at hv
   | succ g =>
   unfold L8 at hv;dsimp only at hv;rw [if_pos ⟨hok,hlt⟩,if_neg (by simp [hmoR])] at hv;by_cases h16:m.length=16
   ·have hd16:((m.length:Int) == 16)=true:=by simp;omega
    have hl9:B7 L E u ((m.length:Int)+1) 16 9=pfl L E u 9:=by rw [S1,if_pos (by omega)]
    have hnk:okR (pfl L E u 9)=false:=by unfold pfl;exact N0 (by decide)
    rw [hl9,if_neg (by rw [hnk];decide)] at hv;have e1:m=ml:=(congrArg Prod.fst (A3u hv hnk)).symm;have e2:pfl L E u 9=s2:=(congrArg Prod.snd (A3u hv hnk)).symm;subst e1 e2;have b3:=hPu.fl (E:=E) (e:=9);simp only [go_sem,seval,hmo];repeat' ((with_reducible first|refine wr ?_|refine k_cu ?_ ?_|refine wb2 ?_ ?_<;>(intro hb;try simp only [hb])|fail)<;>try simp only [go_sem,seval,hmo,hbx,hlen,hd16])
    refine AC.call (c_pfail L E u _ _ t hHt (by omega) 9) ?_;rintro v H' c3 ⟨rfl,rfl⟩ hc3;simp only [go_sem,seval];repeat' ((with_reducible first|refine wr ?_|refine k_cu ?_ ?_|refine wb2 ?_ ?_<;>(intro hb;try simp only [hb])|fail)<;>try simp only [go_sem,seval])
    refine AC.call (c_pend L E (pfl L E u 9) _ _ t A0 (by omega)) ?_;rintro v H' c4 ⟨rfl,rfl⟩ hc4;rw [show (if (pfl L E u 9).i<L.length then pfl L E (pfl L E u 9) 4 else pfl L E u 9)=pfl L E u 9 by rw [R9 hnk];split<;>rfl,A1];simp only [go_sem,seval,ne0,A0,hbx,hb0,hT];repeat' ((with_reducible first|refine wr ?_|refine k_cu ?_ ?_|refine wb2 ?_ ?_<;>(intro hb;try simp only [hb])|fail)<;>try simp only [go_sem,seval,ne0,A0,hbx,hb0,hT])
    refine D1 (A3i (by rfl) (by decide) (by clear hHH;cases o<;>rfl)) ?_;simp only [go_sem,seval,ne0,A0];repeat' ((with_reducible first|refine wr ?_|refine k_cu ?_ ?_|refine wb2 ?_ ?_<;>(intro hb;try simp only [hb])|fail)<;>try simp only [go_sem,seval,ne0,A0])
    rw [B8 (rv2 rfl A0)];exact ⟨_,_,fin _ _,⟨l,m⟩,_,rfl,rfl,.refl _,fun k=>(by rw [hnk] at k;cases k),b3⟩
   have hd16:((m.length:Int) == 16)=false:=by simp;omega
   rw [U9 (by omega),if_pos hok] at hv;cases hmd:Z8 L E g u with
   | none=>rw [hmd] at hv;cases hv
   | some qm =>
   obtain ⟨md,u2⟩:=qm;rw [hmd] at hv;dsimp only at hv;simp only [go_sem,seval,hmo];repeat' ((with_reducible first|refine wr ?_|refine k_cu ?_ ?_|refine wb2 ?_ ?_<;>(intro hb;try simp only [hb])|fail)<;>try simp only [go_sem,seval,hmo,hbx,hlen,hd16])
   refine AC.call (c_pmode L E hL hK g u (md,u2) hmd hPu hmo _ _ t hHt (by omega)) ?_;rintro v H' c3 ⟨x,s5,rfl,rfl,y1,y2,y3⟩ hc3;dsimp only at y1 y2;have ne0:=O1 t cc (cc+1) (c2+4) c3 (by omega);simp only [go_sem,seval,ne0,A0,A1,hbx];repeat' ((with_reducible first|refine wr ?_|refine k_cu ?_ ?_|refine wb2 ?_ ?_<;>(intro hb;try simp only [hb])|fail)<;>try simp only [go_sem,seval,ne0,A0,A1,hbx])
   refine ⟨⟨by rw [A2 (by omega)];exact hbn _ (by omega),by rw [A2 (by omega)];exact hbn _ (by omega)⟩,?_⟩;have hl4:(A4 (m.map Md.v)).length=m.length * 4:=C7 (u:=4) (A8g _) |>.trans (by simp);refine N1 (F4 (cs:=A4 (m.map Md.v)) (fun e=>by rw [hno e];exact ⟨rfl,rfl⟩) (fun i hi=>by have:=ho i hi;rw [A2 (by omega),A2 (by omega)];exact hbo i hi) hl4 (by omega) (by omega) (by omega)) ?_;have hdx:∀ X:Hp,R2 X o (cc+1)=X (cc+1):=fun X=>D4 (fun i hi=>by have:=ho i hi;omega);simp only [go_sem,seval,ne0,A0,A1,hdx,hbx];repeat' ((with_reducible first|refine wr ?_|refine k_cu ?_ ?_|refine wb2 ?_ ?_<;>(intro hb;try simp only [hb])|fail)<;>try simp only [go_sem,seval,ne0,A0,A1,hdx,hbx])
   refine ⟨(g,some c3,m++[x],s5),?_,inv ⟨by omega,by simp only;omega,(fun h=>by cases h),(fun i hi=>by cases hi;omega),by simp only [List.length_append,List.length_singleton];omega,y3,?_⟩,by simp only;omega⟩
   ·intro j b hj;simp only [C3,X0,List.length_append,List.length_singleton,List.map_append,E3] at hj;by_cases e1:j=cc+1
    ·subst e1;by_cases e3:cc+1=c3
     ·omega
     rw [A2 e3,A0] at hj;rw [A0];exact hj
    rw [A2 e1];by_cases e0:j=c3
    ·subst e0;rw [A0] at hj;rw [A0, <- hj];rfl
    rw [A2 e0] at hj ⊢;rw [A2 e1] at hj;by_cases e2:j=t
    ·subst e2;rw [A0] at hj;rw [D4 (fun i hi=>by have:=ho i hi;omega),A2 (by omega),A0];exact hj
    rw [A2 e2] at hj;by_cases e4:j=cc
    ·subst e4;rw [A0] at hj;rw [D4 (fun i hi=>by have:=ho i hi;omega)]
     repeat rw [A2 (by omega)]
     rw [hb0];exact hj
    ·rw [A2 e4] at hj;have hjc:j<cc:=Classical.byContradiction fun h=>by rw [hfr j (by omega)] at hj;cases hj
     rw [D4 (fun i hi=>by have:=ho i hi;omega)]
     repeat rw [A2 (by omega)]
     rw [hbj j hjc e2];exact hj
   ·dsimp only;cases k:okR u2 with
    | true =>
     rw [y2 k,y1.s k];exact .inl ⟨k,hdl,hv⟩
    | false =>
     cases A3u hv k;exact .inr ⟨by rw [y1.ok,k],y1⟩
 have ne0:=K0 t cc (cc+1) (by omega);repeat' ((with_reducible first|refine wr ?_|refine k_cu ?_ ?_|refine wb2 ?_ ?_<;>(intro hb;try simp only [hb])|fail)<;>try simp only [go_sem,seval,ne0,A0,A1])
 refine D5 (fun q:Nat × Option Nat × List Dc × Rd=>[(0,.ptr t 0),(2,.ptr cc 0),(3,.ptr (cc+1) 0)]) (fun q=>C3 (((H.upd cc ⟨0,true,[.snil,.snil]⟩).upd t (paB L E q.2.2.2)).upd (cc+1) ⟨0,true,[B3 q.2.1 q.2.2.1.length,.snil]⟩) q.2.1 ⟨4,true,A4 (q.2.2.1.map Dc.v)⟩)
  (fun q c=>cc+2<=c/\q.1<=f/\(q.2.1=none->q.2.2.1=[])/\(∀ i,q.2.1=some i->cc+1<i/\i<c)/\q.2.2.1.length<=128/\PI L q.2.2.2/\O0 L E q.1 q.2.2.1 q.2.2.2=some (dl,s1)) (fun q=>q.1) (f,none,[],s)
  (by simp [D0,tm,Tm.upd]) (fun j b hj=>?_) ⟨by omega,Nat.le_refl _,fun _=>rfl,(fun i hi=>by cases hi),by simp,hP,hd⟩ ?_
 ·simp only [C3,A2a] at hj;by_cases e1:j=cc+1
  ·subst e1;rw [A0] at hj ⊢;exact hj
  ·rw [A2 e1] at hj ⊢;by_cases e2:j=t
   ·subst e2;rw [A0] at hj;rw [A2 (by omega),ht];exact hj
   ·rw [A2 e2] at hj;exact hj
 clear hd;rintro ⟨g,o,l,u⟩ c ⟨hc,hg,hno,ho,hl1,hPu,hv⟩;dsimp only at hc hg hno ho hl1 hPu hv ⊢;cases g with
 | zero=>simp [O0] at hv
 | succ g =>
 unfold O0 at hv;dsimp only at hv;have hriu:=hPu.i;have hlen:A2k (B3 o l.length)=some (I64 l.length):=by
  cases o with
  | none=>rw [hno rfl];rfl
  | some b=>rfl
 have hHt:C3 (((H.upd cc ⟨0,true,[.snil,.snil]⟩).upd t (paB L E u)).upd (cc+1) ⟨0,true,[B3 o l.length,.snil]⟩) o ⟨4,true,A4 (l.map Dc.v)⟩ t=some (paB L E u):=by rw [C6 (fun i hi=>by have:=ho i hi;omega),A2 (by omega),A0]
 have hbx:C3 (((H.upd cc ⟨0,true,[.snil,.snil]⟩).upd t (paB L E u)).upd (cc+1) ⟨0,true,[B3 o l.length,.snil]⟩) o ⟨4,true,A4 (l.map Dc.v)⟩ (cc+1)=some ⟨0,true,[B3 o l.length,.snil]⟩:=by rw [C6 (fun i hi=>by have:=ho i hi;omega),A0]
 have hbo:∀ i:Nat,o=some i->C3 (((H.upd cc ⟨0,true,[.snil,.snil]⟩).upd t (paB L E u)).upd (cc+1) ⟨0,true,[B3 o l.length,.snil]⟩) o ⟨4,true,A4 (l.map Dc.v)⟩ i=some ⟨4,true,A4 (l.map Dc.v)⟩:=fun i hi=>by subst hi;exact A0
 have hbj:∀ j:Nat,j<cc->¬ j=t->C3 (((H.upd cc ⟨0,true,[.snil,.snil]⟩).upd t (paB L E u)).upd (cc+1) ⟨0,true,[B3 o l.length,.snil]⟩) o ⟨4,true,A4 (l.map Dc.v)⟩ j=H j:=fun j h1 h2=>by rw [C6 (fun i hi=>by have:=ho i hi;omega),A2 (by omega),A2 h2,A2 (by omega)]
 have hb0:C3 (((H.upd cc ⟨0,true,[.snil,.snil]⟩).upd t (paB L E u)).upd (cc+1) ⟨0,true,[B3 o l.length,.snil]⟩) o ⟨4,true,A4 (l.map Dc.v)⟩ cc=some ⟨0,true,[.snil,.snil]⟩:=by rw [C6 (fun i hi=>by have:=ho i hi;omega),A2 (by omega),A2 (by omega),A0]
 have hbn:∀ j:Nat,c<=j->C3 (((H.upd cc ⟨0,true,[.snil,.snil]⟩).upd t (paB L E u)).upd (cc+1) ⟨0,true,[B3 o l.length,.snil]⟩) o ⟨4,true,A4 (l.map Dc.v)⟩ j=none:=fun j h1=>by rw [C6 (fun i hi=>by have:=ho i hi;omega),A2 (by omega),A2 (by omega),A2 (by omega)];exact hfr _ (by omega)
 have hsub:∀ z,Sub (C3 (((H.upd cc ⟨0,true,[.snil,.snil]⟩).upd t (paB L E z)).upd (cc+1) ⟨0,true,[B3 o l.length,.snil]⟩) o ⟨4,true,A4 (l.map Dc.v)⟩) ((C3 (((H.upd cc ⟨0,true,[.snil,.snil]⟩).upd t (paB L E u)).upd (cc+1) ⟨0,true,[B3 o l.length,.snil]⟩) o ⟨4,true,A4 (l.map Dc.v)⟩).upd t (paB L E z)):=fun z j b hj=>by
  by_cases e2:j=t
  ·subst e2;rw [C6 (fun i hi=>by have:=ho i hi;omega),A2 (by omega),A0] at hj;rw [A0];exact hj
  ·rw [A2 e2];cases o with
   | none =>
    simp only [C3] at hj ⊢;by_cases e1:j=cc+1
    ·subst e1;rw [A0] at hj ⊢;exact hj
    ·rw [A2 e1,A2 e2] at hj ⊢;exact hj
   | some i =>
    simp only [C3] at hj ⊢;by_cases e0:j=i
    ·subst e0;rw [A0] at hj ⊢;exact hj
    rw [A2 e0] at hj ⊢;by_cases e1:j=cc+1
    ·subst e1;rw [A0] at hj ⊢;exact hj
    ·rw [A2 e1,A2 e2] at hj ⊢;exact hj
 have htail:=tail o l;generalize hHH:C3 (((H.upd cc ⟨0,true,[.snil,.snil]⟩).upd t (paB L E u)).upd (cc+1) ⟨0,true,[B3 o l.length,.snil]⟩) o ⟨4,true,A4 (l.map Dc.v)⟩=HH at hHt hbx hbo hbj hb0 hbn hsub ⊢;have hpa:=A4b (A0v (E:=E) hK u (l:=C5) (by decide +kernel));repeat' ((with_reducible first|refine wr ?_|refine cpc c_pdecls ?_|refine k_cu ?_ ?_|refine wb2 ?_ ?_<;>(intro hb;try simp only [hb])|fail)<;>try simp only [go_sem,seval])
 refine AC.call (c_pis L E u _ _ t hHt (by omega) 2 C5 (by decide)) ?_;rintro v H' c2 ⟨rfl,rfl⟩ hc2;by_cases hk:B4 L E u C5<0
 ·have hpf:isP L E u 2 C5=false:=by rw [hpa];exact decide_eq_false (by omega)
  rw [if_pos hk] at hv;have e1:l=dl:=congrArg Prod.fst (Option.some.inj hv);have e2:u=s1:=congrArg Prod.snd (Option.some.inj hv);subst e1 e2;simp only [go_sem,seval,hpf];repeat' ((with_reducible first|refine E1 (p:=IW _ _ (pz Tryz.prog 73 (.o (.o (.o (.i .h))))) _ _) ?_|refine wr ?_|refine k_cu ?_ ?_|refine wb2 ?_ ?_<;>(intro hb;try simp only [hb])|fail)<;>try simp only [go_sem,seval,hpf])
  rw [<- hHH];refine IW.stage (by simp [D0,tm,Tm.upd]) (htail u c2 (by omega) hno (fun i hi=>by have:=ho i hi;omega) hPu ?_);cases ho:okR u with
  | true=>exact .inl ⟨rfl,rfl,rfl⟩
  | false=>exact .inr ⟨rfl,.refl _⟩
 have hpt:isP L E u 2 C5=true:=by rw [hpa];exact decide_eq_true (by omega)
 obtain ⟨hok,hlt, -⟩:=P1 (by decide) hpt;rw [if_neg hk] at hv;by_cases h128:l.length=128
 ·have hd128:((l.length:Int) == 128)=true:=by simp;omega
  have hl9:B7 L E u ((l.length:Int)+1) 128 9=pfl L E u 9:=by rw [S1,if_pos (by omega)]
  have hnk:okR (pfl L E u 9)=false:=by unfold pfl;exact N0 (by decide)
  rw [hl9,if_neg (by rw [hnk];decide)] at hv;have e1:l=dl:=(congrArg Prod.fst (rld_nok hv hnk)).symm;have e2:pfl L E u 9=s1:=(congrArg Prod.snd (rld_nok hv hnk)).symm;subst e1 e2;simp only [go_sem,seval,hpt];repeat' ((with_reducible first|refine wr ?_|refine k_cu ?_ ?_|refine wb2 ?_ ?_<;>(intro hb;try simp only [hb])|fail)<;>try simp only [go_sem,seval,hpt,hbx,hlen,hd128])
  refine AC.call (c_pfail L E u _ _ t hHt (by omega) 9) ?_;rintro v H' c3 ⟨rfl,rfl⟩ hc3;simp only [go_sem,seval];repeat' ((with_reducible first|refine E1 (p:=IW _ _ (pz Tryz.prog 73 (.o (.o (.o (.i .h))))) _ _) ?_|refine wr ?_|refine k_cu ?_ ?_|refine wb2 ?_ ?_<;>(intro hb;try simp only [hb])|fail)<;>try simp only [go_sem,seval])
  exact IW.weaken (Q7 (by simp [D0,tm,Tm.upd])) (hsub _) (htail (pfl L E u 9) c3 (by omega) hno (fun i hi=>by have:=ho i hi;omega) hPu.fl (.inr ⟨hnk,.refl _⟩))
 have hd128:((l.length:Int) == 128)=false:=by simp;omega
 rw [U9 (by omega),if_pos hok] at hv;simp only [go_sem,seval,hpt];repeat' ((with_reducible first|refine wr ?_|refine k_cu ?_ ?_|refine wb2 ?_ ?_<;>(intro hb;try simp only [hb])|fail)<;>try simp only [go_sem,seval,hpt,hbx,hlen,hd128])
 refine AC.call (c_pdecl L E u _ _ t hHt (by omega) hL hv0 hK hpt) ?_;rintro v H' c3 ⟨rfl,rfl⟩ hc3;have y3:=pi_dcl (E:=E) (k:=B4 L E u C5) hK hPu hlt;generalize S4 L E (B4 L E u C5) u=Q at hv y3 ⊢;obtain ⟨dc,u2⟩:=Q;dsimp only at hv y3 ⊢;have ne0:=O1 t cc (cc+1) (c2+4) c3 (by omega);simp only [go_sem,seval,ne0,A0,A1,hbx];repeat' ((with_reducible first|refine wr ?_|refine k_cu ?_ ?_|refine wb2 ?_ ?_<;>(intro hb;try simp only [hb])|fail)<;>try simp only [go_sem,seval,ne0,A0,A1,hbx])
 refine ⟨⟨by rw [A2 (by omega)];exact hbn _ (by omega),by rw [A2 (by omega)];exact hbn _ (by omega)⟩,?_⟩;have hl4:(A4 (l.map Dc.v)).length=l.length * 4:=C7 (u:=4) (A4g _) |>.trans (by simp);refine N1 (F4 (cs:=A4 (l.map Dc.v)) (fun e=>by rw [hno e];exact ⟨rfl,rfl⟩) (fun i hi=>by have:=ho i hi;rw [A2 (by omega),A2 (by omega)];exact hbo i hi) hl4 (by omega) (by omega) (by omega)) ?_;have hdx:∀ X:Hp,R2 X o (cc+1)=X (cc+1):=fun X=>D4 (fun i hi=>by have:=ho i hi;omega);simp only [go_sem,seval,ne0,A0,A1,hdx,hbx];repeat' ((with_reducible first|refine wr ?_|refine k_cu ?_ ?_|refine wb2 ?_ ?_<;>(intro hb;try simp only [hb])|fail)<;>try simp only [go_sem,seval,ne0,A0,A1,hdx,hbx])
 refine ⟨(g,some c3,l++[dc],u2),?_,inv ⟨by omega,by simp only;omega,(fun h=>by cases h),(fun i hi=>by cases hi;omega),by simp only [List.length_append,List.length_singleton];omega,y3,hv⟩,by simp only;omega⟩;intro j b hj;simp only [C3,X0,List.length_append,List.length_singleton,List.map_append,E3] at hj;by_cases e1:j=cc+1
 ·subst e1;by_cases e3:cc+1=c3
  ·omega
  rw [A2 e3,A0] at hj;rw [A0];exact hj
 rw [A2 e1];by_cases e0:j=c3
 ·subst e0;rw [A0] at hj;rw [A0, <- hj];rfl
 rw [A2 e0] at hj ⊢;rw [A2 e1] at hj;by_cases e2:j=t
 ·subst e2;rw [A0] at hj;rw [D4 (fun i hi=>by have:=ho i hi;omega),A2 (by omega),A0];exact hj
 rw [A2 e2] at hj;by_cases e4:j=cc
 ·subst e4;rw [A0] at hj;rw [D4 (fun i hi=>by have:=ho i hi;omega)]
  repeat rw [A2 (by omega)]
  rw [hb0];exact hj
 ·rw [A2 e4] at hj;have hjc:j<cc:=Classical.byContradiction fun h=>by rw [hfr j (by omega)] at hj;cases hj
  rw [D4 (fun i hi=>by have:=ho i hi;omega)]
  repeat rw [A2 (by omega)]
  rw [hbj j hjc e2];exact hj
end Go.Proofs.YthlpinppaclofaaGreatDoor
set_option maxHeartbeats 4000000
namespace Go.Proofs.YthlpinppaclofaaGreatDoor
open Go.Eng (IC IOper DReg IFn B5)
open Go.Sym Go.Pb
theorem c_letter (c:UInt8):PC Tryz.prog 142 [.int .u8 c.toNat] (.bool (ltB c)):=by
 refine PC.ofT A7 rfl (Nat.le_of_ble_eq_true rfl) (by simp [DV.nlL,DV.nl]) (by simp [DV.nlL,DV.nl]) ?_;repeat' ((with_reducible first|refine wr ?_|refine k_cu ?_ ?_|refine wb2 ?_ ?_<;>(intro hb;try simp only [hb])|fail)<;>try simp only [go_sem,seval])
 all_goals (refine A5 (congrArg DV.bool ?_);rw [Bool.eq_iff_iff];simp_all [ltB]<;>omega)
theorem c_digit (c:UInt8):PC Tryz.prog 162 [.int .u8 c.toNat] (.bool (dgB c)):=by
 refine PC.ofT A7 rfl (Nat.le_of_ble_eq_true rfl) (by simp [DV.nlL,DV.nl]) (by simp [DV.nlL,DV.nl]) ?_;repeat' ((with_reducible first|refine wr ?_|refine k_cu ?_ ?_|refine wb2 ?_ ?_<;>(intro hb;try simp only [hb])|fail)<;>try simp only [go_sem,seval])
 all_goals (refine A5 (congrArg DV.bool ?_);rw [Bool.eq_iff_iff];simp_all [dgB]<;>omega)
theorem c_letterR (c:UInt8):PC Tryz.prog 132 [.int .u8 c.toNat] (.bool (ltB c)):=by
 refine PC.ofT A7 rfl (Nat.le_of_ble_eq_true rfl) (by simp [DV.nlL,DV.nl]) (by simp [DV.nlL,DV.nl]) ?_;repeat' ((with_reducible first|refine wr ?_|refine k_cu ?_ ?_|refine wb2 ?_ ?_<;>(intro hb;try simp only [hb])|fail)<;>try simp only [go_sem,seval])
 all_goals (refine A5 (congrArg DV.bool ?_);rw [Bool.eq_iff_iff];simp_all [ltB]<;>omega)
theorem c_digitR (c:UInt8):PC Tryz.prog 134 [.int .u8 c.toNat] (.bool (dgB c)):=by
 refine PC.ofT A7 rfl (Nat.le_of_ble_eq_true rfl) (by simp [DV.nlL,DV.nl]) (by simp [DV.nlL,DV.nl]) ?_;repeat' ((with_reducible first|refine wr ?_|refine k_cu ?_ ?_|refine wb2 ?_ ?_<;>(intro hb;try simp only [hb])|fail)<;>try simp only [go_sem,seval])
 all_goals (refine A5 (congrArg DV.bool ?_);rw [Bool.eq_iff_iff];simp_all [dgB]<;>omega)
theorem c_part (c:UInt8):PC Tryz.prog 144 [.int .u8 c.toNat] (.bool (ptB c)):=by
 refine PC.ofT A7 rfl (Nat.le_of_ble_eq_true rfl) (by simp [DV.nlL,DV.nl]) (by simp [DV.nlL,DV.nl]) ?_;repeat' ((with_reducible first|refine wr ?_|refine cpc (c_letter c) ?_|refine cpc (c_digit c) ?_|refine k_cu ?_ ?_|refine wb2 ?_ ?_<;>(intro hb;try simp only [hb])|fail)<;>try simp only [go_sem,seval])
 all_goals (refine A5 (congrArg DV.bool ?_);rw [Bool.eq_iff_iff];simp_all [ptB]<;>omega)
theorem c_no10 (c:UInt8):PC Tryz.prog 161 [.int .u8 c.toNat] (.bool (decide (c.toNat≠10))):=by
 refine PC.ofT A7 rfl (Nat.le_of_ble_eq_true rfl) (by simp [DV.nlL,DV.nl]) (by simp [DV.nlL,DV.nl]) ?_;repeat' ((with_reducible first|refine wr ?_|refine k_cu ?_ ?_|refine wb2 ?_ ?_<;>(intro hb;try simp only [hb])|fail)<;>try simp only [go_sem,seval])
 all_goals (refine A5 (congrArg DV.bool ?_);rw [Bool.eq_iff_iff];simp_all<;>omega)
theorem c_span {p:UInt8->Bool} {f:Nat} {a cs:List DV} (s:List UInt8) (hs:s.length<=9223372036854775807) (na:DV.nlL a=true) (ncs:DV.nlL cs=true) (hf:∀ x∈s,PC Tryz.prog f (a++[.int .u8 x.toNat]++cs) (.bool (p x))) :
  PC Tryz.prog 143 [.str s,.func f a cs] (I64 (C2 p s)):=by
 refine PC.ofT A7 rfl (Nat.le_of_ble_eq_true rfl) (by simp [DV.nlL,DV.nl,na,ncs]) rfl ?_;repeat' ((with_reducible first|refine wr ?_|refine k_cu ?_ ?_|refine wb2 ?_ ?_<;>(intro hb;try simp only [hb])|fail)<;>try simp only [go_sem,seval])
 refine D5 (fun k:Nat=>[(0,.str s),(1,.func f a cs),(5,I64 k)]) (fun _=>nil) (fun k _=>k<=s.length/\k<=C2 p s) (fun k=>s.length-k) 0 (by simp [D0,tm,Tm.upd]) (Sub.nil _) (by simp) ?_;rintro k c ⟨hk,he⟩;by_cases hlt:k<s.length
 ·have hd:decide ((k:Int)<s.length)=true:=by simpa using hlt
  have hg:=List.getElem?_eq_getElem hlt;have hw:=w64 (n:=(k:Int)+1) (by omega) (by omega);have hst:=A7r hg he;have hc:=hf s[k] (List.getElem_mem hlt);repeat' ((with_reducible first|refine wr ?_|refine cpc hc ?_|refine k_cu ?_ ?_|refine wb2 ?_ ?_<;>(intro hb;try simp only [hb])|fail)<;>try simp only [go_sem,seval,hd,hg,hw])
  ·exact ⟨k+1,rfl,Sub.refl _,inv ⟨by omega,hst.1 hb⟩,by omega⟩
  ·refine A5 ?_;rw [hst.2 hb]
 ·have hd:decide ((k:Int)<s.length)=false:=by simpa using hlt
  repeat' ((with_reducible first|refine wr ?_|refine k_cu ?_ ?_|refine wb2 ?_ ?_<;>(intro hb;try simp only [hb])|fail)<;>try simp only [go_sem,seval,hd])
  refine A5 ?_;rw [spnM_end (by omega) he]
theorem c_spanPt (s:List UInt8) (hs:s.length<=9223372036854775807):PC Tryz.prog 143 [.str s,.func 144 [] []] (I64 (C2 ptB s)) :=
 c_span s hs rfl rfl fun x _=>c_part x
theorem c_spanDg (s:List UInt8) (hs:s.length<=9223372036854775807):PC Tryz.prog 143 [.str s,.func 162 [] []] (I64 (C2 dgB s)) :=
 c_span s hs rfl rfl fun x _=>c_digit x
theorem c_spanCm (s:List UInt8) (hs:s.length<=9223372036854775807):PC Tryz.prog 143 [.str s,.func 161 [] []] (I64 (C2 (fun c=>decide (c.toNat≠10)) s)) :=
 c_span s hs rfl rfl fun x _=>c_no10 x
end Go.Proofs.YthlpinppaclofaaGreatDoor
end

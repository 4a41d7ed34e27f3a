/-
  HELPERS of the claim: part 5 of its texts.
-/
import Derived.Test.YthlpinppaclofaaGreatDoorSyfd
noncomputable section
set_option maxHeartbeats 4000000
set_option maxRecDepth 100000
set_option linter.unusedSimpArgs false
set_option linter.unusedVariables false
namespace Go.Proofs.YthlpinppaclofaaGreatDoor
open Go.Eng (IC IOper DReg IFn C2)
open Go.Sym Go.Pb
theorem D6x {ρ : Ren} {v:Value} {a:DV} (h:VRel ρ (.agg [a,.snil]) v):VRel ρ (.agg [a,.lst []]) v:=by
 obtain ⟨bb,rfl,k1,k2⟩:=h.agg_inv;refine .agg _ _ k1 fun j x y hx hy=>?_
 match j with
 | 0=>cases hx;exact k2 0 _ y rfl hy
 | 1=>cases hx;exact (k2 1 _ y rfl hy).snil_lst
 | _+2=>cases hx
theorem C2n {K H':Hp} {cc:Nat} {o:Option Nat} {a:DV} (l:List Md) (hK:∀ i,cc<=i->K i=none) (ho:∀ i,o=some i->cc<=i) (hno:o=none->l=[]) (hb:∀ i,o=some i->H' i=some ⟨4,true,A4 (l.map Md.v)⟩) (h:∀ j,j<cc->H' j=K j) :
  GL H' [.agg [a,B6 o l.length]] K [.agg [a,G6 l]]:=by
 cases o with
 | none =>
  obtain rfl:=hno rfl;exact (I5 hK h).trans (GL.view fun ρ vs hA=>N8 (fun v h=>D6x h) vs hA)
 | some i =>
  have:=ho i rfl;exact GL.frzS (id:=i) (hb i rfl) rfl (fun j=>by
   by_cases hj:j<cc
   ·exact .inr ⟨by omega,(h j hj).symm⟩
   ·exact .inl (hK j (by omega))) (.cons _ _ _ _ (.agg _ _ (.cons _ _ _ _ (.same _) (.cons _ _ _ _ (N7 (u:=4) (by simp) (A0g l) ⟨[],by simp⟩) .nil))) .nil)
theorem rv2 {s:Sym.St} {x i u:Nat} {a b:DV} {o:Bool} (h:s.T x=.ptr i 0) (hb:s.H i=some ⟨u,o,[a,b]⟩):A2f s [.cell x 2 true]=some (.agg [a,b]):=by
 simp only [A2f,A4d,h,ldv,ldB,hb];rfl
theorem c_rules (L:List Tok) (E:Int) (hL:L.length<=1000000000) (hv:∀ x∈L,0<=x.value/\x.value<=9223372036854775807) (f:Nat) (s:Rd) (r:Ru × Rd) (h:A2e L E f s=some r) (hi:s.i<=L.length):RdC L E 47 [] s (r.1.v,r.2):=by
 intro H cc t ht htc;refine AC.bodyT B1 rfl (A0B rfl) fun hfr=>?_;unfold A2e at h;cases hd:P3 L E f [] s with
 | none=>rw [hd] at h;cases h
 | some q =>
 obtain ⟨dl,s1⟩:=q;rw [hd] at h;dsimp only at h;cases hm:N2 L E f [] s1 with
 | none=>rw [hm] at h;cases h
 | some q =>
 obtain ⟨ml,s2⟩:=q;rw [hm] at h;cases h;have ne0:=O0 t cc (cc+1) (by omega);repeat' ((with_reducible first|refine wr ?_|refine cpc c_decls31 ?_|refine A2 ?_ ?_|fail)<;>try simp only [go_sem,seval,ne0,A0,A1])
 refine AC.call (c_among L E s _ _ t (by repeat (first|exact ht|rw [A3 (by omega)])) (by omega) D1 (by decide)) ?_;rintro v H' c1 ⟨rfl,rfl⟩ hc1;simp only [go_sem,seval,ne0];repeat' ((with_reducible first|refine wr ?_|refine A2 ?_ ?_|fail)<;>try simp only [go_sem,seval,ne0])
 refine D8 (fun q:Nat × Option Nat × List Dc × Rd=>[(0,.ptr t 0),(2,.ptr cc 0),(3,.ptr (cc+1) 0),(4,I64 (B9 L E q.2.2.2 D1))]) (fun q=>C5 (((H.upd cc ⟨0,true,[.snil,.snil]⟩).upd t (rdR L E q.2.2.2)).upd (cc+1) ⟨0,true,[B6 q.2.1 q.2.2.1.length,.snil]⟩) q.2.1 ⟨4,true,A4 (q.2.2.1.map Dc.v)⟩)
  (fun q c=>cc+2<=c/\q.1<=f/\q.2.2.2.i<=L.length/\(q.2.1=none->q.2.2.1=[])/\(∀ i,q.2.1=some i->cc+1<i/\i<c)/\q.2.2.1.length<=128/\P3 L E q.1 q.2.2.1 q.2.2.2=some (dl,s1)) (fun q=>q.1) (f,none,[],s)
  (by simp [C9,tm,Tm.upd]) (fun j b hj=>?_) ⟨by omega,A0E _,hi,fun _=>rfl,(fun i hi=>by cases hi),by simp,hd⟩ ?_
 ·simp only [C5,A5r] at hj;by_cases e1:j=cc+1
  ·subst e1;rw [A0] at hj ⊢;exact hj
  ·rw [A3 e1] at hj ⊢;by_cases e2:j=t
   ·subst e2;rw [A0] at hj;rw [A3 (by omega),ht];exact hj
   ·rw [A3 e2] at hj;exact hj
 clear hd;rintro ⟨g,o,l,u⟩ c ⟨hc,hg,hi5,hno,ho,hl1,hv0⟩;dsimp only at hc hg hi5 hno ho hl1 hv0 ⊢;cases g with
 | zero=>simp [P3] at hv0
 | succ g =>
 unfold P3 at hv0;dsimp only at hv0;have hkr : -1<=B9 L E u D1/\B9 L E u D1<8:=A1z L E u D1 0;have hw:IntKind.i64.wrap ((l.length:Int)+1)=(l.length:Int)+1:=w64 (by omega) (by omega);have hlen:A5z (B6 o l.length)=some (I64 l.length):=by
  cases o with
  | none=>rw [hno rfl];rfl
  | some b=>rfl
 by_cases hk:B9 L E u D1<0
 ·rw [if_pos hk] at hv0;have hdk:decide (B9 L E u D1≥0)=false:=by simp;omega
  have e1:l=dl:=congrArg Prod.fst (Option.some.inj hv0);have e2:u=s1:=congrArg Prod.snd (Option.some.inj hv0);subst e1 e2;repeat' ((with_reducible first|refine wr ?_|refine A2 ?_ ?_|fail)<;>try simp only [go_sem,seval,hdk])
  clear hdk hkr hk hv0;refine IW.keep [0,2,3] [.ptr t 0,.ptr cc 0,.ptr (cc+1) 0] (B7z (Hb:=(H.upd cc ⟨0,true,[.snil,.snil]⟩).upd t (rdR L E u)) (ci:=cc+1) (u:=4) (pre:=[]) (suf:=[.snil]) (xs:=l.map Dc.v) (by simp [DV.one]) (fun h=>by rw [hno h];rfl) (fun i hi=>by have:=ho i hi;exact ⟨by omega,by rw [A3 (by omega),A3 (by omega)];exact hfr i (by omega)⟩) (by simp) (W1 _)) ?_;refine D8 (fun q:Nat × Option Nat × List Md × Rd=>[(0,.ptr t 0),(2,.ptr cc 0),(3,.ptr (cc+1) 0)]) (fun q=>C5 (((H.upd cc ⟨0,true,[.snil,.snil]⟩).upd t (rdR L E q.2.2.2)).upd (cc+1) ⟨0,true,[E8 l,B6 q.2.1 q.2.2.1.length]⟩) q.2.1 ⟨4,true,A4 (q.2.2.1.map Md.v)⟩)
   (fun q c=>cc+2<=c/\q.1<=f/\q.2.2.2.i<=L.length/\(q.2.1=none->q.2.2.1=[])/\(∀ i,q.2.1=some i->cc+1<i/\i<c)/\q.2.2.1.length<=16/\N2 L E q.1 q.2.2.1 q.2.2.2=some (ml,s2)) (fun q=>q.1) (f,none,[],u)
   (by simp [C9,tm,Tm.upd]) (fun j b hj=>hj) ⟨by omega,A0E _,hi5,fun _=>rfl,(fun i hi=>by cases hi),by simp,hm⟩ ?_
  clear hm hlen hw;clear hno ho hl1 hi5;rintro ⟨g,o,m,u⟩ c ⟨hc,hg,hi5,hno,ho,hl1,hv⟩;dsimp only at hc hg hi5 hno ho hl1 hv ⊢;cases g with
  | zero=>simp [N2] at hv
  | succ g =>
  unfold N2 at hv;dsimp only at hv;have hw:IntKind.i64.wrap ((m.length:Int)+1)=(m.length:Int)+1:=w64 (by omega) (by omega);have hlen:A5z (B6 o m.length)=some (I64 m.length):=by
   cases o with
   | none=>rw [hno rfl];rfl
   | some b=>rfl
  have hHt:C5 (((H.upd cc ⟨0,true,[.snil,.snil]⟩).upd t (rdR L E u)).upd (cc+1) ⟨0,true,[E8 l,B6 o m.length]⟩) o ⟨4,true,A4 (m.map Md.v)⟩ t=some (rdR L E u):=by rw [D2 (fun i hi=>by have:=ho i hi;omega),A3 (by omega),A0]
  have hbx:C5 (((H.upd cc ⟨0,true,[.snil,.snil]⟩).upd t (rdR L E u)).upd (cc+1) ⟨0,true,[E8 l,B6 o m.length]⟩) o ⟨4,true,A4 (m.map Md.v)⟩ (cc+1)=some ⟨0,true,[E8 l,B6 o m.length]⟩:=by rw [D2 (fun i hi=>by have:=ho i hi;omega),A0]
  have hbo:∀ i:Nat,o=some i->C5 (((H.upd cc ⟨0,true,[.snil,.snil]⟩).upd t (rdR L E u)).upd (cc+1) ⟨0,true,[E8 l,B6 o m.length]⟩) o ⟨4,true,A4 (m.map Md.v)⟩ i=some ⟨4,true,A4 (m.map Md.v)⟩:=fun i hi=>by subst hi;exact A0
  have hbj:∀ j:Nat,j<cc->¬ j=t->C5 (((H.upd cc ⟨0,true,[.snil,.snil]⟩).upd t (rdR L E u)).upd (cc+1) ⟨0,true,[E8 l,B6 o m.length]⟩) o ⟨4,true,A4 (m.map Md.v)⟩ j=H j:=fun j h1 h2=>by rw [D2 (fun i hi=>by have:=ho i hi;omega),A3 (by omega),A3 h2,A3 (by omega)]
  have hb0:C5 (((H.upd cc ⟨0,true,[.snil,.snil]⟩).upd t (rdR L E u)).upd (cc+1) ⟨0,true,[E8 l,B6 o m.length]⟩) o ⟨4,true,A4 (m.map Md.v)⟩ cc=some ⟨0,true,[.snil,.snil]⟩:=by rw [D2 (fun i hi=>by have:=ho i hi;omega),A3 (by omega),A3 (by omega),A0]
  have hbn:∀ j:Nat,c<=j->C5 (((H.upd cc ⟨0,true,[.snil,.snil]⟩).upd t (rdR L E u)).upd (cc+1) ⟨0,true,[E8 l,B6 o m.length]⟩) o ⟨4,true,A4 (m.map Md.v)⟩ j=none:=fun j h1=>by rw [D2 (fun i hi=>by have:=ho i hi;omega),A3 (by omega),A3 (by omega),A3 (by omega)];exact hfr j (by omega)
  have hT:(B6 o m.length).one=true:=by cases o<;>rfl
  generalize hHH:C5 (((H.upd cc ⟨0,true,[.snil,.snil]⟩).upd t (rdR L E u)).upd (cc+1) ⟨0,true,[E8 l,B6 o m.length]⟩) o ⟨4,true,A4 (m.map Md.v)⟩=HH at hHt hbx hbo hbj hb0 hbn ⊢;have fin:∀ (u2:Rd) (x:Blk),GL ((HH.upd t (rdR L E u2)).upd cc x) [.agg [E8 l,B6 o m.length]] (H.upd t (rdR L E u2)) [.agg [E8 l,G6 m]]:=fun u2 x =>
   C2n (cc:=cc) m (C0 hfr htc) (fun i hi=>by have:=ho i hi;omega) hno (fun i hi=>by have:=ho i hi;rw [A3 (by omega),A3 (by omega)];exact hbo i hi) (fun j hj=>by
    rw [A3 (by omega)];by_cases e1:j=t
    ·subst e1;rw [A0,A0]
    ·rw [A3 e1,A3 e1,hbj j hj e1])
  have fin0:∀ (x:Blk),GL (HH.upd cc x) [.agg [E8 l,B6 o m.length]] (H.upd t (rdR L E u)) [.agg [E8 l,G6 m]]:=fun x=>by
   have h1:=fin u x
   rwa [upd_same hHt] at h1
  repeat' ((with_reducible first|refine wr ?_|refine A2 ?_ ?_|fail)<;>try simp only [go_sem,seval])
  refine AC.call (c_rdok L E u _ _ t hHt (by omega)) ?_;rintro v H' c2 ⟨rfl,rfl⟩ hc2;cases hok:okR u with
  | false =>
   rw [if_neg (by simp [hok])] at hv;have e1:m=ml:=congrArg Prod.fst (Option.some.inj hv);have e2:u=s2:=congrArg Prod.snd (Option.some.inj hv);subst e1 e2;have ne0:=O0 t cc (cc+1) (by omega);simp only [go_sem,seval,hok,hbx,ne0,hT,hb0];repeat' ((with_reducible first|refine wr ?_|refine A2 ?_ ?_|fail)<;>try simp only [go_sem,seval,hok,hHt,hbx,ne0,hT])
   rw [hb0];refine C4 (A5n (by rfl) (by decide) (by clear hHH;cases o<;>rfl)) ?_;simp only [go_sem,seval,ne0,A0];repeat' ((with_reducible first|refine wr ?_|refine A2 ?_ ?_|fail)<;>try simp only [go_sem,seval,ne0,A0])
   rw [D9 (rv2 rfl A0)];exact ⟨_,_,fin0 _,rfl,rfl⟩
  | true =>
   by_cases hlt:u.i<L.length
   ·rw [if_pos ⟨hok,hlt⟩] at hv;have hdl:decide ((u.i:Int)<(L.length:Int))=true:=by simpa using hlt
    simp only [go_sem,seval,hok,hHt,hdl];repeat' ((with_reducible first|refine wr ?_|refine A2 ?_ ?_|fail)<;>try simp only [go_sem,seval,hok,hHt,hdl])
    refine AC.call (c_is L E u _ _ t hHt (by omega) _) ?_;rintro v H' c3 ⟨rfl,rfl⟩ hc3;cases hmo:isR L E u [109,111,100,101] with
    | false =>
     rw [if_pos hmo] at hv;have e1:m=ml:=congrArg Prod.fst (Option.some.inj hv);have e2:O3 L E u=s2:=congrArg Prod.snd (Option.some.inj hv);subst e1 e2;have ne0:=O0 t cc (cc+1) (by omega);simp only [go_sem,seval,hmo];repeat' ((with_reducible first|refine wr ?_|refine A2 ?_ ?_|fail)<;>try simp only [go_sem,seval,hmo])
     refine AC.call (c_syntax L E u _ _ t hHt (by omega)) ?_;rintro v H' c4 ⟨rfl,rfl⟩ hc4;simp only [go_sem,seval,ne0,A0,hbx,hb0,hT];repeat' ((with_reducible first|refine wr ?_|refine A2 ?_ ?_|fail)<;>try simp only [go_sem,seval,ne0,A0,hbx,hb0,hT])
     refine C4 (A5n (by rfl) (by decide) (by clear hHH;cases o<;>rfl)) ?_;simp only [go_sem,seval,ne0,A0];repeat' ((with_reducible first|refine wr ?_|refine A2 ?_ ?_|fail)<;>try simp only [go_sem,seval,ne0,A0])
     rw [D9 (rv2 rfl A0)];exact ⟨_,_,fin _ _,rfl,rfl⟩
    | true =>
     rw [if_neg (by rw [hmo];decide)] at hv;simp only [go_sem,seval,hmo];repeat' ((with_reducible first|refine wr ?_|refine A2 ?_ ?_|fail)<;>try simp only [go_sem,seval,hmo,hbx,hlen,hw])
     refine AC.call (c_limit L E u _ _ t hHt (by omega) _ _ _) ?_;rintro v H' c4 ⟨rfl,rfl⟩ hc4;have j1:(C7 L E u ((m.length:Int)+1) 16 9).i=u.i:=G9;have j2:=fun h=>I1 (L:=L) (E:=E) (s:=u) (n:=(m.length:Int)+1) (m:=16) (e:=9) (by decide) h;generalize C7 L E u ((m.length:Int)+1) 16 9=u1 at hv j1 j2 ⊢;simp only [go_sem,seval];repeat' ((with_reducible first|refine wr ?_|refine A2 ?_ ?_|fail)<;>try simp only [go_sem,seval])
     refine AC.call (c_rdok L E u1 _ _ t A0 (by omega)) ?_;rintro v H' c5 ⟨rfl,rfl⟩ hc5;cases hok1:okR u1 with
     | false =>
      rw [if_neg (by rw [hok1];decide)] at hv;simp only [go_sem,seval,hok1];repeat' ((with_reducible first|refine wr ?_|refine A2 ?_ ?_|fail)<;>try simp only [go_sem,seval,hok1])
      refine ⟨(g,o,m,u1),?_,inv ⟨by omega,by simp only;omega,by rw [j1];exact hi5,hno,(fun i hi=>by have:=ho i hi;omega),hl1,hv⟩,by simp only;omega⟩;intro j b hj;by_cases e2:j=t
      ·subst e2;rw [D2 (fun i hi=>by have:=ho i hi;omega),A3 (by omega),A0] at hj;rw [A0];exact hj
      ·rw [A3 e2, <- hHH];cases o with
       | none =>
        simp only [C5] at hj ⊢;by_cases e1:j=cc+1
        ·subst e1;rw [A0] at hj ⊢;exact hj
        ·rw [A3 e1,A3 e2] at hj ⊢;exact hj
       | some i =>
        simp only [C5] at hj ⊢;by_cases e0:j=i
        ·subst e0;rw [A0] at hj ⊢;exact hj
        rw [A3 e0] at hj ⊢;by_cases e1:j=cc+1
        ·subst e1;rw [A0] at hj ⊢;exact hj
        ·rw [A3 e1,A3 e2] at hj ⊢;exact hj
     | true =>
      rw [if_pos hok1] at hv;obtain ⟨-,j3,rfl⟩:=j2 hok1;cases hmd:A0s L E g u1 with
      | none=>rw [hmd] at hv;cases hv
      | some qm =>
       obtain ⟨md,u2⟩:=qm;rw [hmd] at hv;dsimp only at hv;have j6:=C7o hmd hi5;have ne0:=O0 t cc (cc+1) (by omega);simp only [go_sem,seval,hok1,ne0,A0,A1,hbx];repeat' ((with_reducible first|refine wr ?_|refine A2 ?_ ?_|fail)<;>try simp only [go_sem,seval,hok1,ne0,A0,A1,hbx])
       refine AC.call (c_mode L E hL g u1 (md,u2) hmd hi5 _ _ t A0 (by omega)) ?_;rintro v H' c6 ⟨rfl,rfl⟩ hc6;dsimp only;have ne0:=P0 t cc (cc+1) c6 (c6+1) (by omega);simp only [go_sem,seval,ne0,A0,A1,hbx];repeat' ((with_reducible first|refine wr ?_|refine A2 ?_ ?_|fail)<;>try simp only [go_sem,seval,ne0,A0,A1,hbx])
       refine ⟨⟨by rw [A3 (by omega)];exact hbn _ (by omega),by rw [A3 (by omega)];exact hbn _ (by omega)⟩,?_⟩;have hl4:(A4 (m.map Md.v)).length=m.length * 4:=B5 (u:=4) (A0g _) |>.trans (by simp);repeat' ((with_reducible first|refine wr ?_|refine A2 ?_ ?_|fail)<;>try simp only [go_sem,seval,ne0,A0,A1,hbx])
       rw [E6 (cs:=A4 (m.map Md.v)) (fun e=>by rw [hno e];exact ⟨rfl,rfl⟩) (fun i hi=>by have:=ho i hi;rw [A3 (by omega),A3 (by omega)];exact hbo i hi) hl4 (by omega) (by omega) (by omega)];have hdx:∀ X:Hp,K3 X o (cc+1)=X (cc+1):=fun X=>E0 (fun i hi=>by have:=ho i hi;omega);have ne0:=P0 t cc (cc+1) (c5+4) c6 (by omega);simp only [go_sem,seval,ne0,A0,A1,hdx,hbx];repeat' ((with_reducible first|refine wr ?_|refine A2 ?_ ?_|fail)<;>try simp only [go_sem,seval,ne0,A0,A1,hdx,hbx])
       refine ⟨(g,some c6,m++[md],u2),?_,inv ⟨by omega,by simp only;omega,j6,(fun h=>by cases h),(fun i hi=>by cases hi;omega),by simp only [A0A,A0F];omega,hv⟩,by simp only;omega⟩;intro j b hj;simp only [C5,A1o,A0A,A0F,A0M,C6] at hj;by_cases e1:j=cc+1
       ·subst e1;by_cases e3:cc+1=c6
        ·omega
        rw [A3 e3,A0] at hj;rw [A0];exact hj
       rw [A3 e1];by_cases e0:j=c6
       ·subst e0;rw [A0] at hj;rw [A0, <- hj];rfl
       rw [A3 e0] at hj ⊢;rw [A3 e1] at hj;by_cases e2:j=t
       ·subst e2;rw [A0] at hj;rw [E0 (fun i hi=>by have:=ho i hi;omega),A3 (by omega),A0];exact hj
       rw [A3 e2] at hj;by_cases e4:j=cc
       ·subst e4;rw [A0] at hj;rw [E0 (fun i hi=>by have:=ho i hi;omega)]
        repeat rw [A3 (by omega)]
        rw [hb0];exact hj
       ·rw [A3 e4] at hj;have hjc:j<cc:=Classical.byContradiction fun h=>by rw [hfr j (by omega)] at hj;cases hj
        rw [E0 (fun i hi=>by have:=ho i hi;omega)]
        repeat rw [A3 (by omega)]
        rw [hbj j hjc e2];exact hj
   ·rw [if_neg (by simp [hlt])] at hv;have hdl:decide ((u.i:Int)<(L.length:Int))=false:=by simpa using hlt
    have e1:m=ml:=congrArg Prod.fst (Option.some.inj hv);have e2:u=s2:=congrArg Prod.snd (Option.some.inj hv);subst e1 e2;have ne0:=O0 t cc (cc+1) (by omega);simp only [go_sem,seval,hok,hHt,hdl,hbx,ne0,hT,hb0];repeat' ((with_reducible first|refine wr ?_|refine A2 ?_ ?_|fail)<;>try simp only [go_sem,seval,hok,hHt,hdl,hbx,ne0,hT])
    rw [hb0];refine C4 (A5n (by rfl) (by decide) (by clear hHH;cases o<;>rfl)) ?_;simp only [go_sem,seval,ne0,A0];repeat' ((with_reducible first|refine wr ?_|refine A2 ?_ ?_|fail)<;>try simp only [go_sem,seval,ne0,A0])
    rw [D9 (rv2 rfl A0)];exact ⟨_,_,fin0 _,rfl,rfl⟩
 ·rw [if_neg hk] at hv0;have hdk:decide (B9 L E u D1≥0)=true:=by simp;omega
  have hHt:C5 (((H.upd cc ⟨0,true,[.snil,.snil]⟩).upd t (rdR L E u)).upd (cc+1) ⟨0,true,[B6 o l.length,.snil]⟩) o ⟨4,true,A4 (l.map Dc.v)⟩ t=some (rdR L E u):=by rw [D2 (fun i hi=>by have:=ho i hi;omega),A3 (by omega),A0]
  have hbx:C5 (((H.upd cc ⟨0,true,[.snil,.snil]⟩).upd t (rdR L E u)).upd (cc+1) ⟨0,true,[B6 o l.length,.snil]⟩) o ⟨4,true,A4 (l.map Dc.v)⟩ (cc+1)=some ⟨0,true,[B6 o l.length,.snil]⟩:=by rw [D2 (fun i hi=>by have:=ho i hi;omega),A0]
  have hbo:∀ i:Nat,o=some i->C5 (((H.upd cc ⟨0,true,[.snil,.snil]⟩).upd t (rdR L E u)).upd (cc+1) ⟨0,true,[B6 o l.length,.snil]⟩) o ⟨4,true,A4 (l.map Dc.v)⟩ i=some ⟨4,true,A4 (l.map Dc.v)⟩:=fun i hi=>by subst hi;exact A0
  have hbj:∀ j:Nat,j<cc->¬ j=t->C5 (((H.upd cc ⟨0,true,[.snil,.snil]⟩).upd t (rdR L E u)).upd (cc+1) ⟨0,true,[B6 o l.length,.snil]⟩) o ⟨4,true,A4 (l.map Dc.v)⟩ j=H j:=fun j h1 h2=>by rw [D2 (fun i hi=>by have:=ho i hi;omega),A3 (by omega),A3 h2,A3 (by omega)]
  have hb0:C5 (((H.upd cc ⟨0,true,[.snil,.snil]⟩).upd t (rdR L E u)).upd (cc+1) ⟨0,true,[B6 o l.length,.snil]⟩) o ⟨4,true,A4 (l.map Dc.v)⟩ cc=some ⟨0,true,[.snil,.snil]⟩:=by rw [D2 (fun i hi=>by have:=ho i hi;omega),A3 (by omega),A3 (by omega),A0]
  have hbn:∀ j:Nat,c<=j->C5 (((H.upd cc ⟨0,true,[.snil,.snil]⟩).upd t (rdR L E u)).upd (cc+1) ⟨0,true,[B6 o l.length,.snil]⟩) o ⟨4,true,A4 (l.map Dc.v)⟩ j=none:=fun j h1=>by rw [D2 (fun i hi=>by have:=ho i hi;omega),A3 (by omega),A3 (by omega),A3 (by omega)];exact hfr j (by omega)
  obtain ⟨hok0,hi0, -⟩:=H8 (show 0<=B9 L E u D1 by omega);generalize hHH:C5 (((H.upd cc ⟨0,true,[.snil,.snil]⟩).upd t (rdR L E u)).upd (cc+1) ⟨0,true,[B6 o l.length,.snil]⟩) o ⟨4,true,A4 (l.map Dc.v)⟩=HH at hHt hbx hbo hbj hb0 hbn ⊢;generalize hkk:B9 L E u D1=k at hv0 hk hdk hkr ⊢;repeat' ((with_reducible first|refine wr ?_|refine A2 ?_ ?_|fail)<;>try simp only [go_sem,seval,hdk,hbx,hlen,hw])
  refine AC.call (c_limit L E u _ _ t hHt (by omega) _ _ _) ?_;rintro v H' c2 ⟨rfl,rfl⟩ hc2;have j1:(C7 L E u ((l.length:Int)+1) 128 9).i=u.i:=G9;have j2:=fun h=>I1 (L:=L) (E:=E) (s:=u) (n:=(l.length:Int)+1) (m:=128) (e:=9) (by decide) h;generalize C7 L E u ((l.length:Int)+1) 128 9=u1 at hv0 j1 j2 ⊢;simp only [go_sem,seval];repeat' ((with_reducible first|refine wr ?_|refine A2 ?_ ?_|fail)<;>try simp only [go_sem,seval])
  refine AC.call (c_rdok L E u1 _ _ t A0 (by omega)) ?_;rintro v H' c3 ⟨rfl,rfl⟩ hc3;cases hok:okR u1 with
  | false =>
   rw [if_neg (by rw [hok];decide)] at hv0;simp only [go_sem,seval,hok];repeat' ((with_reducible first|refine wr ?_|refine cpc c_decls31 ?_|refine A2 ?_ ?_|fail)<;>try simp only [go_sem,seval,hok])
   refine AC.call (c_among L E u1 _ _ t A0 (by omega) D1 (by decide)) ?_;rintro v H' c4 ⟨rfl,rfl⟩ hc4;simp only [go_sem,seval];repeat' ((with_reducible first|refine wr ?_|refine A2 ?_ ?_|fail)<;>try simp only [go_sem,seval])
   refine ⟨(g,o,l,u1),by simp [C9,tm,Tm.upd],?_,inv ⟨by omega,by simp only;omega,by rw [j1];exact hi5,hno,(fun i hi=>by have:=ho i hi;omega),hl1,hv0⟩,by simp only;omega⟩;intro j b hj;by_cases e2:j=t
   ·subst e2;rw [D2 (fun i hi=>by have:=ho i hi;omega),A3 (by omega),A0] at hj;rw [A0];exact hj
   ·rw [A3 e2, <- hHH];cases o with
    | none =>
     simp only [C5] at hj ⊢;by_cases e1:j=cc+1
     ·subst e1;rw [A0] at hj ⊢;exact hj
     ·rw [A3 e1,A3 e2] at hj ⊢;exact hj
    | some i =>
     simp only [C5] at hj ⊢;by_cases e0:j=i
     ·subst e0;rw [A0] at hj ⊢;exact hj
     rw [A3 e0] at hj ⊢;by_cases e1:j=cc+1
     ·subst e1;rw [A0] at hj ⊢;exact hj
     ·rw [A3 e1,A3 e2] at hj ⊢;exact hj
  | true =>
   rw [if_pos hok] at hv0;obtain ⟨-,j3,rfl⟩:=j2 hok;simp only [go_sem,seval,hok];have ne0:=O0 t cc (cc+1) (by omega);repeat' ((with_reducible first|refine wr ?_|refine A2 ?_ ?_|fail)<;>try simp only [go_sem,seval,hok,ne0,A0,A1,hbx])
   refine AC.call (c_declaration L E u1 _ _ t A0 (by omega) hL hv k (by omega) (by omega) (by omega)) ?_;rintro v H' c4 ⟨rfl,rfl⟩ hc4;have ne0:=P0 t cc (cc+1) c4 (c4+1) (by omega);simp only [go_sem,seval,ne0,A0,A1,hbx];repeat' ((with_reducible first|refine wr ?_|refine A2 ?_ ?_|fail)<;>try simp only [go_sem,seval,ne0,A0,A1,hbx])
   refine ⟨⟨by rw [A3 (by omega)];exact hbn _ (by omega),by rw [A3 (by omega)];exact hbn _ (by omega)⟩,?_⟩;have hl4:(A4 (l.map Dc.v)).length=l.length * 4:=B5 (u:=4) (W1 _) |>.trans (by simp);repeat' ((with_reducible first|refine wr ?_|refine A2 ?_ ?_|fail)<;>try simp only [go_sem,seval,ne0,A0,A1,hbx])
   rw [E6 (cs:=A4 (l.map Dc.v)) (fun e=>by rw [hno e];exact ⟨rfl,rfl⟩) (fun i hi=>by have:=ho i hi;rw [A3 (by omega),A3 (by omega)];exact hbo i hi) hl4 (by omega) (by omega) (by omega)];have hdx:∀ X:Hp,K3 X o (cc+1)=X (cc+1):=fun X=>E0 (fun i hi=>by have:=ho i hi;omega);have ne0:=P0 t cc (cc+1) (c3+5) c4 (by omega);simp only [go_sem,seval,ne0,A0,A1,hdx,hbx];repeat' ((with_reducible first|refine wr ?_|refine cpc c_decls31 ?_|refine A2 ?_ ?_|fail)<;>try simp only [go_sem,seval,ne0,A0,A1,hdx,hbx])
   refine AC.call (c_among L E (Q9 L E k u1).2 _ _ t (by rw [A3 (by omega),A3 (by omega),E0 (fun i hi=>by have:=ho i hi;omega),A3 (by omega),A0]) (by omega) D1 (by decide)) ?_;rintro v H' c5 ⟨rfl,rfl⟩ hc5;simp only [go_sem,seval];repeat' ((with_reducible first|refine wr ?_|refine A2 ?_ ?_|fail)<;>try simp only [go_sem,seval])
   refine ⟨(g,some c4,l++[(Q9 L E k u1).1],(Q9 L E k u1).2),by simp [C9,tm,Tm.upd],?_,inv ⟨by omega,by simp only;omega,C7y (by omega),(fun h=>by cases h),(fun i hi=>by cases hi;omega),by simp only [A0A,A0F];omega,hv0⟩,by simp only;omega⟩;intro j b hj;simp only [C5,A1o,A0A,A0F,A0M,C6] at hj;by_cases e1:j=cc+1
   ·subst e1;by_cases e3:cc+1=c4
    ·omega
    rw [A3 e3,A0] at hj;rw [A0];exact hj
   rw [A3 e1];by_cases e0:j=c4
   ·subst e0;rw [A0] at hj;rw [A0, <- hj];rfl
   rw [A3 e0] at hj ⊢;rw [A3 e1] at hj;by_cases e2:j=t
   ·subst e2;rw [A0] at hj;rw [E0 (fun i hi=>by have:=ho i hi;omega),A3 (by omega),A0];exact hj
   rw [A3 e2] at hj;by_cases e4:j=cc
   ·subst e4;rw [A0] at hj;rw [E0 (fun i hi=>by have:=ho i hi;omega)]
    repeat rw [A3 (by omega)]
    rw [hb0];exact hj
   ·rw [A3 e4] at hj;have hjc:j<cc:=Classical.byContradiction fun h=>by rw [hfr j (by omega)] at hj;cases hj
    rw [E0 (fun i hi=>by have:=ho i hi;omega)]
    repeat rw [A3 (by omega)]
    rw [hbj j hjc e2];exact hj
theorem c_letter (c:UInt8):PC Tryz.prog 142 [.int .u8 c.toNat] (.bool (ltB c)):=by
 refine PC.ofT B1 rfl (A0B rfl) (by simp [DV.nlL,DV.nl]) (by simp [DV.nlL,DV.nl]) ?_;repeat' ((with_reducible first|refine wr ?_|refine A2 ?_ ?_|refine wb2 ?_ ?_<;>(intro hb;try simp only [hb])|fail)<;>try simp only [go_sem,seval])
 all_goals (refine B3 (congrArg DV.bool ?_);rw [A2L];simp_all [ltB]<;>omega)
theorem c_digit (c:UInt8):PC Tryz.prog 162 [.int .u8 c.toNat] (.bool (dgB c)):=by
 refine PC.ofT B1 rfl (A0B rfl) (by simp [DV.nlL,DV.nl]) (by simp [DV.nlL,DV.nl]) ?_;repeat' ((with_reducible first|refine wr ?_|refine A2 ?_ ?_|refine wb2 ?_ ?_<;>(intro hb;try simp only [hb])|fail)<;>try simp only [go_sem,seval])
 all_goals (refine B3 (congrArg DV.bool ?_);rw [A2L];simp_all [dgB]<;>omega)
theorem c_letterR (c:UInt8):PC Tryz.prog 132 [.int .u8 c.toNat] (.bool (ltB c)):=by
 refine PC.ofT B1 rfl (A0B rfl) (by simp [DV.nlL,DV.nl]) (by simp [DV.nlL,DV.nl]) ?_;repeat' ((with_reducible first|refine wr ?_|refine A2 ?_ ?_|refine wb2 ?_ ?_<;>(intro hb;try simp only [hb])|fail)<;>try simp only [go_sem,seval])
 all_goals (refine B3 (congrArg DV.bool ?_);rw [A2L];simp_all [ltB]<;>omega)
theorem c_digitR (c:UInt8):PC Tryz.prog 134 [.int .u8 c.toNat] (.bool (dgB c)):=by
 refine PC.ofT B1 rfl (A0B rfl) (by simp [DV.nlL,DV.nl]) (by simp [DV.nlL,DV.nl]) ?_;repeat' ((with_reducible first|refine wr ?_|refine A2 ?_ ?_|refine wb2 ?_ ?_<;>(intro hb;try simp only [hb])|fail)<;>try simp only [go_sem,seval])
 all_goals (refine B3 (congrArg DV.bool ?_);rw [A2L];simp_all [dgB]<;>omega)
theorem c_part (c:UInt8):PC Tryz.prog 144 [.int .u8 c.toNat] (.bool (ptB c)):=by
 refine PC.ofT B1 rfl (A0B rfl) (by simp [DV.nlL,DV.nl]) (by simp [DV.nlL,DV.nl]) ?_;repeat' ((with_reducible first|refine wr ?_|refine cpc (c_letter c) ?_|refine cpc (c_digit c) ?_|refine A2 ?_ ?_|refine wb2 ?_ ?_<;>(intro hb;try simp only [hb])|fail)<;>try simp only [go_sem,seval])
 all_goals (refine B3 (congrArg DV.bool ?_);rw [A2L];simp_all [ptB]<;>omega)
theorem c_no10 (c:UInt8):PC Tryz.prog 161 [.int .u8 c.toNat] (.bool (decide (c.toNat≠10))):=by
 refine PC.ofT B1 rfl (A0B rfl) (by simp [DV.nlL,DV.nl]) (by simp [DV.nlL,DV.nl]) ?_;repeat' ((with_reducible first|refine wr ?_|refine A2 ?_ ?_|fail)<;>try simp only [go_sem,seval])
 all_goals (refine B3 (congrArg DV.bool ?_);rw [A2L];simp_all<;>omega)
theorem c_span {p:UInt8->Bool} {f:Nat} {a cs:List DV} (s:List UInt8) (hs:s.length<=9223372036854775807) (na:DV.nlL a=true) (ncs:DV.nlL cs=true) (hf:∀ x∈s,PC Tryz.prog f (a++[.int .u8 x.toNat]++cs) (.bool (p x))) :
  PC Tryz.prog 143 [.str s,.func f a cs] (I64 (F2 p s)):=by
 refine PC.ofT B1 rfl (A0B rfl) (by simp [DV.nlL,DV.nl,na,ncs]) rfl ?_;repeat' ((with_reducible first|refine wr ?_|refine A2 ?_ ?_|fail)<;>try simp only [go_sem,seval])
 refine D8 (fun k:Nat=>[(0,.str s),(1,.func f a cs),(5,I64 k)]) (fun _=>nil) (fun k _=>k<=s.length/\k<=F2 p s) (fun k=>s.length-k) 0 (by simp [C9,tm,Tm.upd]) (Sub.nil _) (by simp) ?_;rintro k c ⟨hk,he⟩;by_cases hlt:k<s.length
 ·have hd:decide ((k:Int)<s.length)=true:=by simpa using hlt
  have hg:=A0C hlt;have hw:=w64 (n:=(k:Int)+1) (by omega) (by omega);have hst:=B1e hg he;have hc:=hf s[k] (A0S hlt);repeat' ((with_reducible first|refine wr ?_|refine cpc hc ?_|refine A2 ?_ ?_|refine wb2 ?_ ?_<;>(intro hb;try simp only [hb])|fail)<;>try simp only [go_sem,seval,hd,hg,hw])
  ·exact ⟨k+1,rfl,Sub.refl _,inv ⟨by omega,hst.1 hb⟩,by omega⟩
  ·refine B3 ?_;rw [hst.2 hb]
 ·have hd:decide ((k:Int)<s.length)=false:=by simpa using hlt
  repeat' ((with_reducible first|refine wr ?_|refine A2 ?_ ?_|fail)<;>try simp only [go_sem,seval,hd])
  refine B3 ?_;rw [C0h (by omega) he]
theorem c_spanPt (s:List UInt8) (hs:s.length<=9223372036854775807):PC Tryz.prog 143 [.str s,.func 144 [] []] (I64 (F2 ptB s)) :=
 c_span s hs rfl rfl fun x _=>c_part x
theorem c_spanDg (s:List UInt8) (hs:s.length<=9223372036854775807):PC Tryz.prog 143 [.str s,.func 162 [] []] (I64 (F2 dgB s)) :=
 c_span s hs rfl rfl fun x _=>c_digit x
theorem c_spanCm (s:List UInt8) (hs:s.length<=9223372036854775807):PC Tryz.prog 143 [.str s,.func 161 [] []] (I64 (F2 (fun c=>decide (c.toNat≠10)) s)) :=
 c_span s hs rfl rfl fun x _=>c_no10 x
end Go.Proofs.YthlpinppaclofaaGreatDoor
end

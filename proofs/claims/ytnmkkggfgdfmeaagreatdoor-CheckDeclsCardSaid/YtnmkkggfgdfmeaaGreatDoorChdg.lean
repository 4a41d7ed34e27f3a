/-
  HELPERS of the claim: part 7 of its texts.
-/
import Derived.Test.YtnmkkggfgdfmeaaGreatDoorProg
import Derived.Test.YtnmkkggfgdfmeaaGreatDoorChdf
noncomputable section
set_option maxHeartbeats 8000000
set_option maxRecDepth 100000
set_option linter.unusedSimpArgs false
set_option linter.unusedVariables false
namespace Go.Proofs.YtnmkkggfgdfmeaaGreatDoor
open Go.Eng (IC IOper DReg IFn B8)
open Go.Sym Go.Pb
theorem c_expKR (k:Int):PC Tryz.prog 102 [I64 k] (I64 (kdE k)):=by
 refine PC.ofT A9 rfl (A0B rfl) (by simp [DV.nlL,DV.nl]) (by simp [DV.nlL,DV.nl]) ?_;repeat' ((with_reducible first|refine wr ?_|refine wb2 ?_ ?_<;>(intro hb;try simp only [hb])|fail)<;>try simp only [go_sem,seval])
 all_goals (refine A6 (congrArg I64 ?_);simp_all [kdE])
theorem c_stmKR (k:Int):PC Tryz.prog 106 [I64 k] (I64 (kdS k)):=by
 refine PC.ofT A9 rfl (A0B rfl) (by simp [DV.nlL,DV.nl]) (by simp [DV.nlL,DV.nl]) ?_;repeat' ((with_reducible first|refine wr ?_|refine wb2 ?_ ?_<;>(intro hb;try simp only [hb])|fail)<;>try simp only [go_sem,seval])
 all_goals (refine A6 (congrArg I64 ?_);simp_all [kdS])
theorem c_trgKR (k:Int):PC Tryz.prog 67 [I64 k] (I64 (kdH k)):=by
 refine PC.ofT A9 rfl (A0B rfl) (by simp [DV.nlL,DV.nl]) (by simp [DV.nlL,DV.nl]) ?_;repeat' ((with_reducible first|refine wr ?_|refine wb2 ?_ ?_<;>(intro hb;try simp only [hb])|fail)<;>try simp only [go_sem,seval])
 all_goals (refine A6 (congrArg I64 ?_);simp_all [kdH])
theorem c_mostR (k:Int):PC Tryz.prog 105 [I64 k] (I64 (A3r k)):=by
 refine PC.ofT A9 rfl (A0B rfl) (by simp [DV.nlL,DV.nl]) (by simp [DV.nlL,DV.nl]) ?_;repeat' ((with_reducible first|refine wr ?_|refine wb2 ?_ ?_<;>(intro hb;try simp only [hb])|fail)<;>try simp only [go_sem,seval])
 all_goals (refine A6 (congrArg I64 ?_);simp_all [A3r])
theorem c_boolR (k:Int):PC Tryz.prog 103 [I64 k] (.bool (C1j k)):=by
 refine PC.ofT A9 rfl (A0B rfl) (by simp [DV.nlL,DV.nl]) (by simp [DV.nlL,DV.nl]) ?_;repeat' ((with_reducible first|refine wr ?_|refine wb2 ?_ ?_<;>(intro hb;try simp only [hb])|fail)<;>try simp only [go_sem,seval])
 all_goals (refine A6 (congrArg DV.bool ?_);simp_all [C1j])
theorem A0y (d:Dc):d.v=.agg [I64 d.kind,.str d.name,I64 d.value,I64 d.pos]:=rfl
theorem A6m (d:Md):d.v=.agg [.str d.name,I64 d.prio,S2 d.hds,I64 d.pos]:=rfl
theorem c_cntR (r:Ru) (k:Int) (h1:r.decls.length<=1000000000) (h2:r.modes.length<=1000000000):PC Tryz.prog 63 [r.v,I64 k] (I64 (cnR r k)):=by
 refine PC.ofT A9 rfl (A0B rfl) (by simp [Ru.v,DV.nlL,DV.nl,H4,G9]) rfl ?_;obtain ⟨D,M⟩:=r;dsimp only [Ru.v] at h1 h2 ⊢;by_cases k9:k=9
 ·subst k9;repeat' ((with_reducible apply wr)<;>try simp only [go_sem,seval,A0D])
  exact A6 rfl
 have q9:(k == 9)=false:=by simpa using k9
 have er:cnR ⟨D,M⟩ k=cnD D k:=by rw [cnR,if_neg k9]
 rw [er];repeat' ((with_reducible apply wr)<;>try simp only [go_sem,seval,q9])
 refine C2 (fun i:Nat=>[(1,I64 k),(2,.ptr 0 0),(5,I64 (cnD (D.take i) k)),(6,I64 i)]) (fun _=>Sym.nil.upd 0 ⟨0,true,[C8 D,D5 M]⟩) (fun i c=>i<=D.length) (fun i=>D.length-i) 0 (by simp [C3,tm,Tm.upd,cnD]) (Sub.refl _) (A0R _) ?_;rintro i c hk;by_cases hlt:i<D.length
 ·have hd:decide ((i:Int)<D.length)=true:=by simpa using hlt
  have hg:=A0C hlt;have hw:=w64 (n:=(i:Int)+1) (by omega) (by omega);have e0:cnD (D.take (i+1)) k=cnD (D.take i) k+(if D[i].kind == k then 1 else 0):=by
   unfold cnD;rw [A1B,hg,List.countP_append];simp [List.countP_cons]
  have hle:cnD (D.take i) k<=D.length:=by
   refine A1P List.countP_le_length ?_;rw [A1A];omega
  have hw2:=w64 (n:=(cnD (D.take i) k:Int)+1) (by omega) (by omega);generalize D[i]=d at hg e0;repeat' ((with_reducible first|refine wr ?_|refine wb2 ?_ ?_<;>(intro hb;try simp only [hb])|fail)<;>try simp only [go_sem,seval,hd,hg,hw,hw2,A0y,A0D])
  all_goals (refine ⟨i+1,?_,Sub.refl _,inv (by omega),by omega⟩;simp_all)
 have hd:decide ((i:Int)<D.length)=false:=by simpa using hlt
 repeat' ((with_reducible apply wr)<;>try simp only [go_sem,seval,hd,A0D])
 rw [A0J (by omega)];exact A6 rfl
theorem D7n {ρ : Ren} {v:Value} {a:DV} (h:VRel ρ (.agg [a,.snil]) v):VRel ρ (.agg [a,.lst []]) v:=by
 obtain ⟨b,rfl,k1,k2⟩:=h.agg_inv;refine .agg _ _ k1 fun i x y hx hy=>?_
 match i with
 | 0=>exact k2 0 _ y hx hy
 | 1=>cases hx;exact (k2 1 _ y rfl hy).snil_lst
 | i+2=>simp at hx
theorem C4a {f:Nat} {a x r:DV} (h:PC Tryz.prog f [.agg [a,.lst []],x] r):PC Tryz.prog f [.agg [a,.snil],x] r:=by
 have hn:DV.nlL [.agg [a,.snil],x]=true:=by have:=h.na;simpa [DV.nlL,DV.nl] using this
 have g:GL Sym.nil [.agg [a,.snil],x] Sym.nil [.agg [a,.lst []],x]:=GL.view fun ρ vs hA=>⟨hA.1,fun i d v hd hv=>by
  match i with
  | 0=>cases hd;exact D7n (hA.2 0 _ v rfl hv)
  | 1=>exact hA.2 1 _ v hd hv
  | i+2=>simp at hd⟩
 exact ⟨hn,h.nr,AC.ghost g h.ac⟩
theorem B1k {xs:List DV} {h sz:Nat} (hh:h<=xs.length) (hu:∀ x∈xs,x.cells.length=sz) (H:Hp):A0o H sz (.lst xs) none (some (I64 (h:Int)))=some (.lst (xs.take h)):=by
 have e:unit sz xs=true:=A0U.2 fun x hx=>by simpa using hu x hx
 simp only [A0o,boundOf,Int.natCast_nonneg,if_true,A3D,hh,A0R,and_self,e,A4K,A3J]
theorem A2j {b1 b2:Blk} {cc:Nat} (h:1<=cc):Sym.Sub (Sym.nil.upd 0 b1) ((Sym.nil.upd 0 b1).upd cc b2):=by
 intro j b hj;simp only [Hp.upd,Sym.nil] at hj ⊢;split at hj
 ·rename_i h0;rw [if_neg (by omega),if_pos h0];exact hj
 ·cases hj
theorem c_lkR (r:Ru) (n:List UInt8) (h1:r.decls.length<=1000000000) (h2:r.modes.length<=1000000000):PC Tryz.prog 62 [r.v,.str n] (.tup [I64 (K2 r n).1,I64 (K2 r n).2]):=by
 refine PC.ofT A9 rfl (A0B rfl) (by simp [Ru.v,DV.nlL,DV.nl,H4,G9]) rfl ?_;obtain ⟨D,M⟩:=r;dsimp only at h1 h2;obtain ⟨R,hR⟩:∃ R:DV,R=.tup [I64 (K2 ⟨D,M⟩ n).1,I64 (K2 ⟨D,M⟩ n).2]:=⟨_,rfl⟩;rw [<- hR];unfold K2 at hR;dsimp only [Ru.v] at hR ⊢;repeat' ((with_reducible apply wr)<;>try simp only [go_sem,seval])
 refine C2 (fun i:Nat=>[(1,.str n),(2,.ptr 0 0),(6,I64 i)]) (fun _=>Sym.nil.upd 0 ⟨0,true,[C8 D,D5 M]⟩) (fun i c=>1<=c/\i<=D.length/\lkD [] D n=lkD (D.take i) (D.drop i) n) (fun i=>D.length-i) 0 (by simp [C3,tm,Tm.upd]) (Sub.refl _) ⟨A0H _,A0R _,rfl⟩ ?_;rintro i c ⟨h1c,hk,he⟩;by_cases hlt:i<D.length
 ·have hd:decide ((i:Int)<D.length)=true:=by simpa using hlt
  have hg:=A0C hlt;have hw:=w64 (n:=(i:Int)+1) (by omega) (by omega);rw [C4x hg] at he;have hcn:=C4a (c_cntR ⟨D.take i,[]⟩ D[i].kind (by rw [A1A];omega) (A0R _));generalize D[i]=d at hg he hcn;have ne0:=M8 0 c (by omega);have hsl:=fun H=>B1k (xs:=D.map Dc.v) (h:=i) (sz:=4) (by rw [A0D];omega) (K8 _) H;rw [<- List.map_take] at hsl;by_cases hn:d.name=n
  ·have q0:(d.name == n)=true:=by simp [hn]
   rw [if_pos hn] at he;rw [he] at hR;by_cases h6:d.kind<6
   ·have q6:decide (d.kind<6)=true:=by simpa using h6
    rw [if_pos h6] at hR;repeat' ((with_reducible apply wr)<;>try simp only [go_sem,seval,hd,hg,hw,q0,q6,A0y,A0D,ne0,A0,A1])
    refine ⟨by and_intros<;>(repeat rw [A2 (by omega)])<;>rfl,?_⟩;repeat' ((with_reducible apply wr)<;>try simp only [go_sem,seval,ne0,A0,A1])
    exact A6 hR.symm
   ·have q6:decide (d.kind<6)=false:=by simpa using h6
    rw [if_neg h6] at hR;repeat' ((with_reducible first|apply wr|refine cpc hcn ?_|fail)<;>try simp only [go_sem,seval,hd,hg,hw,q0,q6,A0y,A0D,ne0,A0,A1,hsl])
    refine ⟨by and_intros<;>(repeat rw [A2 (by omega)])<;>rfl,?_⟩;repeat' ((with_reducible first|apply wr|refine cpc hcn ?_|fail)<;>try simp only [go_sem,seval,ne0,A0,A1])
    exact A6 hR.symm
  ·have q0:(d.name == n)=false:=by simp [hn]
   rw [if_neg hn] at he;repeat' ((with_reducible apply wr)<;>try simp only [go_sem,seval,hd,hg,hw,q0,A0y,A0D,ne0,A0,A1])
   exact ⟨i+1,by simp,A2j h1c,inv ⟨by omega,by omega,he⟩,by omega⟩
 have hd:decide ((i:Int)<D.length)=false:=by simpa using hlt
 rw [A1T (by omega),lkD] at he;rw [he] at hR;repeat' ((with_reducible apply wr)<;>try simp only [go_sem,seval,hd,A0D])
 clear he hd hlt hk i;refine C2 (fun i:Nat=>[(1,.str n),(2,.ptr 0 0),(8,I64 i)]) (fun _=>Sym.nil.upd 0 ⟨0,true,[C8 D,D5 M]⟩) (fun i c=>i<=M.length/\lkM 0 M n=lkM i (M.drop i) n) (fun i=>M.length-i) 0 (by simp [C3,tm,Tm.upd]) (Sub.refl _) ⟨A0R _,rfl⟩ ?_;rintro i c ⟨hk,he⟩;by_cases hlt:i<M.length
 ·have hd:decide ((i:Int)<M.length)=true:=by simpa using hlt
  have hg:=A0C hlt;have hw:=w64 (n:=(i:Int)+1) (by omega) (by omega);rw [C4w hg] at he;generalize M[i]=d at hg he;by_cases hn:d.name=n
  ·have q0:(d.name == n)=true:=by simp [hn]
   rw [if_pos hn] at he;rw [he] at hR;repeat' ((with_reducible apply wr)<;>try simp only [go_sem,seval,hd,hg,hw,q0,A6m,A0D])
   exact A6 hR.symm
  ·have q0:(d.name == n)=false:=by simp [hn]
   rw [if_neg hn] at he;repeat' ((with_reducible apply wr)<;>try simp only [go_sem,seval,hd,hg,hw,q0,A6m,A0D])
   exact ⟨i+1,by simp,Sub.refl _,inv ⟨by omega,he⟩,by omega⟩
 have hd:decide ((i:Int)<M.length)=false:=by simpa using hlt
 rw [A1T (by omega),lkM] at he;rw [he] at hR;repeat' ((with_reducible apply wr)<;>try simp only [go_sem,seval,hd,A0D])
 exact A6 hR.symm
theorem c_dnR (r:Ru) (n:List UInt8) (k:Int) (h1:r.decls.length<=1000000000) (h2:r.modes.length<=1000000000):PC Tryz.prog 66 [r.v,.str n,I64 k] (I64 (dnM r n k)):=by
 refine PC.ofT A9 rfl (A0B rfl) (by simp [Ru.v,DV.nlL,DV.nl,H4,G9]) rfl ?_;have hl:=c_lkR r n h1 h2;dsimp only [Ru.v] at hl ⊢;unfold dnM;generalize K2 r n=q at hl ⊢;obtain ⟨a,b⟩:=q;dsimp only at hl ⊢;repeat' ((with_reducible first|refine wr ?_|refine cpc hl ?_|refine wb2 ?_ ?_<;>(intro hb;try simp only [hb])|fail)<;>try simp only [go_sem,seval])
 all_goals (refine A6 (congrArg I64 ?_);simp_all)
theorem C2r {H0 HH:Hp} {o:Option Nat} {x id:Nat} {b1 bx b b':Blk} (hHH:C6 H0 o b1=HH) (hn:∀ j,2<=j->H0 j=none) (ho:∀ i,o=some i->2<=i) (hx:2<=x) (h:b=b') :
  Sym.Sub (C6 H0 (some id) b) ((I6 (HH.upd x bx) o).upd id b'):=by
 subst h;intro j q hj;simp only [C6] at hj;by_cases e:j=id
 ·subst e;rw [A0] at hj ⊢;exact hj
 ·rw [A2 e] at hj ⊢;have hj2:j<2:=A3I fun h2=>by rw [hn j h2] at hj;cases hj
  have hHj:HH j=some q:=by rw [<- hHH,D0 (fun i hi=>by have:=ho i hi;omega)];exact hj
  cases o with
  | none=>simp only [I6];rw [A2 (by omega)];exact hHj
  | some i =>
   have:=ho i rfl;simp only [I6,Hp.del];rw [if_neg (by omega),A2 (by omega)];exact hHj
theorem c_tyR (r:Ru) (h1:r.decls.length<=1000000000) (h2:r.modes.length<=1000000000):∀ (m:Nat) (e:Ex),e.sz<m->e.sz<=100000000->(∃ q,msM e=some q)->PC Tryz.prog 61 [r.v,e.v] (tyV r e):=by
 intro m
 induction m with
 | zero=>intro e h;omega
 | succ m ih =>
 intro e hm hB ⟨q0,hq0⟩;have hal:Ex.szs e.args<e.sz:=by cases e with|mk k v n a p=>rw [Ex.sz];show Ex.szs a<_;omega
 have hargs:∀ x∈e.args,x.sz<=Ex.szs e.args:=fun x hx=>Ex.szs_mem hx;have hll:=Ex.szs_len e.args;have hms:=B2a hq0;have h22:=C4p hq0;refine PC.ofT A9 rfl (A0B rfl) (by simp [Ru.v,DV.nlL,DV.nl,H4,G9,Ex.nl]) (D3a _ _) ?_;rw [Ex.v_w];obtain ⟨R,hR⟩:∃ R,R=tyV r e:=⟨_,rfl⟩;rw [<- hR];cases e with|mk k v n a p =>
 unfold tyV at hR;rw [erE] at hR;have hR:R=(match ((N2 r a).or (dnE r n (kdE k) p)).or (if a.all (fun x=>J1 x.kind == P6 k a)=true then none else some (p,49)) with
  | some (p,c)=>.tup [I64 0,I64 p,I64 c]
  | none=>.tup [I64 (J1 k),I64 0,I64 0]):=hR
 dsimp only [Ex.w,Ex.kind,Ex.value,Ex.name,Ex.args,Ex.pos] at hal hargs hll hms h22 ⊢;have hk1:=c_expKR k;have hdn:=c_dnR r n (kdE k) h1 h2;have hbo:=c_boolR k;have ih:∀ x∈a,PC Tryz.prog 61 [r.v,x.v] (tyV r x):=fun x hx=>ih x (by have:=hargs x hx;omega) (by have:=hargs x hx;omega) (hms x hx);obtain ⟨D,M⟩:=r;dsimp only [Ru.v] at hdn ih ⊢;repeat' ((with_reducible apply wr)<;>try simp only [go_sem,seval])
 obtain ⟨H0,hH0⟩:∃ H0,H0=(Sym.nil.upd 0 ⟨0,true,[C8 D,D5 M]⟩).upd 1 ⟨0,true,[I64 k,I64 v,.str n,I3 a,I64 p]⟩:=⟨_,rfl⟩;have hz0:H0 0=some ⟨0,true,[C8 D,D5 M]⟩:=by rw [hH0];rfl
 have hz1:H0 1=some ⟨0,true,[I64 k,I64 v,.str n,I3 a,I64 p]⟩:=by rw [hH0];rfl
 have hzn:∀ j,2<=j->H0 j=none:=fun j hj=>by rw [hH0,A2 (by omega),A2 (by omega)];rfl
 rw [<- hH0];clear hH0;obtain ⟨T,hT⟩:∃ T:List DV,T=a.map (fun x=>I64 (J1 x.kind)):=⟨_,rfl⟩;have hTl:T.length=a.length:=by rw [hT,A0D]
 have hTg:∀ (i:Nat) (x:Ex),a[i]? = some x->T[i]? = some (I64 (J1 x.kind)):=fun i x h=>by rw [hT,A2J,h];rfl
 refine C2 (fun q:Nat × Option Nat=>[(2,.ptr 0 0),(3,.ptr 1 0),(7,B9 q.2 q.1),(8,I64 q.1)]) (fun q=>C6 H0 q.2 ⟨1,true,T.take q.1⟩)
  (fun q c=>2<=c/\q.1<=a.length/\(q.2=none↔q.1=0)/\(∀ i,q.2=some i->2<=i/\i<c)/\N2 ⟨D,M⟩ a=N2 ⟨D,M⟩ (a.drop q.1)) (fun q=>a.length-q.1) (0,none)
  (by simp [C3,tm,Tm.upd,B9]) (Sub.refl _) ⟨A0H _,A0R _,by simp,(fun i hi=>by cases hi),rfl⟩ ?_
 rintro ⟨i,o⟩ c ⟨h2c,hk,hno,ho,he⟩;dsimp only at hk hno ho he ⊢;have hb0:C6 H0 o ⟨1,true,T.take i⟩ 0=some ⟨0,true,[C8 D,D5 M]⟩:=by rw [D0 (fun i hi=>by have:=ho i hi;omega)];exact hz0
 have hb1:C6 H0 o ⟨1,true,T.take i⟩ 1=some ⟨0,true,[I64 k,I64 v,.str n,I3 a,I64 p]⟩:=by rw [D0 (fun i hi=>by have:=ho i hi;omega)];exact hz1
 have hbn:∀ j:Nat,c<=j->C6 H0 o ⟨1,true,T.take i⟩ j=none:=fun j hj=>by rw [D0 (fun i hi=>by have:=ho i hi;omega)];exact hzn j (by omega)
 have hbo2:∀ j:Nat,o=some j->C6 H0 o ⟨1,true,T.take i⟩ j=some ⟨1,true,T.take i⟩:=fun j hj=>by subst hj;exact A0
 generalize hHH:C6 H0 o ⟨1,true,T.take i⟩=HH at hb0 hb1 hbn hbo2 ⊢;by_cases hlt:i<a.length
 ·have hd:decide ((i:Int)<a.length)=true:=by simpa using hlt
  have hg:=A0C hlt;have hw:=w64 (n:=(i:Int)+1) (by omega) (by omega);have hc:=ih _ (A0O hlt);have hTi:=hTg _ _ hg;rw [C1a hg] at he;generalize a[i]=x at hg hc hTi he;rw [Ex.v_w] at hc;unfold tyV at hc;cases hq:erE ⟨D,M⟩ x with
  | some q =>
   obtain ⟨px,cx⟩:=q;have hnz:(cx != 0)=true:=by simpa using C4h _ x _ _ hq
   rw [hq] at hc he;rw [he] at hR;repeat' ((with_reducible first|apply wr|refine cpc hc ?_|fail)<;>try simp only [go_sem,seval,hb0,hb1,hd,hg,hw,Ex.v_w,A0D,hnz])
   refine ⟨by (try and_intros)<;>exact hbn _ (by omega),by (try and_intros)<;>exact hbn _ (by omega),?_⟩;repeat' ((with_reducible first|apply wr|refine cpc hc ?_|fail)<;>try simp only [go_sem,seval,hb0,hb1,hd,hg,hw,Ex.v_w,A0D,hnz])
   exact A6 hR.symm
  | none =>
   rw [hq] at hc he;repeat' ((with_reducible first|apply wr|refine cpc hc ?_|fail)<;>try simp only [go_sem,seval,hb0,hb1,hd,hg,hw,Ex.v_w,A0D])
   refine ⟨by (try and_intros)<;>exact hbn _ (by omega),by (try and_intros)<;>exact hbn _ (by omega),?_⟩;repeat' ((with_reducible first|apply wr|refine cpc hc ?_|fail)<;>try simp only [go_sem,seval,hb0,hb1,hd,hg,hw,Ex.v_w,A0D])
   refine F6 (F1 (cs:=T.take i) (fun e=>by have:=hno.1 e;subst this;exact ⟨rfl,rfl⟩) (fun j hj=>by have:=ho j hj;rw [A2 (by omega)];exact hbo2 j hj) (by rw [A1A];omega) (by omega) (by omega) (by omega)) ?_;simp only [go_sem,seval,hw];repeat' ((with_reducible apply wr)<;>try simp only [go_sem,seval,hw])
   refine ⟨(i+1,some (c+14+1)),by simp [C3,tm,Tm.upd,B9],?_,inv ⟨by omega,by omega,by simp,(fun j hj=>by cases hj;omega),he⟩,by simp only;omega⟩;exact C2r hHH hzn (fun i hi=>(ho i hi).1) (by omega) (by simp only;rw [A1B,hTi];rfl)
 have hd:decide ((i:Int)<a.length)=false:=by simpa using hlt
 rw [A1T (by omega),N2] at he;rw [he,A1U] at hR;have hi:i=a.length:=by omega
 subst hi;rw [A0J (by omega)] at hbo2;repeat' ((with_reducible first|apply wr|refine cpc hk1 ?_|refine cpc hdn ?_|fail)<;>try simp only [go_sem,seval,hb0,hb1,hd,A0D])
 refine ⟨by (try and_intros)<;>exact hbn _ (by omega),?_⟩;cases hdz:(dnM ⟨D,M⟩ n (kdE k) != 0) with
 | false =>
  have e0:dnE ⟨D,M⟩ n (kdE k) p=none:=by rw [dnE,if_pos (by simpa using hdz)]
  rw [e0,A1U] at hR;have kL:∀ cc:Nat,c<=cc->IW Tryz.prog 94 (.loop (pz Tryz.prog 61 (.i (.i (.o (.i (.i .h))))))) ⟨tm [(3,.ptr 1 0),(7,B9 o a.length),(13,I64 (P6 k a)),(14,I64 0)],HH,cc⟩ (bk 2 (sq Tryz.prog 94 (pz Tryz.prog 61 (.i (.i (.o (.i (.o (.o .h))))))) (rt [.tmp 4,.tmp 5,.tmp 6] fun v H' x => ∃ H2,GL H' [v] H2 [R]))):=by
   intro cc hcc;generalize P6 k a=wnt at hR ⊢;refine C2 (fun i:Nat=>[(3,.ptr 1 0),(7,B9 o a.length),(13,I64 wnt),(14,I64 i)]) (fun _=>HH) (fun i c2=>c<=c2/\i<=a.length/\(a.take i).all (fun x=>J1 x.kind == wnt)=true) (fun i=>a.length-i) 0 (by simp [C3,tm,Tm.upd]) (Sub.refl _) ⟨hcc,A0R _,rfl⟩ ?_;rintro i cc ⟨hcc,hi,hall⟩;by_cases hlt:i<a.length
   ·have hd:decide ((i:Int)<a.length)=true:=by simpa using hlt
    have hg:=A0C hlt;have hw:=w64 (n:=(i:Int)+1) (by omega) (by omega);have hTi:=hTg _ _ hg;obtain ⟨j,hj⟩:∃ j,o=some j:=by
     cases o with
     | none=>have:=hno.1 rfl;omega
     | some j=>exact ⟨j,rfl⟩
    have hbj:=hbo2 j hj;subst hj;have hlen:A6n (B9 (some j) a.length)=some (I64 (a.length:Int)):=A5m (fun h=>by cases h);have hia:I1 1 (.slc j 0 a.length) (I64 (i:Int))=some (.ptr j i):=by simp [I1];omega
    generalize a[i]=x at hg hTi;by_cases hx:J1 x.kind=wnt
    ·have hxn:(J1 x.kind != wnt)=false:=by simp [hx]
     repeat' ((with_reducible apply wr)<;>try simp only [go_sem,seval,hb0,hb1,hd,hlen,hia,hbj,hTi,hw,hxn])
     exact ⟨i+1,by simp,Sub.refl _,inv ⟨by omega,by omega,by rw [A2v _ a i _ hg,hall];simp [hx]⟩,by omega⟩
    ·have hxn:(J1 x.kind != wnt)=true:=by simp [hx]
     repeat' ((with_reducible apply wr)<;>try simp only [go_sem,seval,hb0,hb1,hd,hlen,hia,hbj,hTi,hw,hxn])
     refine ⟨by (try and_intros)<;>exact hbn _ (by omega),?_⟩;repeat' ((with_reducible apply wr)<;>try simp only [go_sem,seval,hb0,hb1,hd,hlen,hia,hbj,hTi,hw,hxn])
     rw [A5b _ a i _ hg (by simp [hx]),if_neg (by decide)] at hR;exact A6 hR.symm
   have hd:decide ((i:Int)<a.length)=false:=by simpa using hlt
   have hlen:A6n (B9 o a.length)=some (I64 (a.length:Int)):=A5m (fun h=>by have:=hno.1 h;omega);have hall2:=A9f _ a i (by omega) hall;rw [if_pos hall2] at hR;repeat' ((with_reducible first|refine wr ?_|refine cpc hbo ?_|refine wb2 ?_ ?_<;>(intro hb;try simp only [hb])|fail)<;>try simp only [go_sem,seval,hb0,hb1,hd,hlen])
   all_goals (refine A6 ?_;rw [hR];simp_all [J1])
  by_cases ka:k=11\/k=23\/k=24
  ·have ew:P6 k a=2:=by unfold P6;rw [if_pos ka]
   rw [ew] at kL;rcases ka with rfl|rfl|rfl
   all_goals (repeat' ((with_reducible first|apply wr|refine cpc hk1 ?_|refine cpc hdn ?_|fail)<;>try simp only [go_sem,seval,hb0,hb1,hdz]))
   all_goals exact kL (c+8) (by omega)
  have ka1:(k == 11)=false:=by simp;omega
  have ka2:(k == 23)=false:=by simp;omega
  have ka3:(k == 24)=false:=by simp;omega
  by_cases kb:k=21\/k=22
  ·have hl2:=h22 kb;obtain ⟨j,hj⟩:∃ j,o=some j:=by
    cases o with
    | none=>have:=hno.1 rfl;omega
    | some j=>exact ⟨j,rfl⟩
   obtain ⟨x0,l0,rfl⟩:∃ x l,a=x :: l:=by
    cases a with
    | nil=>simp at hl2
    | cons x l=>exact ⟨x,l,rfl⟩
   have ew:P6 k (x0 :: l0)=J1 x0.kind:=by unfold P6;rw [if_neg ka,if_pos kb]
   rw [ew] at kL;have hbj:=hbo2 j hj;subst hj;have hT0:∃ T',T=I64 (J1 x0.kind) :: T':=⟨l0.map (fun x=>I64 (J1 x.kind)),by rw [hT];rfl⟩;obtain ⟨T',hT'⟩:=hT0;rw [hT'] at hbj;have hia:I1 1 (.slc j 0 (l0.length+1)) (.int .i64 0)=some (.ptr j 0):=by
    simp [I1]
   rcases kb with rfl|rfl
   all_goals (repeat' ((with_reducible first|apply wr|refine cpc hk1 ?_|refine cpc hdn ?_|fail)<;>try simp only [go_sem,seval,hb0,hb1,hdz,hia,hbj]))
   all_goals exact kL (c+8) (by omega)
  have ew:P6 k a=1:=by unfold P6;rw [if_neg ka,if_neg kb]
  rw [ew] at kL;have kb1:(k == 21)=false:=by simp;omega
  have kb2:(k == 22)=false:=by simp;omega
  repeat' ((with_reducible first|apply wr|refine cpc hk1 ?_|refine cpc hdn ?_|fail)<;>try simp only [go_sem,seval,hb0,hb1,hdz,ka1,ka2,ka3,kb1,kb2])
  all_goals exact kL (c+8) (by omega)
 | true =>
  have e0:dnE ⟨D,M⟩ n (kdE k) p=some (p,dnM ⟨D,M⟩ n (kdE k)):=by rw [dnE,if_neg (by simpa using hdz)]
  rw [e0] at hR;repeat' ((with_reducible first|apply wr|refine cpc hk1 ?_|refine cpc hdn ?_|fail)<;>try simp only [go_sem,seval,hb0,hb1,hdz])
  refine ⟨by (try and_intros)<;>exact hbn _ (by omega),by (try and_intros)<;>exact hbn _ (by omega),?_⟩;repeat' ((with_reducible first|apply wr|refine cpc hk1 ?_|refine cpc hdn ?_|fail)<;>try simp only [go_sem,seval,hb0,hb1,hdz])
  exact A6 hR.symm
theorem c_blkR (r:Ru) (h1:r.decls.length<=1000000000) (h2:r.modes.length<=1000000000):∀ (m:Nat) (l:List Pb.St) (d:Nat),Pb.St.szs l<m->Pb.St.szs l<=100000000->G7 d l=true->PC Tryz.prog 68 [r.v,F3 l] (erV (erB r l)):=by
 intro m
 induction m with
 | zero=>intro l d h;omega
 | succ m ih =>
 intro l d hm hB hv;have hl:=Pb.St.szs_len l;refine PC.ofT A9 rfl (A0B rfl) (by simp [Ru.v,DV.nlL,DV.nl,H4,G9,Q2]) (B7b _) ?_;obtain ⟨R,hR⟩:∃ R,R=erV (erB r l):=⟨_,rfl⟩;rw [<- hR];have hty:=fun x h h' h''=>c_tyR r h1 h2 (x.sz+1) x h h' h'';have hdn:=fun n k=>c_dnR r n k h1 h2;obtain ⟨D,M⟩:=r;dsimp only [Ru.v] at hty hdn ih ⊢;repeat' ((with_reducible apply wr)<;>try simp only [go_sem,seval])
 refine C2 (fun i:Nat=>[(1,F3 l),(2,.ptr 0 0),(6,I64 i)]) (fun _=>Sym.nil.upd 0 ⟨0,true,[C8 D,D5 M]⟩) (fun i c=>1<=c/\i<=l.length/\erB ⟨D,M⟩ l=erB ⟨D,M⟩ (l.drop i)) (fun i=>l.length-i) 0 (by simp [C3,tm,Tm.upd]) (Sub.refl _) ⟨A0H _,A0R _,rfl⟩ ?_;rintro i c ⟨h1c,hk,he⟩;by_cases hlt:i<l.length
 ·have hd:decide ((i:Int)<l.length)=true:=by simpa using hlt
  have hg:=A0C hlt;have hw:=w64 (n:=(i:Int)+1) (by omega) (by omega);have hsx:=Pb.St.szs_mem (A0O hlt);obtain ⟨v1,v2,v3⟩:=A3h (A5f hv _ (A0O hlt));rw [C6h hg,D2d] at he;generalize l[i]=s at hg hsx v1 v2 v3 he;have hsa:Ex.szs s.args<s.sz:=by cases s with|mk k n t a x y p=>rw [Pb.St.sz];show Ex.szs a<_;omega
  have hal:=Ex.szs_len s.args;have hX:=ih s.thn (d+1) (by have:=s.sz_thn;omega) (by have:=s.sz_thn;omega) v2;have hY:=ih s.els (d+1) (by have:=s.sz_els;omega) (by have:=s.sz_els;omega) v3;have hk1:=c_stmKR s.kind;have hdn:=hdn s.name (kdS s.kind);have ne0:=M8 0 c (by omega);repeat' ((with_reducible first|apply wr|refine cpc hk1 ?_|refine cpc hdn ?_|fail)<;>try simp only [go_sem,seval,hd,hg,hw,Pb.St.v_w,A0D,ne0,A0,A1])
  refine ⟨by (try and_intros)<;>(repeat rw [A2 (by omega)])<;>rfl,?_⟩;obtain ⟨HH,hHH⟩:∃ HH,HH=(Sym.nil.upd 0 ⟨0,true,[C8 D,D5 M]⟩).upd c ⟨0,true,[I64 s.kind,.str s.name,.str s.text,I3 s.args,F3 s.thn,F3 s.els,I64 s.pos]⟩:=⟨_,rfl⟩;have hb0:HH 0=some ⟨0,true,[C8 D,D5 M]⟩:=by rw [hHH,A2 (by omega)];rfl
  have hbc:HH c=some ⟨0,true,[I64 s.kind,.str s.name,.str s.text,I3 s.args,F3 s.thn,F3 s.els,I64 s.pos]⟩:=by rw [hHH];exact A0
  have hbn:∀ j:Nat,c+1<=j->HH j=none:=fun j hj=>by rw [hHH,A2 (by omega),A2 (by omega)];rfl
  have hsub:Sym.Sub (Sym.nil.upd 0 ⟨0,true,[C8 D,D5 M]⟩) HH:=by rw [hHH];exact A2j h1c
  rw [<- hHH];cases hdz:(dnM ⟨D,M⟩ s.name (kdS s.kind) != 0) with
  | true =>
   have e0:dnE ⟨D,M⟩ s.name (kdS s.kind) s.pos=some (s.pos,dnM ⟨D,M⟩ s.name (kdS s.kind)):=by rw [dnE,if_neg (by simpa using hdz)]
   rw [e0] at he;rw [he] at hR;repeat' ((with_reducible first|apply wr|refine cpc hk1 ?_|refine cpc hdn ?_|fail)<;>try simp only [go_sem,seval,hb0,hbc,hdz])
   exact A6 hR.symm
  | false =>
  have e0:dnE ⟨D,M⟩ s.name (kdS s.kind) s.pos=none:=by rw [dnE,if_pos (by simpa using hdz)]
  rw [e0,A1U] at he;repeat' ((with_reducible first|apply wr|refine cpc hk1 ?_|refine cpc hdn ?_|fail)<;>try simp only [go_sem,seval,hb0,hbc,hdz])
  refine C2 (fun i2:Nat=>[(1,F3 l),(2,.ptr 0 0),(6,I64 i),(7,.ptr c 0),(9,I64 i2)]) (fun _=>HH) (fun i2 c2=>c+1<=c2/\i2<=s.args.length/\erA ⟨D,M⟩ (s.kind == 2) s.args=erA ⟨D,M⟩ (s.kind == 2) (s.args.drop i2)) (fun i2=>s.args.length-i2) 0 (by simp [C3,tm,Tm.upd]) (Sub.refl _) ⟨by omega,A0R _,rfl⟩ ?_;rintro i2 c2 ⟨hc2,hk2,he2⟩;by_cases hlt2:i2<s.args.length
  ·have hd2:decide ((i2:Int)<s.args.length)=true:=by simpa using hlt2
   have hg2:=A0C hlt2;have hw2:=w64 (n:=(i2:Int)+1) (by omega) (by omega);have hxs:=Ex.szs_mem (A0O hlt2);have hc:=hty s.args[i2] (by omega) (by omega) (v1 _ (A0O hlt2));rw [C6i hg2] at he2;generalize s.args[i2]=x at hg2 hxs hc he2;rw [Ex.v_w] at hc;unfold tyV at hc;cases hq:erE ⟨D,M⟩ x with
   | some q =>
    obtain ⟨px,cx⟩:=q;have hnz:(cx != 0)=true:=by simpa using C4h _ x _ _ hq
    rw [hq] at hc he2;rw [he,he2] at hR;repeat' ((with_reducible first|apply wr|refine cpc hc ?_|fail)<;>try simp only [go_sem,seval,hb0,hbc,hd2,hg2,hw2,Ex.v_w,A0D,hnz])
    refine ⟨by (try and_intros)<;>exact hbn _ (by omega),by (try and_intros)<;>exact hbn _ (by omega),?_⟩;repeat' ((with_reducible first|apply wr|refine cpc hc ?_|fail)<;>try simp only [go_sem,seval,hb0,hbc,hd2,hg2,hw2,Ex.v_w,A0D,hnz])
    exact A6 hR.symm
   | none =>
    rw [hq] at hc he2;repeat' ((with_reducible first|apply wr|refine cpc hc ?_|fail)<;>try simp only [go_sem,seval,hb0,hbc,hd2,hg2,hw2,Ex.v_w,A0D])
    refine ⟨by (try and_intros)<;>exact hbn _ (by omega),by (try and_intros)<;>exact hbn _ (by omega),?_⟩;repeat' ((with_reducible first|refine wr ?_|refine cpc hc ?_|refine wb2 ?_ ?_<;>(intro hb;try simp only [hb])|fail)<;>try simp only [go_sem,seval,hb0,hbc,hd2,hg2,hw2,Ex.v_w,A0D])
    ·have hne:¬ (J1 x.kind == 2)=(s.kind == 2):=by simpa [bne] using hb
     rw [if_neg hne] at he2;rw [he,he2] at hR;exact A6 hR.symm
    ·have heq:(J1 x.kind == 2)=(s.kind == 2):=by simpa [bne] using hb
     rw [if_pos heq] at he2;exact ⟨i2+1,by simp,Sub.refl _,inv ⟨by omega,by omega,he2⟩,by omega⟩
  have hd2:decide ((i2:Int)<s.args.length)=false:=by simpa using hlt2
  rw [A1T (by omega),erA] at he2;rw [he2,A1U] at he;clear he2;cases hqX:erB ⟨D,M⟩ s.thn with
  | some q =>
   obtain ⟨px,cx⟩:=q;have hnz:(cx != 0)=true:=by simpa using B1v _ _ _ _ hqX
   rw [hqX] at hX he;rw [he] at hR;dsimp only [erV] at hX;repeat' ((with_reducible first|apply wr|refine cpc hX ?_|fail)<;>try simp only [go_sem,seval,hb0,hbc,hd2,A0D,hnz])
   exact A6 hR.symm
  | none =>
  rw [hqX] at hX he;rw [A1U] at he;dsimp only [erV] at hX;cases hqY:erB ⟨D,M⟩ s.els with
  | some q =>
   obtain ⟨px,cx⟩:=q;have hnz:(cx != 0)=true:=by simpa using B1v _ _ _ _ hqY
   rw [hqY] at hY he;rw [he] at hR;dsimp only [erV] at hY;repeat' ((with_reducible first|apply wr|refine cpc hX ?_|refine cpc hY ?_|fail)<;>try simp only [go_sem,seval,hb0,hbc,hd2,A0D,hnz])
   exact A6 hR.symm
  | none =>
  rw [hqY] at hY he;rw [A1U] at he;dsimp only [erV] at hY;repeat' ((with_reducible first|apply wr|refine cpc hX ?_|refine cpc hY ?_|fail)<;>try simp only [go_sem,seval,hb0,hbc,hd2,A0D,hw])
  exact ⟨i+1,by simp,hsub,inv ⟨by omega,by omega,he⟩,by omega⟩
 have hd:decide ((i:Int)<l.length)=false:=by simpa using hlt
 rw [A1T (by omega),erB] at he;rw [he] at hR;repeat' ((with_reducible apply wr)<;>try simp only [go_sem,seval,hd,A0D])
 exact A6 hR.symm
theorem c_headsR (r:Ru) (h1:r.decls.length<=1000000000) (h2:r.modes.length<=1000000000):PC Tryz.prog 65 [r.v] (erV (A6p r)):=by
 refine PC.ofT A9 rfl (A0B rfl) (by simp [Ru.v,DV.nlL,DV.nl,H4,G9]) (B7b _) ?_;obtain ⟨R,hR⟩:∃ R,R=erV (A6p r):=⟨_,rfl⟩;rw [<- hR];obtain ⟨D,M⟩:=r;unfold A6p at hR;dsimp only at h1 h2 hR;dsimp only [Ru.v];repeat' ((with_reducible apply wr)<;>try simp only [go_sem,seval])
 refine C2 (fun i:Nat=>[(1,.ptr 0 0),(4,I64 i)]) (fun _=>Sym.nil.upd 0 ⟨0,true,[C8 D,D5 M]⟩) (fun i c=>1<=c/\i<=D.length/\erD [] D=erD (D.take i) (D.drop i)) (fun i=>D.length-i) 0 (by simp [C3,tm,Tm.upd]) (Sub.refl _) ⟨A0H _,A0R _,rfl⟩ ?_;rintro i c ⟨h1c,hk,he⟩;by_cases hlt:i<D.length
 ·have hd:decide ((i:Int)<D.length)=true:=by simpa using hlt
  have hg:=A0C hlt;have hw:=w64 (n:=(i:Int)+1) (by omega) (by omega);rw [C6g hg] at he;have hlk:=C4a (c_lkR ⟨D.take i,[]⟩ D[i].name (by rw [A1A];omega) (A0R _));generalize D[i]=d at hg he hlk;have hmo:=c_mostR d.kind;have hsl:=fun H=>B1k (xs:=D.map Dc.v) (h:=i) (sz:=4) (by rw [A0D];omega) (K8 _) H;rw [<- List.map_take] at hsl;have ne0:=M8 0 c (by omega);by_cases hv:d.value>A3r d.kind
  ·have qv:decide (d.value>A3r d.kind)=true:=by simpa using hv
   rw [if_pos hv] at he;rw [he] at hR;repeat' ((with_reducible first|apply wr|refine cpc hmo ?_|refine cpc hlk ?_|fail)<;>try simp only [go_sem,seval,hd,hg,hw,A0y,A0D,ne0,A0,A1,hsl,qv])
   refine ⟨by (try and_intros)<;>(repeat rw [A2 (by omega)])<;>rfl,?_⟩;repeat' ((with_reducible first|apply wr|refine cpc hmo ?_|refine cpc hlk ?_|fail)<;>try simp only [go_sem,seval,hd,hg,hw,A0y,A0D,ne0,A0,A1,hsl,qv])
   exact A6 hR.symm
  have qv:decide (d.value>A3r d.kind)=false:=by simpa using hv
  rw [if_neg hv,A1U] at he;by_cases hl:(K2 ⟨D.take i,[]⟩ d.name).1=0
  ·have ql:((K2 ⟨D.take i,[]⟩ d.name).1 != 0)=false:=by simp [hl]
   rw [if_pos hl,A1U] at he;repeat' ((with_reducible first|apply wr|refine cpc hmo ?_|refine cpc hlk ?_|fail)<;>try simp only [go_sem,seval,hd,hg,hw,A0y,A0D,ne0,A0,A1,hsl,qv,ql])
   refine ⟨by (try and_intros)<;>(repeat rw [A2 (by omega)])<;>rfl,?_⟩;repeat' ((with_reducible first|apply wr|refine cpc hmo ?_|refine cpc hlk ?_|fail)<;>try simp only [go_sem,seval,hd,hg,hw,A0y,A0D,ne0,A0,A1,hsl,qv,ql])
   refine ⟨by (try and_intros)<;>(repeat rw [A2 (by omega)])<;>rfl,?_⟩;repeat' ((with_reducible first|apply wr|refine cpc hmo ?_|refine cpc hlk ?_|fail)<;>try simp only [go_sem,seval,hd,hg,hw,A0y,A0D,ne0,A0,A1,hsl,qv,ql])
   exact ⟨i+1,by simp,A2j h1c,inv ⟨by omega,by omega,he⟩,by omega⟩
  ·have ql:((K2 ⟨D.take i,[]⟩ d.name).1 != 0)=true:=by simp [hl]
   rw [if_neg hl] at he;rw [he] at hR;repeat' ((with_reducible first|apply wr|refine cpc hmo ?_|refine cpc hlk ?_|fail)<;>try simp only [go_sem,seval,hd,hg,hw,A0y,A0D,ne0,A0,A1,hsl,qv,ql])
   refine ⟨by (try and_intros)<;>(repeat rw [A2 (by omega)])<;>rfl,?_⟩;repeat' ((with_reducible first|apply wr|refine cpc hmo ?_|refine cpc hlk ?_|fail)<;>try simp only [go_sem,seval,hd,hg,hw,A0y,A0D,ne0,A0,A1,hsl,qv,ql])
   refine ⟨by (try and_intros)<;>(repeat rw [A2 (by omega)])<;>rfl,?_⟩;repeat' ((with_reducible first|apply wr|refine cpc hmo ?_|refine cpc hlk ?_|fail)<;>try simp only [go_sem,seval,hd,hg,hw,A0y,A0D,ne0,A0,A1,hsl,qv,ql])
   exact A6 hR.symm
 have hd:decide ((i:Int)<D.length)=false:=by simpa using hlt
 rw [A1T (by omega),erD] at he;rw [he,A1U] at hR;repeat' ((with_reducible apply wr)<;>try simp only [go_sem,seval,hd,A0D])
 clear he hd hlt hk i;refine C2 (fun i:Nat=>[(1,.ptr 0 0),(8,I64 i)]) (fun _=>Sym.nil.upd 0 ⟨0,true,[C8 D,D5 M]⟩) (fun i c=>1<=c/\i<=M.length/\erP D [] M=erP D (M.take i) (M.drop i)) (fun i=>M.length-i) 0 (by simp [C3,tm,Tm.upd]) (Sub.refl _) ⟨h1c,A0R _,rfl⟩ ?_;clear h1c c;rintro i c ⟨h1c,hk,he⟩;by_cases hlt:i<M.length
 ·have hd:decide ((i:Int)<M.length)=true:=by simpa using hlt
  have hg:=A0C hlt;have hw:=w64 (n:=(i:Int)+1) (by omega) (by omega);rw [C6a hg] at he;have hlk:PC Tryz.prog 62 [.agg [C8 D,D5 (M.take i)],.str M[i].name] _:=c_lkR ⟨D,M.take i⟩ M[i].name (by omega) (by rw [A1A];omega);generalize M[i]=d at hg he hlk;have hsl:=fun H=>B1k (xs:=M.map Md.v) (h:=i) (sz:=4) (by rw [A0D];omega) (V3 _) H;rw [<- List.map_take] at hsl;have ne0:=M8 0 c (by omega);by_cases hv:d.prio>99
  ·have qv:decide (d.prio>99)=true:=by simpa using hv
   rw [if_pos hv] at he;rw [he] at hR;repeat' ((with_reducible first|apply wr|refine cpc hlk ?_|fail)<;>try simp only [go_sem,seval,hd,hg,hw,A6m,A0D,ne0,A0,A1,hsl,qv])
   exact A6 hR.symm
  have qv:decide (d.prio>99)=false:=by simpa using hv
  rw [if_neg hv,A1U] at he;by_cases hl:(K2 ⟨D,M.take i⟩ d.name).1=0
  ·have ql:((K2 ⟨D,M.take i⟩ d.name).1 != 0)=false:=by simp [hl]
   rw [if_pos hl,A1U] at he;repeat' ((with_reducible first|apply wr|refine cpc hlk ?_|fail)<;>try simp only [go_sem,seval,hd,hg,hw,A6m,A0D,ne0,A0,A1,hsl,qv,ql])
   refine ⟨by (try and_intros)<;>(repeat rw [A2 (by omega)])<;>rfl,?_⟩;repeat' ((with_reducible first|apply wr|refine cpc hlk ?_|fail)<;>try simp only [go_sem,seval,hd,hg,hw,A6m,A0D,ne0,A0,A1,hsl,qv,ql])
   exact ⟨i+1,by simp,A2j h1c,inv ⟨by omega,by omega,he⟩,by omega⟩
  ·have ql:((K2 ⟨D,M.take i⟩ d.name).1 != 0)=true:=by simp [hl]
   rw [if_neg hl] at he;rw [he] at hR;repeat' ((with_reducible first|apply wr|refine cpc hlk ?_|fail)<;>try simp only [go_sem,seval,hd,hg,hw,A6m,A0D,ne0,A0,A1,hsl,qv,ql])
   refine ⟨by (try and_intros)<;>(repeat rw [A2 (by omega)])<;>rfl,?_⟩;repeat' ((with_reducible first|apply wr|refine cpc hlk ?_|fail)<;>try simp only [go_sem,seval,hd,hg,hw,A6m,A0D,ne0,A0,A1,hsl,qv,ql])
   exact A6 hR.symm
 have hd:decide ((i:Int)<M.length)=false:=by simpa using hlt
 rw [A1T (by omega),erP] at he;rw [he] at hR;repeat' ((with_reducible apply wr)<;>try simp only [go_sem,seval,hd,A0D])
 exact A6 hR.symm
theorem A1c (h:Hd):h.v=.agg [I64 h.trig,.str h.name,F3 h.body,I64 h.pos]:=rfl
theorem c_vdR (r:Ru) (hB:r.sz<4000000):PC Tryz.prog 59 [r.v] (.bool (R5 r)):=by
 have:=c_ValidR31 r hB
 rwa [C7r] at this
theorem B9m (r:Ru):(A9c r).nl=true:=by unfold A9c;split;exact B7b _;rfl
theorem c_CheckR (r:Ru) (hB:r.sz<4000000):PC Tryz.prog 34 [r.v] (A9c r):=by
 refine PC.ofT A9 rfl (A0B rfl) (by simp [Ru.v,DV.nlL,DV.nl,H4,G9]) (B9m _) ?_;have hv:=c_vdR r hB;have hhe:=c_headsR r (by have:=A9u r;omega) (by have:=A7z r;omega);have hdn:=fun n k=>c_dnR r n k (by have:=A9u r;omega) (by have:=A7z r;omega);have hbl:=fun l d h h'=>c_blkR r (by have:=A9u r;omega) (by have:=A7z r;omega) (Pb.St.szs l+1) l d (A2Z _) h h';have hml:=A7z r;have hms:∀ m∈r.modes,m.sz<=r.sz:=fun m h=>C2n h;have hbv:=@A7u _ r;have hch:A9c r=if R5 r=true then erV (C1i r) else .tup [I64 0,I64 1]:=rfl
 unfold C1i at hch;cases hvd:R5 r with
 | false =>
  rw [hvd] at hv hch;rw [hch];obtain ⟨D,M⟩:=r;dsimp only [Ru.v] at hv ⊢;repeat' ((with_reducible first|apply wr|refine cpc hv ?_|fail)<;>try simp only [go_sem,seval])
  exact A6 rfl
 | true =>
 have hbv:=hbv hvd;rw [hvd] at hv hch;rw [if_pos rfl] at hch;obtain ⟨R,hR⟩:∃ R,R=A9c r:=⟨_,rfl⟩;rw [<- hR];rw [hch] at hR;have hnz:=C4g r;obtain ⟨D,M⟩:=r;dsimp only [Ru.v] at hv hhe hdn hbl hml hms hbv hR ⊢;cases hqH:A6p ⟨D,M⟩ with
 | some q =>
  obtain ⟨px,cx⟩:=q;have hn:(cx != 0)=true:=by simpa using hnz _ _ hqH
  rw [hqH] at hhe hR;dsimp only [erV] at hhe;repeat' ((with_reducible first|apply wr|refine cpc hv ?_|refine cpc hhe ?_|fail)<;>try simp only [go_sem,seval,hn])
  exact A6 hR.symm
 | none =>
 rw [hqH] at hhe hR;rw [A1U] at hR;dsimp only [erV] at hhe;repeat' ((with_reducible first|apply wr|refine cpc hv ?_|refine cpc hhe ?_|fail)<;>try simp only [go_sem,seval])
 refine C2 (fun i:Nat=>[(1,.ptr 0 0),(6,I64 i)]) (fun _=>Sym.nil.upd 0 ⟨0,true,[C8 D,D5 M]⟩) (fun i c=>1<=c/\i<=M.length/\erM ⟨D,M⟩ M=erM ⟨D,M⟩ (M.drop i)) (fun i=>M.length-i) 0 (by simp [C3,tm,Tm.upd]) (Sub.refl _) ⟨by omega,A0R _,rfl⟩ ?_;rintro i c ⟨h1c,hk,he⟩;by_cases hlt:i<M.length
 ·have hd:decide ((i:Int)<M.length)=true:=by simpa using hlt
  have hg:=A0C hlt;have hw:=w64 (n:=(i:Int)+1) (by omega) (by omega);rw [C6b hg] at he;have hms:=hms _ (A0O hlt);have hbv:=hbv _ (A0O hlt);generalize M[i]=d at hg he hms hbv;have hhl:=C2o d;repeat' ((with_reducible first|apply wr|refine cpc hv ?_|refine cpc hhe ?_|fail)<;>try simp only [go_sem,seval,hd,hg,hw,A6m,A0D])
  refine C2 (fun i2:Nat=>[(1,.ptr 0 0),(6,I64 i),(7,S2 d.hds),(8,I64 i2)]) (fun _=>Sym.nil.upd 0 ⟨0,true,[C8 D,D5 M]⟩) (fun i2 c=>1<=c/\i2<=d.hds.length/\erH ⟨D,M⟩ [] d.hds=erH ⟨D,M⟩ (d.hds.take i2) (d.hds.drop i2)) (fun i2=>d.hds.length-i2) 0 (by simp [C3,tm,Tm.upd]) (Sub.refl _) ⟨by omega,A0R _,rfl⟩ ?_;rintro i2 c2 ⟨hc2,hk2,he2⟩;by_cases hlt2:i2<d.hds.length
  ·have hd2:decide ((i2:Int)<d.hds.length)=true:=by simpa using hlt2
   have hg2:=A0C hlt2;have hw2:=w64 (n:=(i2:Int)+1) (by omega) (by omega);have hxs:=C2p (A0O hlt2);have hbv:=hbv _ (A0O hlt2);rw [C6e hg2] at he2;generalize d.hds[i2]=x at hg2 hxs hbv he2;have hxe:x.sz=1+x.name.length+Pb.St.szs x.body:=rfl;have hbl:=hbl x.body 1 (by omega) hbv;have htk:=c_trgKR x.trig;have hdn:=hdn x.name (kdH x.trig);cases hdz:(dnM ⟨D,M⟩ x.name (kdH x.trig) != 0) with
   | true =>
    have e0:dnE ⟨D,M⟩ x.name (kdH x.trig) x.pos=some (x.pos,dnM ⟨D,M⟩ x.name (kdH x.trig)):=by rw [dnE,if_neg (by simpa using hdz)]
    rw [e0] at he2;rw [he,he2] at hR;repeat' ((with_reducible first|apply wr|refine cpc htk ?_|refine cpc hdn ?_|fail)<;>try simp only [go_sem,seval,hd2,hg2,hw2,A1c,A0D,hdz])
    refine ⟨by (try and_intros)<;>(repeat rw [A2 (by omega)])<;>rfl,?_⟩;repeat' ((with_reducible first|apply wr|refine cpc htk ?_|refine cpc hdn ?_|fail)<;>try simp only [go_sem,seval,hd2,hg2,hw2,A1c,A0D,hdz])
    exact A6 hR.symm
   | false =>
   have e0:dnE ⟨D,M⟩ x.name (kdH x.trig) x.pos=none:=by rw [dnE,if_pos (by simpa using hdz)]
   rw [e0,A1U] at he2;repeat' ((with_reducible first|apply wr|refine cpc htk ?_|refine cpc hdn ?_|fail)<;>try simp only [go_sem,seval,hd2,hg2,hw2,A1c,A0D,hdz])
   refine ⟨by (try and_intros)<;>(repeat rw [A2 (by omega)])<;>rfl,?_⟩;repeat' ((with_reducible first|apply wr|refine cpc htk ?_|refine cpc hdn ?_|fail)<;>try simp only [go_sem,seval,hd2,hg2,hw2,A1c,A0D,hdz])
   refine C2 (fun j:Nat=>[(1,.ptr 0 0),(6,I64 i),(7,S2 d.hds),(8,I64 i2),(10,I64 j)]) (fun _=>Sym.nil.upd 0 ⟨0,true,[C8 D,D5 M]⟩) (fun j c=>1<=c/\j<=i2/\(d.hds.take j).any (fun y=>y.trig == x.trig && y.name == x.name)=false) (fun j=>i2-j) 0 (by simp [C3,tm,Tm.upd]) (Sub.refl _) ⟨by omega,A0R _,rfl⟩ ?_;rintro j c3 ⟨hc3,hj,ha⟩;by_cases hlt3:j<i2
   ·have hd3:decide ((j:Int)<(i2:Int))=true:=by simpa using hlt3
    have hg3:=A0C (l:=d.hds) (i:=j) (by omega);have hw3:=w64 (n:=(j:Int)+1) (by omega) (by omega);generalize d.hds[j]'(by omega)=y at hg3;cases hp:(y.trig == x.trig && y.name == x.name) with
    | true =>
     have hany:(d.hds.take i2).any (fun y=>y.trig == x.trig && y.name == x.name)=true:=by
      rw [A4D];exact ⟨y,A0W (by rw [List.getElem?_take_of_lt hlt3];exact hg3),hp⟩
     rw [if_pos hany] at he2;rw [he,he2] at hR;rw [A0G] at hp;repeat' ((with_reducible apply wr)<;>try simp only [go_sem,seval,hd3,hg3,hg2,hw3,A1c,A0D,hp.1,hp.2])
     exact A6 hR.symm
    | false =>
     have hnx:=A6b (fun y=>y.trig == x.trig && y.name == x.name) _ _ _ hg3;rw [ha,hp] at hnx;cases hp1:y.trig == x.trig with
     | false =>
      repeat' ((with_reducible apply wr)<;>try simp only [go_sem,seval,hd3,hg3,hg2,hw3,A1c,A0D,hp1])
      exact ⟨j+1,by simp,Sub.refl _,inv ⟨by omega,by omega,hnx⟩,by omega⟩
     | true =>
      have hp2:(y.name == x.name)=false:=by rw [hp1] at hp;simpa using hp
      repeat' ((with_reducible apply wr)<;>try simp only [go_sem,seval,hd3,hg3,hg2,hw3,A1c,A0D,hp1,hp2])
      exact ⟨j+1,by simp,Sub.refl _,inv ⟨by omega,by omega,hnx⟩,by omega⟩
   have hd3:decide ((j:Int)<(i2:Int))=false:=by simpa using hlt3
   have hji:j=i2:=by omega
   subst hji;rw [if_neg (by rw [ha];decide),A1U] at he2;cases hqB:erB ⟨D,M⟩ x.body with
   | some q =>
    obtain ⟨px,cx⟩:=q;have hn:(cx != 0)=true:=by simpa using B1v _ _ _ _ hqB
    rw [hqB] at hbl he2;dsimp only [erV] at hbl;rw [he,he2] at hR;repeat' ((with_reducible first|apply wr|refine cpc hbl ?_|fail)<;>try simp only [go_sem,seval,hd3,hg2,hw2,A1c,A0D,hn])
    exact A6 hR.symm
   | none =>
   rw [hqB] at hbl he2;dsimp only [erV] at hbl;rw [A1U] at he2;repeat' ((with_reducible first|apply wr|refine cpc hbl ?_|fail)<;>try simp only [go_sem,seval,hd3,hg2,hw2,A1c,A0D])
   exact ⟨j+1,by simp,Sub.refl _,inv ⟨by omega,by omega,he2⟩,by omega⟩
  have hd2:decide ((i2:Int)<d.hds.length)=false:=by simpa using hlt2
  rw [A1T (by omega),erH] at he2;rw [he2,A1U] at he;repeat' ((with_reducible apply wr)<;>try simp only [go_sem,seval,hd2,hw,A0D])
  exact ⟨i+1,by simp,Sub.refl _,inv ⟨by omega,by omega,he⟩,by omega⟩
 have hd:decide ((i:Int)<M.length)=false:=by simpa using hlt
 rw [A1T (by omega),erM] at he;rw [he] at hR;repeat' ((with_reducible apply wr)<;>try simp only [go_sem,seval,hd,A0D])
 exact A6 hR.symm
def C4v (r:Ru) (n:List UInt8):DV:=if R5 r=true then .tup [I64 (K2 r n).1,I64 (K2 r n).2] else .tup [I64 0,I64 0]
theorem D5i (r:Ru) (n:List UInt8):(C4v r n).nl=true:=by unfold C4v;split<;>rfl
theorem C8d {H:Hp} {c:Nat} {b:Blk} (h:H c=none):Sym.Sub H (H.upd c b):=by
 intro j q hj;by_cases e:j=c
 ·subst e;rw [h] at hj;cases hj
 ·rw [A2 e];exact hj
def C1u (r:Ru):DV:=if R5 r=true then .lst ((D7o r).map DV.str) else .lst []
theorem C7t (r:Ru):(C1u r).nl=true:=by unfold C1u;split<;>simp [DV.nl,DV.nlL,O4]
theorem J9 (l:List (List UInt8)):∀ x∈l.map DV.str,x.cells.length=1:=fun x hx=>by obtain ⟨y, -,rfl⟩:=A1L.1 hx;rfl
end Go.Proofs.YtnmkkggfgdfmeaaGreatDoor
set_option linter.unusedSectionVars false
namespace Go.Pb
variable [Go.Sym.Tab]
open Go.Sym
open Go.Eng (KKey)
def mkK (l:List (List UInt8 × DV)):List DV:=l.map fun p=>.str p.1
def mvV (l:List (List UInt8 × DV)):List DV:=l.map fun p=>p.2
theorem Z9 {n:List UInt8}:∀ (l:List (List UInt8 × DV)) (i:Nat),match E5 (.str n) (mkK l) i with
  | some j=>i<=j/\∃ x,(mvV l)[j-i]? = some x/\l.lookup n=some x
  | none=>l.lookup n=none
 | [],i=>rfl
 | p :: l,i=>by
  obtain ⟨a,x⟩:=p;show match E5 (.str n) (.str a :: mkK l) i with
   | some j=>_
   | none=>_
  rw [E5,A5t];cases h:n == a with
  | true =>
   refine ⟨A0H _,x,by simp [mvV],?_⟩;rw [A2U,h]
  | false =>
   have ih:=Z9 (n:=n) l (i+1);dsimp only;cases hf:E5 (.str n) (mkK l) (i+1) with
   | none=>rw [hf] at ih;dsimp only at ih ⊢;rw [A2U,h];exact ih
   | some j =>
    rw [hf] at ih;obtain ⟨h1,y,h2,h3⟩:=ih;refine ⟨by omega,y,?_,by rw [A2U,h];exact h3⟩;have e:j-i=(j-(i+1))+1:=by omega
    rw [e];exact h2
theorem A7j {l:List (List UInt8 × DV)} {n:List UInt8} {x z:DV} {ok:Bool} (h:l.lookup n=some x):lkV z ok (mvV l) (E5 (.str n) (mkK l) 0)=some (match ok with
  | true=>.tup [x,.bool true]
  | false=>x):=by
 have:=Z9 (n:=n) l 0;cases hf:E5 (.str n) (mkK l) 0 with
 | none=>rw [hf] at this;rw [this] at h;cases h
 | some j =>
  rw [hf] at this;obtain ⟨-,y,h2,h3⟩:=this;rw [h3] at h;cases h;simp only [lkV];rw [A4K] at h2;rw [h2];cases ok<;>rfl
theorem A7k {l:List (List UInt8 × DV)} {n:List UInt8} {z:DV} {ok:Bool} (h:l.lookup n=none):lkV z ok (mvV l) (E5 (.str n) (mkK l) 0)=some (match ok with
  | true=>.tup [z,.bool false]
  | false=>z):=by
 have:=Z9 (n:=n) l 0;cases hf:E5 (.str n) (mkK l) 0 with
 | none=>simp only [lkV];cases ok<;>rfl
 | some j =>
  rw [hf] at this;obtain ⟨-,y,h2,h3⟩:=this;rw [h3] at h;cases h
theorem C9o {l:List (List UInt8 × DV)} {n:List UInt8} (h:l.lookup n=none):E5 (.str n) (mkK l) 0=none:=by
 have:=Z9 (n:=n) l 0;cases hf:E5 (.str n) (mkK l) 0 with
 | none=>rfl
 | some j =>
  rw [hf] at this;obtain ⟨-,y,h2,h3⟩:=this;rw [h3] at h;cases h
theorem A6h {α : Type} (n:List UInt8) (a:List UInt8) (x : α):∀ l:List (List UInt8 × α),(l++[(a,x)]).lookup n=(l.lookup n).or (if n == a then some x else none)
 | []=>by simp [A2U];split<;>simp_all
 | (b,y) :: l=>by
  rw [List.cons_append,A2U,A2U,A6h n a x l];cases n == b<;>rfl
def A5s (q:Int × Int):DV:=.agg [I64 q.1,I64 q.2]
def A2w (l:List (List UInt8 × (Int × Int))) (n:List UInt8) (q:Int × Int):List (List UInt8 × (Int × Int)):=if (l.lookup n).isSome=true then l else l++[(n,q)]
def V2 (l:List (List UInt8 × (Int × Int))):List (List UInt8 × DV):=l.map fun p=>(p.1,A5s p.2)
theorem O9 (n:List UInt8):∀ l:List (List UInt8 × (Int × Int)),(V2 l).lookup n=(l.lookup n).map A5s
 | []=>rfl
 | (a,x) :: l=>by
  show ((a,A5s x) :: V2 l).lookup n=_;rw [A2U,A2U,O9 n l];cases n == a<;>rfl
def B3y (pre:List Dc) (d:Dc):Int:=if d.kind=6\/d.kind=7\/d.kind=8 then (cnD pre d.kind:Int) else d.value
def nmD (pre:List Dc) (l:List (List UInt8 × (Int × Int))):List Dc->List (List UInt8 × (Int × Int))
 | []=>l
 | d :: r=>nmD (pre++[d]) (A2w l d.name (d.kind,B3y pre d)) r
def nmX (i:Nat) (l:List (List UInt8 × (Int × Int))):List Md->List (List UInt8 × (Int × Int))
 | []=>l
 | m :: r=>nmX (i+1) (A2w l m.name (9,(i:Int))) r
def nmL (r:Ru):List (List UInt8 × (Int × Int)):=nmX 0 (nmD [] [] r.decls) r.modes
def nmV (r:Ru):DV:=.mp .s (mkK (V2 (nmL r))) (mvV (V2 (nmL r)))
def ahS:List (Int × Nat)->Int->List (Int × Nat)
 | [],k=>[(k,1)]
 | (a,n) :: l,k=>if a=k then (a,n+1) :: l else (a,n) :: ahS l k
def ahM (l:List Dc):List (Int × Nat):=l.foldl (fun a d=>ahS a d.kind) []
def ahK (l:List (Int × Nat)):List DV:=l.map fun p=>I64 p.1
def ahV (l:List (Int × Nat)):List DV:=l.map fun p=>I64 (p.2:Int)
def ahN (l:List (Int × Nat)) (k:Int):Nat:=match l with
 | []=>0
 | (a,n) :: r=>if a=k then n else ahN r k
theorem B2v (k:Int):∀ (l:List (Int × Nat)) (i:Nat),match E5 (I64 k) (ahK l) i with
  | some j=>i<=j/\∃ n:Nat,(ahV l)[j-i]? = some (I64 (n:Int))/\ahN l k=n/\(ahK l).set (j-i) (I64 k)=ahK (ahS l k)/\(ahV l).set (j-i) (I64 ((n:Int)+1))=ahV (ahS l k)
  | none=>ahN l k=0/\ahK l++[I64 k]=ahK (ahS l k)/\ahV l++[I64 1]=ahV (ahS l k)
 | [],i=>⟨rfl,rfl,rfl⟩
 | (a,n) :: l,i=>by
  have e:E5 (I64 k) (ahK ((a,n) :: l)) i=if k=a then some i else E5 (I64 k) (ahK l) (i+1):=by
   show E5 (I64 k) (I64 a :: ahK l) i=_;rw [E5];show (match k == a with
    | true=>some i
    | false=>E5 (I64 k) (ahK l) (i+1))=_
   by_cases h:k=a
   ·rw [if_pos h,A1K.2 h]
   ·rw [if_neg h,beq_eq_false_iff_ne.2 h]
  rw [e];by_cases h:k=a
  ·rw [if_pos h];subst h;refine ⟨A0H _,n,?_,?_,?_,?_⟩
   ·simp [ahV]
   ·simp [ahN]
   ·simp [ahK,ahS]
   ·simp [ahV,ahS]
  ·rw [if_neg h];have ih:=B2v k l (i+1);have h':¬ a=k:=fun e=>h e.symm;have es:ahS ((a,n) :: l) k=(a,n) :: ahS l k:=by rw [ahS,if_neg h']
   have en:ahN ((a,n) :: l) k=ahN l k:=by rw [ahN,if_neg h']
   rw [es,en];cases hf:E5 (I64 k) (ahK l) (i+1) with
   | none =>
    rw [hf] at ih;obtain ⟨i1,i2,i3⟩:=ih;exact ⟨i1,congrArg (I64 a :: ·) i2,congrArg (I64 (n:Int) :: ·) i3⟩
   | some j =>
    rw [hf] at ih;obtain ⟨i0,m,i1,i2,i3,i4⟩:=ih;have ej:j-i=(j-(i+1))+1:=by omega
    dsimp only;rw [ej];exact ⟨by omega,m,i1,i2,congrArg (I64 a :: ·) i3,congrArg (I64 (n:Int) :: ·) i4⟩
theorem D2l (k a:Int):∀ l:List (Int × Nat),ahN (ahS l a) k=ahN l k+(if a=k then 1 else 0)
 | []=>by simp [ahS,ahN]
 | (b,n) :: l=>by
  rw [ahS];by_cases h:b=a
  ·subst h;rw [if_pos rfl,ahN,ahN];by_cases h2:b=k
   ·simp [h2]
   ·simp [h2]
  ·rw [if_neg h,ahN,ahN,D2l k a l];by_cases h2:b=k
   ·have:¬ a=k:=fun e=>h (by rw [h2,e]);simp [h2,this]
   ·simp [h2]
theorem B5i (l:List Dc) (d:Dc):ahM (l++[d])=ahS (ahM l) d.kind:=by
 unfold ahM;rw [A3W];rfl
theorem C6y (l:List Dc) (d:Dc) (k:Int):cnD (l++[d]) k=cnD l k+(if d.kind=k then 1 else 0):=by
 unfold cnD;rw [List.countP_append];simp [List.countP_cons,List.countP_nil]
theorem C7k:∀ (m:Nat) (l:List Dc),l.length<=m->∀ k,ahN (ahM l) k=cnD l k:=by
 intro m
 induction m with
 | zero =>
  intro l hl k;have:l=[]:=A1V (by omega);subst this;rfl
 | succ m ih =>
  intro l hl k;by_cases h:l=[]
  ·subst h;rfl
  ·obtain ⟨l',d,rfl⟩:∃ l' d,l=l'++[d]:=⟨l.dropLast,l.getLast h,(List.dropLast_concat_getLast h).symm⟩;rw [B5i,D2l,C6y,ih l' (by simp at hl;omega)]
theorem D7d (l:List Dc) (k:Int):ahN (ahM l) k=cnD l k:=C7k _ l (A0H _) k
theorem C4l {D:List Dc} {i:Nat} {d:Dc} {l:List (List UInt8 × (Int × Int))} (h:D[i]? = some d):nmD (D.take i) l (D.drop i)=nmD (D.take (i+1)) (A2w l d.name (d.kind,B3y (D.take i) d)) (D.drop (i+1)):=by
 have hlt:=(A0K.1 h).1;rw [A1C hlt,(A0K.1 h).2,nmD,S7 h]
theorem C4k {M:List Md} {i:Nat} {m:Md} {l:List (List UInt8 × (Int × Int))} (h:M[i]? = some m):nmX i l (M.drop i)=nmX (i+1) (A2w l m.name (9,(i:Int))) (M.drop (i+1)):=by
 have hlt:=(A0K.1 h).1;rw [A1C hlt,(A0K.1 h).2,nmX]
theorem D6v (l:List Dc) (k:Int):cnD l k<=l.length:=List.countP_le_length
theorem E1a (k:Int) (a:List (Int × Nat)):Sym.lkV (I64 0) false (ahV a) (E5 (I64 k) (ahK a) 0)=some (I64 (ahN a k:Int)):=by
 have:=B2v k a 0;cases hf:E5 (I64 k) (ahK a) 0 with
 | none =>
  rw [hf] at this;obtain ⟨h, -, -⟩:=this;rw [h];rfl
 | some j =>
  rw [hf] at this;obtain ⟨-,n,h1,h2, -, -⟩:=this;rw [h2];simp only [Sym.lkV];rw [A4K] at h1;rw [h1]
theorem E0z (k:Int) (a:List (Int × Nat)) (H:Hp) (c id u:Nat):muV H c id u (.i .i64) (ahK a) (ahV a) (I64 k) (I64 ((ahN a k:Int)+1)) (E5 (I64 k) (ahK a) 0)=some (.tup [],H.upd id ⟨u,true,[.mpc (.i .i64) (ahK (ahS a k)) (ahV (ahS a k))]⟩,c):=by
 have:=B2v k a 0;cases hf:E5 (I64 k) (ahK a) 0 with
 | none =>
  rw [hf] at this;obtain ⟨h,h1,h2⟩:=this;rw [h];simp only [muV];rw [h1];rw [show ((0:Nat):Int)+1=1 from rfl,h2]
 | some j =>
  rw [hf] at this;obtain ⟨-,n,h1,h2,h3,h4⟩:=this;rw [h2];simp only [muV];rw [A4K] at h3 h4;rw [h3,h4]
end Go.Pb
namespace Go.Proofs.YtnmkkggfgdfmeaaGreatDoor
open Go.Eng (IC IOper DReg IFn B8)
open Go.Sym Go.Pb
abbrev C0r (l:List (List UInt8 × (Int × Int))):Blk:=⟨0,true,[.mpc .s (mkK (V2 l)) (mvV (V2 l))]⟩
theorem c_set (n:List UInt8) (q:Int × Int) (l:List (List UInt8 × (Int × Int))) (H:Hp) (cc b t:Nat) (hb:H b=some ⟨0,true,[.mid t]⟩) (ht:H t=some (C0r l)) (hbc:b<cc) (htc:t<cc) :
  AC Tryz.prog 85 [.str n,A5s q,.ptr b 0] H cc (fun v H' c'=>v=.tup []/\H'=H.upd t (C0r (A2w l n q))):=by
 refine AC.bodyT A9 rfl (A0B rfl) fun hfr=>?_;have hbt:b≠t:=fun e=>by rw [e,ht] at hb;cases hb
 cases hl:l.lookup n with
 | some y =>
  have hs:A2w l n q=l:=by rw [A2w,if_pos (by rw [hl];rfl)]
  have h1:Sym.lkV (.agg [I64 0,I64 0]) true (mvV (V2 l)) (E5 (.str n) (mkK (V2 l)) 0)=some (.tup [A5s y,.bool true]):=A7j (ok:=true) (by rw [O9,hl];rfl);unfold A5s at h1 ⊢;rw [hs,upd_same ht];have ne0:=V1 b t cc (cc+1) (by omega);repeat' ((with_reducible apply wr)<;>try simp only [go_sem,seval,hb,ht,h1,ne0,A0,A1])
  refine ⟨_,_,GL.less' fun j b hj=>?_,rfl,rfl⟩;have:=B1y hfr hj;have h2:j≠cc+1:=by rintro rfl;rw [hfr _ (by omega)] at hj;cases hj
  rw [A2 h2,A2 this];exact hj
 | none =>
  have hs:A2w l n q=l++[(n,q)]:=by rw [A2w,if_neg (by rw [hl];simp)]
  have hl':(V2 l).lookup n=none:=by rw [O9,hl];rfl
  have h1:Sym.lkV (.agg [I64 0,I64 0]) true (mvV (V2 l)) (E5 (.str n) (mkK (V2 l)) 0)=some (.tup [.agg [I64 0,I64 0],.bool false]):=A7k (ok:=true) hl';have h2:=C9o hl';have e1:mkK (V2 (l++[(n,q)]))=mkK (V2 l)++[.str n]:=by simp [mkK,V2]
  have e2:mvV (V2 (l++[(n,q)]))=mvV (V2 l)++[A5s q]:=by simp [mvV,V2]
  unfold A5s at e2 ⊢;rw [hs];unfold C0r;rw [e1,e2];have ne0:=V1 b t cc (cc+1) (by omega);repeat' ((with_reducible apply wr)<;>try simp only [go_sem,seval,hb,ht,h1,h2,ne0,A0,A1])
  refine ⟨_,_,GL.less' fun j b hj=>?_,rfl,rfl⟩;by_cases e:j=t
  ·subst e;rw [A0] at hj ⊢;exact hj
  ·rw [A2 e] at hj ⊢;have:=B1y hfr hj;have h2:j≠cc+1:=by rintro rfl;rw [hfr _ (by omega)] at hj;cases hj
   rw [A2 h2,A2 this];exact hj
def nmH (D:List Dc) (M:List Md) (l:List (List UInt8 × (Int × Int))) (a:List (Int × Nat)):Hp:=(((Sym.nil.upd 0 ⟨0,true,[C8 D,D5 M]⟩).upd 1 (C0r l)).upd 2 ⟨0,true,[.mid 1]⟩).upd 3 ⟨0,true,[.mpc (.i .i64) (ahK a) (ahV a)]⟩
section
variable {D:List Dc} {M:List Md} {l:List (List UInt8 × (Int × Int))} {a:List (Int × Nat)}
theorem D4x:nmH D M l a 0=some ⟨0,true,[C8 D,D5 M]⟩:=rfl
theorem C9c:nmH D M l a 1=some (C0r l):=rfl
theorem C9b:nmH D M l a 2=some ⟨0,true,[.mid 1]⟩:=rfl
theorem D4w:nmH D M l a 3=some ⟨0,true,[.mpc (.i .i64) (ahK a) (ahV a)]⟩:=rfl
theorem D4v (j:Nat) (h:4<=j):nmH D M l a j=none:=by
 unfold nmH;rw [A2 (by omega),A2 (by omega),A2 (by omega),A2 (by omega)];rfl
theorem A5p {H:Hp} (h0:H 0=some ⟨0,true,[C8 D,D5 M]⟩) (h1:H 1=some (C0r l)) (h2:H 2=some ⟨0,true,[.mid 1]⟩) (h3:H 3=some ⟨0,true,[.mpc (.i .i64) (ahK a) (ahV a)]⟩):Sym.Sub (nmH D M l a) H:=by
 intro j b hj;have hlt:j<4:=A3I fun h=>by rw [D4v j h] at hj;cases hj
 match j,hlt with
 | 0,_=>rw [h0];exact hj
 | 1,_=>rw [h1];exact hj
 | 2,_=>rw [h2];exact hj
 | 3,_=>rw [h3];exact hj
end
theorem D4u (r:Ru):(nmV r).nl=true:=by
 unfold nmV mkK mvV V2;simp only [DV.nl];rw [A2X,A2X];rw [show ((fun p:List UInt8 × DV=>DV.str p.1)∘fun p:List UInt8 × (Int × Int)=>(p.1,A5s p.2))=fun p=>DV.str p.1 from rfl,show ((fun p:List UInt8 × DV=>p.2)∘fun p:List UInt8 × (Int × Int)=>(p.1,A5s p.2))=fun p=>A5s p.2 from rfl];rw [L7 (fun _=>rfl),L7 (fun _=>rfl)];rfl
theorem B5f:B7j (inj (Value.map none))=some (none,⟨0,true,[.mnil]⟩):=rfl
theorem c_names (r:Ru) (h1:r.decls.length<=1000000000) (h2:r.modes.length<=1000000000):PC Tryz.prog 41 [r.v] (nmV r):=by
 refine PC.ofT A9 rfl (A0B rfl) (by simp [Ru.v,DV.nlL,DV.nl,H4,G9]) (D4u _) ?_;obtain ⟨R,hR⟩:∃ R,R=nmL r:=⟨_,rfl⟩;unfold nmV;rw [<- hR];unfold nmL at hR;obtain ⟨D,M⟩:=r;dsimp only at h1 h2 hR;dsimp only [Ru.v];repeat' ((with_reducible apply wr)<;>try simp only [go_sem,seval,B5f])
 refine C2 (fun q:Nat × List (List UInt8 × (Int × Int))=>[(1,.ptr 0 0),(3,.ptr 2 0),(4,.mid 3),(5,.func 85 [] [.ptr 2 0]),(15,C8 D),(16,I64 D.length),(17,I64 q.1)]) (fun q=>nmH D M q.2 (ahM (D.take q.1)))
  (fun q c=>4<=c/\q.1<=D.length/\nmD [] [] D=nmD (D.take q.1) q.2 (D.drop q.1)) (fun q=>D.length-q.1) (0,[])
  (by simp [C3,tm,Tm.upd]) (A5p rfl rfl rfl rfl) ⟨by omega,A0R _,rfl⟩ ?_
 rintro ⟨i,l⟩ c ⟨h1c,hk,he⟩;dsimp only at hk he ⊢;by_cases hlt:i<D.length
 ·have hd:decide ((i:Int)<D.length)=true:=by simpa using hlt
  have hg:=A0C hlt;have hw:=w64 (n:=(i:Int)+1) (by omega) (by omega);rw [C4l hg] at he;have hah:ahM (D.take (i+1))=ahS (ahM (D.take i)) D[i].kind:=by rw [A1B,hg];exact B5i _ _
  have hlk:=E1a D[i].kind (ahM (D.take i));have hmu:=E0z D[i].kind (ahM (D.take i));have hcn:=D7d (D.take i) D[i].kind;have hcl:=D6v (D.take i) D[i].kind;rw [A1A] at hcl;generalize D[i]=d at hg he hah hlk hmu hcn hcl;rw [hcn] at hlk hmu;have hw2:=w64 (n:=(cnD (D.take i) d.kind:Int)+1) (by omega) (by omega);have hb0:nmH D M l (ahM (D.take i)) 0=_:=D4x;have hb1:nmH D M l (ahM (D.take i)) 1=_:=C9c;have hb2:nmH D M l (ahM (D.take i)) 2=_:=C9b;have hb3:nmH D M l (ahM (D.take i)) 3=_:=D4w;have hbn:∀ j,4<=j->nmH D M l (ahM (D.take i)) j=none:=fun j=>D4v j;generalize nmH D M l (ahM (D.take i))=HH at hb0 hb1 hb2 hb3 hbn ⊢;have ne0:=A9n 0 1 2 3 c (c+1) (by omega);by_cases hkk:d.kind=6\/d.kind=7\/d.kind=8
  ·have hnum:B3y (D.take i) d=(cnD (D.take i) d.kind:Int):=by rw [B3y,if_pos hkk]
   rw [hnum] at he;by_cases k6:d.kind=6
   ·have k6:(d.kind == 6)=true:=by simpa using k6
    repeat' ((with_reducible apply wr)<;>try simp only [go_sem,seval,hb0,hb1,hb2,hb3,hd,hg,hw,hw2,hlk,hmu,k6,A0y,A0D,ne0,A0,A1])
    refine AC.call (c_set d.name (d.kind,(cnD (D.take i) d.kind:Int)) l _ _ 2 1 (by rw [A2 (by omega),A2 (by omega),A2 (by omega)];exact hb2) (by rw [A2 (by omega),A2 (by omega),A2 (by omega)];exact hb1) (by omega) (by omega)) ?_;rintro v H' c' ⟨rfl,rfl⟩ hcc;simp only [go_sem,seval,hw];repeat' ((with_reducible apply wr)<;>try simp only [go_sem,seval,hw])
    refine ⟨(i+1,A2w l d.name (d.kind,(cnD (D.take i) d.kind:Int))),by simp [C3,tm,Tm.upd],?_,inv ⟨by omega,by omega,he⟩,by simp only;omega⟩;dsimp only;rw [hah];refine A5p ?_ A0 ?_ ?_
    ·rw [A2 (by omega),A2 (by omega),A2 (by omega),A2 (by omega)];exact hb0
    ·rw [A2 (by omega),A2 (by omega),A2 (by omega),A2 (by omega)];exact hb2
    ·rw [A2 (by omega),A0]
   have k6:(d.kind == 6)=false:=by simpa using k6
   by_cases k7:d.kind=7
   ·have k7:(d.kind == 7)=true:=by simpa using k7
    repeat' ((with_reducible apply wr)<;>try simp only [go_sem,seval,hb0,hb1,hb2,hb3,hd,hg,hw,hw2,hlk,hmu,k6,k7,A0y,A0D,ne0,A0,A1])
    refine AC.call (c_set d.name (d.kind,(cnD (D.take i) d.kind:Int)) l _ _ 2 1 (by rw [A2 (by omega),A2 (by omega),A2 (by omega)];exact hb2) (by rw [A2 (by omega),A2 (by omega),A2 (by omega)];exact hb1) (by omega) (by omega)) ?_;rintro v H' c' ⟨rfl,rfl⟩ hcc;simp only [go_sem,seval,hw];repeat' ((with_reducible apply wr)<;>try simp only [go_sem,seval,hw])
    refine ⟨(i+1,A2w l d.name (d.kind,(cnD (D.take i) d.kind:Int))),by simp [C3,tm,Tm.upd],?_,inv ⟨by omega,by omega,he⟩,by simp only;omega⟩;dsimp only;rw [hah];refine A5p ?_ A0 ?_ ?_
    ·rw [A2 (by omega),A2 (by omega),A2 (by omega),A2 (by omega)];exact hb0
    ·rw [A2 (by omega),A2 (by omega),A2 (by omega),A2 (by omega)];exact hb2
    ·rw [A2 (by omega),A0]
   have k7:(d.kind == 7)=false:=by simpa using k7
   have k8:(d.kind == 8)=true:=by simp at k6 k7 ⊢;omega
   repeat' ((with_reducible apply wr)<;>try simp only [go_sem,seval,hb0,hb1,hb2,hb3,hd,hg,hw,hw2,hlk,hmu,k6,k7,k8,A0y,A0D,ne0,A0,A1])
   refine AC.call (c_set d.name (d.kind,(cnD (D.take i) d.kind:Int)) l _ _ 2 1 (by rw [A2 (by omega),A2 (by omega),A2 (by omega)];exact hb2) (by rw [A2 (by omega),A2 (by omega),A2 (by omega)];exact hb1) (by omega) (by omega)) ?_;rintro v H' c' ⟨rfl,rfl⟩ hcc;simp only [go_sem,seval,hw];repeat' ((with_reducible apply wr)<;>try simp only [go_sem,seval,hw])
   refine ⟨(i+1,A2w l d.name (d.kind,(cnD (D.take i) d.kind:Int))),by simp [C3,tm,Tm.upd],?_,inv ⟨by omega,by omega,he⟩,by simp only;omega⟩;dsimp only;rw [hah];refine A5p ?_ A0 ?_ ?_
   ·rw [A2 (by omega),A2 (by omega),A2 (by omega),A2 (by omega)];exact hb0
   ·rw [A2 (by omega),A2 (by omega),A2 (by omega),A2 (by omega)];exact hb2
   ·rw [A2 (by omega),A0]
  ·have hnum:B3y (D.take i) d=d.value:=by rw [B3y,if_neg hkk]
   rw [hnum] at he;have k6:(d.kind == 6)=false:=by simp;omega
   have k7:(d.kind == 7)=false:=by simp;omega
   have k8:(d.kind == 8)=false:=by simp;omega
   repeat' ((with_reducible apply wr)<;>try simp only [go_sem,seval,hb0,hb1,hb2,hb3,hd,hg,hw,hw2,hlk,hmu,k6,k7,k8,A0y,A0D,ne0,A0,A1])
   refine AC.call (c_set d.name (d.kind,d.value) l _ _ 2 1 (by rw [A2 (by omega),A2 (by omega),A2 (by omega)];exact hb2) (by rw [A2 (by omega),A2 (by omega),A2 (by omega)];exact hb1) (by omega) (by omega)) ?_;rintro v H' c' ⟨rfl,rfl⟩ hcc;simp only [go_sem,seval,hw];repeat' ((with_reducible apply wr)<;>try simp only [go_sem,seval,hw])
   refine ⟨(i+1,A2w l d.name (d.kind,d.value)),by simp [C3,tm,Tm.upd],?_,inv ⟨by omega,by omega,he⟩,by simp only;omega⟩;dsimp only;rw [hah];refine A5p ?_ A0 ?_ ?_
   ·rw [A2 (by omega),A2 (by omega),A2 (by omega),A2 (by omega)];exact hb0
   ·rw [A2 (by omega),A2 (by omega),A2 (by omega),A2 (by omega)];exact hb2
   ·rw [A2 (by omega),A0]
 have hd:decide ((i:Int)<D.length)=false:=by simpa using hlt
 rw [A1T (by omega),nmD] at he;rw [he] at hR;repeat' ((with_reducible apply wr)<;>try simp only [go_sem,seval,hd,A0D,D4x,C9c,C9b,D4w])
 clear he hd hlt hk;generalize ahM (D.take i)=A;clear i;refine C2 (fun q:Nat × List (List UInt8 × (Int × Int))=>[(3,.ptr 2 0),(5,.func 85 [] [.ptr 2 0]),(56,D5 M),(57,I64 M.length),(58,I64 q.1)]) (fun q=>nmH D M q.2 A)
  (fun q c=>4<=c/\q.1<=M.length/\R=nmX q.1 q.2 (M.drop q.1)) (fun q=>M.length-q.1) (0,l)
  (by simp [C3,tm,Tm.upd]) (Sub.refl _) ⟨h1c,A0R _,hR⟩ ?_
 clear hR h1c c l;rintro ⟨i,l⟩ c ⟨h1c,hk,he⟩;dsimp only at hk he ⊢;by_cases hlt:i<M.length
 ·have hd:decide ((i:Int)<M.length)=true:=by simpa using hlt
  have hg:=A0C hlt;have hw:=w64 (n:=(i:Int)+1) (by omega) (by omega);rw [C4k hg] at he;generalize M[i]=d at hg he;have hb0:nmH D M l A 0=_:=D4x;have hb1:nmH D M l A 1=_:=C9c;have hb2:nmH D M l A 2=_:=C9b;have hb3:nmH D M l A 3=_:=D4w;have hbn:∀ j,4<=j->nmH D M l A j=none:=fun j=>D4v j;generalize nmH D M l A=HH at hb0 hb1 hb2 hb3 hbn ⊢;have ne0:=A9n 0 1 2 3 c (c+1) (by omega);repeat' ((with_reducible apply wr)<;>try simp only [go_sem,seval,hb0,hb1,hb2,hb3,hd,hg,hw,A6m,A0D,ne0,A0,A1])
  refine AC.call (c_set d.name (9,(i:Int)) l _ _ 2 1 (by rw [A2 (by omega)];exact hb2) (by rw [A2 (by omega)];exact hb1) (by omega) (by omega)) ?_;rintro v H' c' ⟨rfl,rfl⟩ hcc;simp only [go_sem,seval,hw];repeat' ((with_reducible apply wr)<;>try simp only [go_sem,seval,hw])
  refine ⟨(i+1,A2w l d.name (9,(i:Int))),by simp [C3,tm,Tm.upd],?_,inv ⟨by omega,by omega,he⟩,by simp only;omega⟩;refine A5p ?_ A0 ?_ ?_
  ·rw [A2 (by omega),A2 (by omega)];exact hb0
  ·rw [A2 (by omega),A2 (by omega)];exact hb2
  ·rw [A2 (by omega),A2 (by omega)];exact hb3
 have hd:decide ((i:Int)<M.length)=false:=by simpa using hlt
 rw [A1T (by omega),nmX] at he;subst he;have hb2:nmH D M R A 2=_:=C9b;repeat' ((with_reducible apply wr)<;>try simp only [go_sem,seval,hd,A0D,hb2])
 exact C4c C9c
end Go.Proofs.YtnmkkggfgdfmeaaGreatDoor
namespace Go.Pb
variable [Go.Sym.Tab]
open Go.Sym
def X2 (l:List Dc):Prop:=∀ d∈l,1<=d.kind/\d.kind<=8
theorem C1r {r:Ru} (h:R5 r=true):X2 r.decls:=by
 intro d hd;unfold R5 at h;simp only [A0G] at h;have h1:=A0U.1 h.1.2 d hd;unfold A1m at h1;simp only [A0G,A0L] at h1;exact ⟨h1.1.1.1.1,h1.1.1.1.2⟩
theorem A8d (l:List (List UInt8 × (Int × Int))) (a n:List UInt8) (q:Int × Int):(A2w l a q).lookup n=(l.lookup n).or (if n == a then some q else none):=by
 unfold A2w;split
 ·rename_i h;cases hn:n == a with
  | false=>simp
  | true =>
   have e:n=a:=by simpa using hn
   subst e;cases hl:l.lookup n with
   | none=>rw [hl] at h;cases h
   | some x=>rfl
 ·exact A6h n a q l
theorem A8h (n:List UInt8):∀ (M:List Md) (i:Nat) (l:List (List UInt8 × (Int × Int))),(nmX i l M).lookup n=(l.lookup n).or (lkM i M n)
 | [],i,l=>by rw [nmX,lkM,A3H]
 | m :: M,i,l=>by
  rw [nmX,A8h n M,A8d,lkM,A2E];by_cases h:m.name=n
  ·rw [if_pos h,if_pos (by simp [h])];rfl
  ·rw [if_neg h,if_neg (by simp;exact fun e=>h e.symm)];rfl
theorem A8i (n:List UInt8):∀ (D pre:List Dc) (l:List (List UInt8 × (Int × Int))),X2 D->(nmD pre l D).lookup n=(l.lookup n).or (lkD pre D n)
 | [],pre,l,_=>by rw [nmD,lkD,A3H]
 | d :: D,pre,l,hk=>by
  obtain ⟨k1,k2⟩:=hk d A0N;rw [nmD,A8i n D _ _ (fun x hx=>hk x (A0M _ hx)),A8d,lkD,A2E];by_cases h:d.name=n
  ·rw [if_pos h,if_pos (by simp [h])];have e:B3y pre d=(if d.kind<6 then d.value else (cnR ⟨pre,[]⟩ d.kind:Int)):=by
    unfold B3y cnR;by_cases h6:d.kind<6
    ·rw [if_pos h6,if_neg (by omega)]
    ·rw [if_neg h6,if_pos (by omega),if_neg (by omega)]
   rw [e];rfl
  ·rw [if_neg h,if_neg (by simp;exact fun e=>h e.symm)];rfl
theorem B0c {r:Ru} (hk:X2 r.decls) (n:List UInt8):(nmL r).lookup n=(lkD [] r.decls n).or (lkM 0 r.modes n):=by
 unfold nmL;rw [A8h,A8i n _ _ _ hk];simp
theorem B2d (r:Ru) (n:List UInt8):K2 r n=((lkD [] r.decls n).or (lkM 0 r.modes n)).getD (0,0):=by
 unfold K2;cases lkD [] r.decls n with
 | some q=>rfl
 | none =>
  cases lkM 0 r.modes n with
  | some q=>rfl
  | none=>rfl
theorem B6s {n:List UInt8}:∀ {D pre:List Dc} {q:Int × Int},X2 D->lkD pre D n=some q->q.1≠0
 | d :: D,pre,q,hk,h=>by
  rw [lkD] at h;split at h
  ·cases h;have:=hk d A0N;show d.kind≠0;omega
  ·exact B6s (fun x hx=>hk x (A0M _ hx)) h
theorem B6r {n:List UInt8}:∀ {M:List Md} {i:Nat} {q:Int × Int},lkM i M n=some q->q.1≠0
 | m :: M,i,q,h=>by
  rw [lkM] at h;split at h
  ·cases h;show (9:Int)≠0;decide
  ·exact B6r h
theorem B8k {r:Ru} (hk:X2 r.decls) {n:List UInt8} {q:Int × Int} (h:(nmL r).lookup n=some q):K2 r n=q/\q.1≠0:=by
 rw [B0c hk] at h;rw [B2d,h];refine ⟨rfl,?_⟩;cases hd:lkD [] r.decls n with
 | some p=>rw [hd] at h;cases h;exact B6s hk hd
 | none=>rw [hd] at h;exact B6r h
theorem B8l {r:Ru} (hk:X2 r.decls) {n:List UInt8} (h:(nmL r).lookup n=none):K2 r n=(0,0):=by
 rw [B0c hk] at h;rw [B2d,h];rfl
def upS (s:Int × Int) (o:Er):Int × Int:=if s.2=0 then o.getD s else s
theorem J7 {s:Int × Int} {a b:Er} (ha:NzE a):upS (upS s a) b=upS s (a.or b):=by
 unfold upS;by_cases h:s.2=0
 ·cases a with
  | none=>simp [h]
  | some q =>
   have:=ha q.1 q.2 rfl;simp [h,this]
 ·simp [h]
theorem J8 (s:Int × Int):upS s none=s:=by unfold upS;split<;>rfl
theorem C1t (s:Int × Int) (p e:Int) (h:e≠0):upS (upS s (some (p,e))) (some (p,e))=upS s (some (p,e)):=by
 rw [J7 (fun a b hq=>by cases hq;exact h)];rfl
def C7w (k:Int):Bool:=(k == 3 || k == 4 || k == 5 || k == 6 || k == 11 || k == 23 || k == 24) || (decide (17<=k) && decide (k<=22))
theorem C7v {k:Int} (h:k<=24):C7w k=C1j k:=by
 unfold C7w C1j;rw [A2A];simp only [A0Z,A0G,A1K,A0L];omega
theorem B8q {e:Ex} {q:Nat × Nat} (h:msM e=some q):e.kind<=24:=by
 cases e with|mk k v n a p =>
 obtain ⟨o,d⟩:=q;obtain ⟨m1, -⟩:=A5q h;show k<=24;unfold kOk at m1;simp only [A0Z,A0G,A0L] at m1;rcases m1 with m1|m1
 ·have:=B2f m1;omega
 ·exact m1.2
theorem A7i (D:List Dc) (M:List Md) (n:List UInt8) (hk:X2 D):(K2 ⟨D,M⟩ n).1=0↔D.any (fun d=>d.name == n)=false/\M.any (fun d=>d.name == n)=false:=by
 have hD:∀ (D pre:List Dc),lkD pre D n=none↔D.any (fun d=>d.name == n)=false:=by
  intro D
  induction D with
  | nil=>intro pre;simp [lkD]
  | cons d D ih =>
   intro pre;rw [lkD];by_cases h:d.name=n
   ·rw [if_pos h];simp [h]
   ·rw [if_neg h,ih];simp [h]
 have hM:∀ (M:List Md) (i:Nat),lkM i M n=none↔M.any (fun d=>d.name == n)=false:=by
  intro M
  induction M with
  | nil=>intro pre;simp [lkM]
  | cons d D ih =>
   intro pre;rw [lkM];by_cases h:d.name=n
   ·rw [if_pos h];simp [h]
   ·rw [if_neg h,ih];simp [h]
 rw [B2d, <- hD D [], <- hM M 0];dsimp only;cases h1:lkD [] D n with
 | some q =>
  have:=B6s hk h1;simp [this]
 | none =>
  cases h2:lkM 0 M n with
  | some q =>
   have:=B6r h2;simp [this]
  | none=>simp
theorem B0q {r:Ru} {x:Ex}:∀ {l:List Ex} {i:Nat},l[i]? = some x->N2 r (l.take (i+1))=(N2 r (l.take i)).or (erE r x)
 | y :: l,0,h=>by cases h;simp [N2]
 | y :: l,i+1,h=>by
  rw [A0V,A0V,N2,N2,B0q (by simpa using h),A2E]
theorem B4w {r:Ru} {b:Bool} {x:Ex}:∀ {l:List Ex} {i:Nat},l[i]? = some x->erA r b (l.take (i+1))=(erA r b (l.take i)).or ((erE r x).or (if (J1 x.kind == 2)=b then none else some (x.pos,49)))
 | y :: l,0,h=>by cases h;simp [erA]
 | y :: l,i+1,h=>by
  rw [A0V,A0V,erA,erA,B4w (by simpa using h)];simp only [A2E]
theorem B4v {r:Ru} {x:St}:∀ {l:List St} {i:Nat},l[i]? = some x->erB r (l.take (i+1))=(erB r (l.take i)).or (erS r x)
 | y :: l,0,h=>by cases h;simp [erB]
 | y :: l,i+1,h=>by
  rw [A0V,A0V,erB,erB,B4v (by simpa using h),A2E]
theorem E0o (r:Ru) (e:Ex):erE r e=((N2 r e.args).or (dnE r e.name (kdE e.kind) e.pos)).or (if e.args.all (fun x=>J1 x.kind == P6 e.kind e.args)=true then none else some (e.pos,49)):=by
 cases e with|mk k v n a p=>rw [erE];rfl
def stD (pre:List Dc) (d:Dc):Er:=(if d.value>A3r d.kind then some (d.pos,5) else none:Er).or (if (K2 ⟨pre,[]⟩ d.name).1=0 then none else some (d.pos,7))
def stP (D:List Dc) (pre:List Md) (m:Md):Er:=(if m.prio>99 then some (m.pos,5) else none:Er).or (if (K2 ⟨D,pre⟩ m.name).1=0 then none else some (m.pos,7))
theorem B4t (d:Dc):∀ (l pre:List Dc),erD pre (l++[d])=(erD pre l).or (stD (pre++l) d)
 | [],pre=>by rw [List.nil_append,erD,erD,erD,A1E,A3H,A1U];rfl
 | x :: l,pre=>by rw [List.cons_append,erD,erD,B4t d l,A0S];simp only [A2E];rfl
theorem B4p (D:List Dc) (m:Md):∀ (l pre:List Md),erP D pre (l++[m])=(erP D pre l).or (stP D (pre++l) m)
 | [],pre=>by rw [List.nil_append,erP,erP,erP,A1E,A3H,A1U];rfl
 | x :: l,pre=>by rw [List.cons_append,erP,erP,B4p D m l,A0S];simp only [A2E];rfl
theorem C6f {D:List Dc} {i:Nat} {d:Dc} (h:D[i]? = some d):erD [] (D.take (i+1))=(erD [] (D.take i)).or (stD (D.take i) d):=by
 rw [<- S7 h,B4t];rfl
theorem C5z {D:List Dc} {M:List Md} {i:Nat} {m:Md} (h:M[i]? = some m):erP D [] (M.take (i+1))=(erP D [] (M.take i)).or (stP D (M.take i) m):=by
 rw [<- S7 h,B4p];rfl
def U5 (l:List (List UInt8)):List (List UInt8 × DV):=l.map fun n=>(n,DV.bool true)
theorem A0q (n:List UInt8):∀ l:List (List UInt8),(U5 l).lookup n=if l.contains n=true then some (DV.bool true) else none
 | []=>rfl
 | a :: l=>by
  show ((a,DV.bool true) :: U5 l).lookup n=_;rw [A2U,A0q n l,List.contains_cons];cases n == a<;>simp
def X6 (l:List (List UInt8)) (n:List UInt8):List (List UInt8):=if l.contains n=true then l else l++[n]
theorem A1p (l:List (List UInt8)) (n m:List UInt8):(X6 l n).contains m=(l.contains m || m == n):=by
 unfold X6;split
 ·rename_i h;cases hm:m == n with
  | false=>rw [Bool.or_false]
  | true =>
   have e:m=n:=by simpa using hm
   rw [e,h];rfl
 ·rw [A2A];simp
theorem B0f {n:List UInt8}:∀ (l:List (List UInt8)) (i j:Nat),E5 (.str n) (mkK (U5 l)) i=some j->(mkK (U5 l)).set (j-i) (.str n)=mkK (U5 l)/\(mvV (U5 l)).set (j-i) (.bool true)=mvV (U5 l)
 | [],i,j,h=>by cases h
 | a :: l,i,j,h=>by
  have h:E5 (.str n) (.str a :: mkK (U5 l)) i=some j:=h;rw [E5,A5t] at h;cases ha:n == a with
  | true =>
   rw [ha] at h;cases h;have e:n=a:=by simpa using ha
   subst e;rw [Nat.sub_self];exact ⟨rfl,rfl⟩
  | false =>
   rw [ha] at h;dsimp only at h;have hlt:=A8k h;obtain ⟨h1,h2⟩:=B0f l (i+1) j h;have ej:j-i=(j-(i+1))+1:=by omega
   rw [ej];exact ⟨congrArg (DV.str a :: ·) h1,congrArg (DV.bool true :: ·) h2⟩
theorem B1j (n:List UInt8) (l:List (List UInt8)) (H:Hp) (c id u:Nat):muV H c id u .s (mkK (U5 l)) (mvV (U5 l)) (.str n) (.bool true) (E5 (.str n) (mkK (U5 l)) 0)=some (.tup [],H.upd id ⟨u,true,[.mpc .s (mkK (U5 (X6 l n))) (mvV (U5 (X6 l n)))]⟩,c):=by
 have hl:=A0q n l;have hf:=Z9 (n:=n) (U5 l) 0;cases hm:E5 (.str n) (mkK (U5 l)) 0 with
 | none =>
  rw [hm] at hf;rw [hf] at hl;have hc:l.contains n=false:=by
   cases h:l.contains n with
   | false=>rfl
   | true=>rw [h] at hl;cases hl
  have e:X6 l n=l++[n]:=by unfold X6;rw [if_neg (by rw [hc];decide)]
  rw [e];simp only [muV];have e1:mkK (U5 (l++[n]))=mkK (U5 l)++[.str n]:=by simp [mkK,U5]
  have e2:mvV (U5 (l++[n]))=mvV (U5 l)++[.bool true]:=by simp [mvV,U5]
  rw [e1,e2]
 | some j =>
  rw [hm] at hf;obtain ⟨-,x, -,h3⟩:=hf;rw [h3] at hl;have hc:l.contains n=true:=by
   cases h:l.contains n with
   | true=>rfl
   | false=>rw [h] at hl;simp at hl
  have e:X6 l n=l:=by unfold X6;rw [if_pos hc]
  rw [e];simp only [muV];obtain ⟨h1,h2⟩:=B0f l 0 j hm;rw [A4K] at h1 h2;rw [h1,h2]
theorem C3g (n:List UInt8) (l:List (List UInt8)):Sym.lkV (.bool false) false (mvV (U5 l)) (E5 (.str n) (mkK (U5 l)) 0)=some (.bool (l.contains n)):=by
 cases h:l.contains n with
 | true=>exact A7j (ok:=false) (by rw [A0q,if_pos h])
 | false=>exact A7k (ok:=false) (by rw [A0q,if_neg (by rw [h];decide)])
def stH (r:Ru) (pre:List Hd) (h:Hd):Er:=((dnE r h.name (kdH h.trig) h.pos).or (if pre.any (fun x=>x.trig == h.trig && x.name == h.name)=true then some (h.pos,7) else none)).or (erB r h.body)
theorem B4s (r:Ru) (h:Hd):∀ (l pre:List Hd),erH r pre (l++[h])=(erH r pre l).or (stH r (pre++l) h)
 | [],pre=>by rw [List.nil_append,erH,erH,erH,A1E,A3H,A1U];rfl
 | x :: l,pre=>by rw [List.cons_append,erH,erH,B4s r h l,A0S];simp only [A2E];rfl
theorem C6c {r:Ru} {l:List Hd} {i:Nat} {h:Hd} (hg:l[i]? = some h):erH r [] (l.take (i+1))=(erH r [] (l.take i)).or (stH r (l.take i) h):=by
 rw [<- S7 hg,B4s];rfl
theorem B4q {r:Ru} {x:Md}:∀ {l:List Md} {i:Nat},l[i]? = some x->erM r (l.take (i+1))=(erM r (l.take i)).or (erH r [] x.hds)
 | y :: l,0,h=>by cases h;simp [erM]
 | y :: l,i+1,h=>by
  rw [A0V,A0V,erM,erM,B4q (by simpa using h),A2E]
theorem D6h (e:Er):erV e=.tup [I64 (upS (0,0) e).1,I64 (upS (0,0) e).2]:=by
 cases e<;>rfl
end Go.Pb
namespace Go.Proofs.YtnmkkggfgdfmeaaGreatDoor
open Go.Eng (IC IOper DReg IFn B8)
open Go.Sym Go.Pb
def ckB (r:Ru) (s:Int × Int):Blk:=⟨0,true,[nmV r,I64 s.1,I64 s.2]⟩
theorem A0c {r:Ru} {n:List UInt8} {k p:Int} (h:k=0\/(K2 r n).1=k):dnE r n k p=none:=by unfold dnE dnM;rw [if_pos h];rfl
theorem E0p {r:Ru} {n:List UInt8} {k p:Int} (h:¬ (k=0\/(K2 r n).1=k)) (h2:(K2 r n).1=0):dnE r n k p=some (p,8):=by unfold dnE dnM;rw [if_neg h,if_pos h2];rfl
theorem E0q {r:Ru} {n:List UInt8} {k p:Int} (h:¬ (k=0\/(K2 r n).1=k)) (h2:¬ (K2 r n).1=0):dnE r n k p=some (p,44):=by unfold dnE dnM;rw [if_neg h,if_neg h2];rfl
theorem B2h {H:Hp} {cc t:Nat} {b b':Blk} {ds:List DV} (hfr:∀ i,cc<=i->H i=none) (htc:t<cc):GL ((H.upd cc b).upd t b') ds (H.upd t b') ds:=GL.less' fun j q hj=>by
 by_cases e:j=t
 ·subst e;rw [A0] at hj ⊢;exact hj
 ·rw [A2 e] at hj ⊢;rw [A2 (B1y hfr hj)];exact hj
theorem c_inE32 (k:Int):PC Tryz.prog 96 [I64 k] (I64 (kdE k)):=by
 refine PC.ofT A9 rfl (A0B rfl) (by simp [DV.nlL,DV.nl]) (by simp [DV.nlL,DV.nl]) ?_;repeat' ((with_reducible first|refine wr ?_|refine wb2 ?_ ?_<;>(intro hb;try simp only [hb])|fail)<;>try simp only [go_sem,seval])
 all_goals (refine A6 (congrArg I64 ?_);simp_all [kdE])
theorem c_inS32 (k:Int):PC Tryz.prog 89 [I64 k] (I64 (kdS k)):=by
 refine PC.ofT A9 rfl (A0B rfl) (by simp [DV.nlL,DV.nl]) (by simp [DV.nlL,DV.nl]) ?_;repeat' ((with_reducible first|refine wr ?_|refine wb2 ?_ ?_<;>(intro hb;try simp only [hb])|fail)<;>try simp only [go_sem,seval])
 all_goals (refine A6 (congrArg I64 ?_);simp_all [kdS])
theorem c_inH32 (k:Int):PC Tryz.prog 44 [I64 k] (I64 (kdH k)):=by
 refine PC.ofT A9 rfl (A0B rfl) (by simp [DV.nlL,DV.nl]) (by simp [DV.nlL,DV.nl]) ?_;repeat' ((with_reducible first|refine wr ?_|refine wb2 ?_ ?_<;>(intro hb;try simp only [hb])|fail)<;>try simp only [go_sem,seval])
 all_goals (refine A6 (congrArg I64 ?_);simp_all [kdH])
theorem c_most32 (k:Int):PC Tryz.prog 87 [I64 k] (I64 (A3r k)):=by
 refine PC.ofT A9 rfl (A0B rfl) (by simp [DV.nlL,DV.nl]) (by simp [DV.nlL,DV.nl]) ?_;repeat' ((with_reducible first|refine wr ?_|refine wb2 ?_ ?_<;>(intro hb;try simp only [hb])|fail)<;>try simp only [go_sem,seval])
 all_goals (refine A6 (congrArg I64 ?_);simp_all [A3r])
theorem c_truth32 (k:Int):PC Tryz.prog 97 [I64 k] (.bool (C7w k)):=by
 refine PC.ofT A9 rfl (A0B rfl) (by simp [DV.nlL,DV.nl]) (by simp [DV.nlL,DV.nl]) ?_;repeat' ((with_reducible first|refine wr ?_|refine wb2 ?_ ?_<;>(intro hb;try simp only [hb])|fail)<;>try simp only [go_sem,seval])
 all_goals (refine A6 (congrArg DV.bool ?_);simp_all [C7w]<;>omega)
theorem c_typ32 (k:Int) (h:k<=24):PC Tryz.prog 58 [I64 k] (I64 (J1 k)):=by
 refine PC.ofT A9 rfl (A0B rfl) (by simp [DV.nlL,DV.nl]) (by simp [DV.nlL,DV.nl]) ?_;have ht:=c_truth32 k;rw [C7v h] at ht;repeat' ((with_reducible first|refine wr ?_|refine cpc ht ?_|refine wb2 ?_ ?_<;>(intro hb;try simp only [hb])|fail)<;>try simp only [go_sem,seval])
 all_goals (refine A6 (congrArg I64 ?_);simp_all [J1])
theorem c_fail32 (r:Ru) (s:Int × Int) (H:Hp) (cc t:Nat) (ht:H t=some (ckB r s)) (htc:t<cc) (p e:Int):AC Tryz.prog 47 [.ptr t 0,I64 p,I64 e] H cc (fun v H' c'=>v=.tup []/\H'=H.upd t (ckB r (upS s (some (p,e))))):=by
 refine AC.bodyT A9 rfl (A0B rfl) fun hfr=>?_;unfold ckB at ht ⊢;cases h:(s.2 == 0) with
 | true =>
  have e0:upS s (some (p,e))=(p,e):=by unfold upS;rw [if_pos (by simpa using h)];rfl
  rw [e0];repeat' ((with_reducible apply wr)<;>try simp only [go_sem,seval,ht,h,A0,A1])
  exact ⟨_,_,GL.refl _ _,rfl,rfl⟩
 | false =>
  have e0:upS s (some (p,e))=s:=by unfold upS;rw [if_neg (by simpa using h)]
  rw [e0,upd_same ht];repeat' ((with_reducible apply wr)<;>try simp only [go_sem,seval,ht,h,A0,A1])
  exact ⟨_,_,GL.refl _ _,rfl,rfl⟩
theorem c_den32 (r:Ru) (hk:X2 r.decls) (s:Int × Int) (H:Hp) (cc t:Nat) (ht:H t=some (ckB r s)) (htc:t<cc) (n:List UInt8) (k p:Int):AC Tryz.prog 43 [.ptr t 0,.str n,I64 k,I64 p] H cc (fun v H' c'=>v=.tup []/\H'=H.upd t (ckB r (upS s (dnE r n k p)))):=by
 refine AC.bodyT A9 rfl (A0B rfl) fun hfr=>?_;have ht':=ht;unfold ckB nmV at ht';have ne0:=M8 t cc (by omega);cases hl:(nmL r).lookup n with
 | some q =>
  obtain ⟨h1,h2⟩:=B8k hk hl;have hlk:Sym.lkV (.agg [I64 0,I64 0]) true (mvV (V2 (nmL r))) (E5 (.str n) (mkK (V2 (nmL r))) 0)=some (.tup [A5s q,.bool true]):=A7j (ok:=true) (by rw [O9,hl];rfl);unfold A5s at hlk;by_cases hk0:k=0
  ·subst hk0;have e0:dnE r n 0 p=none:=A0c (.inl rfl);rw [e0,J8,upd_same ht];repeat' ((with_reducible apply wr)<;>try simp only [go_sem,seval,ht',hlk,ne0,A0,A1])
   exact ⟨_,_,A5u hfr,rfl,rfl⟩
  have q0:(k == 0)=false:=by simpa using hk0
  by_cases hq:q.1=k
  ·have e0:dnE r n k p=none:=A0c (.inr (by rw [h1];exact hq));rw [e0,J8,upd_same ht];have q1:(q.1 != k)=false:=by simp [hq]
   repeat' ((with_reducible apply wr)<;>try simp only [go_sem,seval,ht',hlk,q0,q1,ne0,A0,A1])
   exact ⟨_,_,A5u hfr,rfl,rfl⟩
  ·have e0:dnE r n k p=some (p,44):=E0q (by rw [h1];simp [hk0,hq]) (by rw [h1];exact h2);rw [e0];have q1:(q.1 != k)=true:=by simp [hq]
   repeat' ((with_reducible apply wr)<;>try simp only [go_sem,seval,ht',hlk,q0,q1,ne0,A0,A1])
   refine AC.call (c_fail32 r s _ _ t (by rw [A2 (by omega)];exact ht) (by omega) p 44) ?_;rintro v H' c' ⟨rfl,rfl⟩ hcc;simp only [go_sem,seval];repeat' ((with_reducible apply wr)<;>try simp only [go_sem,seval])
   exact ⟨_,_,B2h hfr htc,rfl,rfl⟩
 | none =>
  have h1:=B8l hk hl;have hlk:Sym.lkV (.agg [I64 0,I64 0]) true (mvV (V2 (nmL r))) (E5 (.str n) (mkK (V2 (nmL r))) 0)=some (.tup [.agg [I64 0,I64 0],.bool false]):=A7k (ok:=true) (by rw [O9,hl];rfl);by_cases hk0:k=0
  ·subst hk0;have e0:dnE r n 0 p=none:=A0c (.inl rfl);rw [e0,J8,upd_same ht];repeat' ((with_reducible apply wr)<;>try simp only [go_sem,seval,ht',hlk,ne0,A0,A1])
   exact ⟨_,_,A5u hfr,rfl,rfl⟩
  have q0:(k == 0)=false:=by simpa using hk0
  have e0:dnE r n k p=some (p,8):=E0p (by rw [h1];simp;omega) (by rw [h1]);rw [e0];repeat' ((with_reducible apply wr)<;>try simp only [go_sem,seval,ht',hlk,q0,ne0,A0,A1])
  refine AC.call (c_fail32 r s _ _ t (by rw [A2 (by omega)];exact ht) (by omega) p 8) ?_;rintro v H' c' ⟨rfl,rfl⟩ hcc;simp only [go_sem,seval];repeat' ((with_reducible apply wr)<;>try simp only [go_sem,seval])
  exact ⟨_,_,B2h hfr htc,rfl,rfl⟩
theorem A0m {G:Hp} {t c:Nat} {b0 b1 b:Blk} (hG:∀ j,c<=j->G j=none) (htc:t<c):Sym.Sub (G.upd t b) (((G.upd t b0).upd c b1).upd t b):=by
 intro j q hj;by_cases e:j=t
 ·subst e;rw [A0] at hj ⊢;exact hj
 ·rw [A2 e] at hj;have:j<c:=A3I fun h=>by rw [hG j h] at hj;cases hj
  rw [A2 e,A2 (by omega),A2 e];exact hj
theorem B7t {G:Hp} {t c:Nat} {b0 b1:Blk} (hG:∀ j,c<=j->G j=none) (htc:t<c):Sym.Sub (G.upd t b0) ((G.upd t b0).upd c b1):=by
 intro j q hj;have:j<c:=A3I fun h=>by rw [A2 (by omega),hG j h] at hj;cases hj
 rw [A2 (by omega)];exact hj
theorem c_exp32 (r:Ru) (hk:X2 r.decls):∀ (m:Nat) (e:Ex),e.sz<m->e.sz<=100000000->(∃ q,msM e=some q)->∀ (s:Int × Int) (H:Hp) (cc t:Nat) (ht:H t=some (ckB r s)) (htc:t<cc),
  AC Tryz.prog 57 [.ptr t 0,e.v] H cc (fun v H' c'=>v=.tup []/\H'=H.upd t (ckB r (upS s (erE r e)))):=by
 intro m
 induction m with
 | zero=>intro e h;omega
 | succ m ih =>
 intro e hm hB ⟨q0,hq0⟩ s H cc t ht htc;have hal:Ex.szs e.args<e.sz:=by cases e with|mk k v n a p=>rw [Ex.sz];show Ex.szs a<_;omega
 have hargs:∀ x∈e.args,x.sz<=Ex.szs e.args:=fun x hx=>Ex.szs_mem hx;have hll:=Ex.szs_len e.args;have hms:=B2a hq0;have h22:=C4p hq0;have hknd:∀ x∈e.args,x.kind<=24:=fun x hx=>by obtain ⟨q,hq⟩:=hms x hx;exact B8q hq
 rw [E0o,Ex.v_w];dsimp only [Ex.w];have ih:∀ x∈e.args, ∀ (s:Int × Int) (H:Hp) (cc t:Nat) (ht:H t=some (ckB r s)) (htc:t<cc),AC Tryz.prog 57 [.ptr t 0,x.v] H cc (fun v H' c'=>v=.tup []/\H'=H.upd t (ckB r (upS s (erE r x)))):=fun x hx=>ih x (by have:=hargs x hx;omega) (by have:=hargs x hx;omega) (hms x hx);have hk1:=c_inE32 e.kind;have hden:=fun (s:Int × Int) (H:Hp) (cc t:Nat) (ht:H t=some (ckB r s)) (htc:t<cc)=>c_den32 r hk s H cc t ht htc e.name (kdE e.kind) e.pos;generalize ek:e.kind=k at *;generalize e.value=v at *;generalize e.name=n at *;generalize e.args=a at *;generalize e.pos=p at *;refine AC.bodyT A9 rfl (A0B rfl) fun hfr=>?_;repeat' ((with_reducible apply wr)<;>try simp only [go_sem,seval])
 obtain ⟨G,hG⟩:∃ G,G=H.upd cc ⟨0,true,[I64 k,I64 v,.str n,I3 a,I64 p]⟩:=⟨_,rfl⟩;have hGc:∀ b,(G.upd t b) cc=some ⟨0,true,[I64 k,I64 v,.str n,I3 a,I64 p]⟩:=fun b=>by rw [A2 (by omega),hG,A0]
 have hGn:∀ j,cc+1<=j->G j=none:=fun j hj=>by rw [hG,A2 (by omega)];exact hfr j (by omega)
 have hGt:G=G.upd t (ckB r s):=by rw [upd_same];rw [hG,A2 (by omega)];exact ht
 rw [<- hG,hGt];refine C2 (fun i:Nat=>[(0,.ptr t 0),(3,.ptr cc 0),(10,I3 a),(11,I64 a.length),(12,I64 i)]) (fun i=>G.upd t (ckB r (upS s (N2 r (a.take i))))) (fun i c=>cc+1<=c/\i<=a.length) (fun i=>a.length-i) 0 (by simp [C3,tm,Tm.upd]) (by rw [A1Y,N2,J8];exact Sub.refl _) ⟨by omega,A0R _⟩ ?_;rintro i c ⟨h1c,hki⟩;by_cases hlt:i<a.length
 ·have hd:decide ((i:Int)<a.length)=true:=by simpa using hlt
  have hg:=A0C hlt;have hw:=w64 (n:=(i:Int)+1) (by omega) (by omega);have hc:=ih _ (A0O hlt);have het:=B0q (r:=r) hg;generalize a[i]=x at hg hc het;rw [Ex.v_w] at hc;have ne0:=M8 t c (by omega);repeat' ((with_reducible apply wr)<;>try simp only [go_sem,seval,hd,hg,hw,Ex.v_w,ne0,A0,A1,hGc])
  refine AC.call (hc (upS s (N2 r (a.take i))) _ _ t (by rw [A2 (by omega),A0]) (by omega)) ?_;rintro v' H' c' ⟨rfl,rfl⟩ hcc;simp only [go_sem,seval,hw];repeat' ((with_reducible apply wr)<;>try simp only [go_sem,seval,hw])
  refine ⟨i+1,by simp,?_,inv ⟨by omega,by omega⟩,by omega⟩;rw [J7 (B3x _ _), <- het];exact A0m (fun j hj=>hGn j (by omega)) (by omega)
 have hd:decide ((i:Int)<a.length)=false:=by simpa using hlt
 rw [A0J (by omega)];repeat' ((with_reducible first|apply wr|refine cpc hk1 ?_|fail)<;>try simp only [go_sem,seval,hd,hGc])
 refine ⟨by and_intros<;>(rw [A2 (by omega)];exact hGn _ (by omega)),?_⟩;refine AC.call (hden (upS s (N2 r a)) _ _ t A0 (by omega)) ?_;rintro v' H' c' ⟨rfl,rfl⟩ hcc;rw [A1,J7 (B3x _ _)];obtain ⟨s1,hs1⟩:∃ s1,s1=upS s ((N2 r a).or (dnE r n (kdE k) p)):=⟨_,rfl⟩;have nz1:NzE ((N2 r a).or (dnE r n (kdE k) p)):=(B3x _ _).or (B0b _ _ _ _);rw [<- hs1, <- J7 nz1, <- hs1];clear hs1;have kL:∀ c2:Nat,c+9<=c2->IW Tryz.prog 61 (.loop (pz Tryz.prog 57 (.i (.o (.i (.o (.i .h))))))) ⟨tm [(0,.ptr t 0),(3,.ptr cc 0),(6,I64 (P6 k a)),(45,I3 a),(46,I64 a.length),(47,I64 0)],G.upd t (ckB r s1),c2⟩ (bk 3 (rt [] fun v H' c' => ∃ v2 H2,GL H' [v] H2 [v2]/\v2=.tup []/\H2=H.upd t (ckB r (upS s1 (if (a.all fun x=>J1 x.kind == P6 k a)=true then none else some (p,49)))))):=by
  intro c2 hc2;generalize P6 k a=wnt;refine C2 (fun i:Nat=>[(0,.ptr t 0),(3,.ptr cc 0),(6,I64 wnt),(45,I3 a),(46,I64 a.length),(47,I64 i)]) (fun i=>G.upd t (ckB r (upS s1 (if ((a.take i).all fun x=>J1 x.kind == wnt)=true then none else some (p,49))))) (fun i c=>cc+1<=c/\i<=a.length) (fun i=>a.length-i) 0 (by simp [C3,tm,Tm.upd]) (by rw [A1Y,A4L,if_pos rfl,J8];exact Sub.refl _) ⟨by omega,A0R _⟩ ?_;rintro i c3 ⟨h3c,hki3⟩;by_cases hlt3:i<a.length
  ·have hd3:decide ((i:Int)<a.length)=true:=by simpa using hlt3
   have hg3:=A0C hlt3;have hw3:=w64 (n:=(i:Int)+1) (by omega) (by omega);have hat:=A2v (fun x:Ex=>J1 x.kind == wnt) a i _ hg3;have hty:=c_typ32 _ (hknd _ (A0O hlt3));generalize a[i]=x at hg3 hat hty;obtain ⟨o,ho⟩:∃ o:Er,o=if ((a.take i).all fun x=>J1 x.kind == wnt)=true then none else some (p,49):=⟨_,rfl⟩
   rw [<- ho];have ne0:=S0 t c3 cc (by omega);by_cases hx:J1 x.kind=wnt
   ·have hxn:(J1 x.kind != wnt)=false:=by simp [hx]
    repeat' ((with_reducible first|apply wr|refine cpc hty ?_|fail)<;>try simp only [go_sem,seval,hd3,hg3,hw3,Ex.v_w,ne0,A0,A1,hGc,hxn])
    refine ⟨i+1,by simp,?_,inv ⟨by omega,by omega⟩,by omega⟩;rw [hat,show (J1 x.kind == wnt)=true by simpa using hx,A2G, <- ho];exact B7t (fun j hj=>hGn j (by omega)) (by omega)
   ·have hxn:(J1 x.kind != wnt)=true:=by simp [hx]
    repeat' ((with_reducible first|apply wr|refine cpc hty ?_|fail)<;>try simp only [go_sem,seval,hd3,hg3,hw3,Ex.v_w,ne0,A0,A1,hGc,hxn])
    refine AC.call (c_fail32 r (upS s1 o) _ _ t (by rw [A2 (by omega),A0]) (by omega) p 49) ?_;rintro v' H' c4 ⟨rfl,rfl⟩ hcc4;simp only [go_sem,seval,hw3];repeat' ((with_reducible apply wr)<;>try simp only [go_sem,seval,hw3])
    refine ⟨i+1,by simp,?_,inv ⟨by omega,by omega⟩,by omega⟩;have eo:upS (upS s1 o) (some (p,49))=upS s1 (some (p,49)):=by
     rw [ho];split
     ·rw [J8]
     ·exact C1t s1 p 49 (by decide)
    rw [hat,show (J1 x.kind == wnt)=false by simpa using hx,A3Y,if_neg (by decide),eo];exact A0m (fun j hj=>hGn j (by omega)) (by omega)
  have hd3:decide ((i:Int)<a.length)=false:=by simpa using hlt3
  rw [A0J (by omega)];repeat' ((with_reducible apply wr)<;>try simp only [go_sem,seval,hd3])
  refine ⟨_,_,?_,rfl,rfl⟩;rw [hG];exact B2h hfr htc
 simp only [go_sem,seval];by_cases ka:k=11\/k=23\/k=24
 ·have ew:P6 k a=2:=by unfold P6;rw [if_pos ka]
  rw [ew] at kL ⊢;rcases ka with rfl|rfl|rfl
  all_goals (repeat' ((with_reducible apply wr)<;>try simp only [go_sem,seval,hGc]))
  all_goals exact kL _ hcc
 have ka1:(k == 11)=false:=by simp;omega
 have ka2:(k == 23)=false:=by simp;omega
 have ka3:(k == 24)=false:=by simp;omega
 by_cases kb:k=21\/k=22
 ·have hl2:=h22 kb;obtain ⟨x0,l0,ha⟩:∃ x l,a=x :: l:=by
   cases a with
   | nil=>simp at hl2
   | cons x l=>exact ⟨x,l,rfl⟩
  have ew:P6 k a=J1 x0.kind:=by rw [ha];unfold P6;rw [if_neg ka,if_pos kb]
  have hg0:a[0]? = some x0:=by rw [ha];rfl
  have hty:=c_typ32 _ (hknd x0 (by rw [ha];exact A0N));rw [ew] at kL ⊢;rcases kb with rfl|rfl
  all_goals (repeat' ((with_reducible first|apply wr|refine cpc hty ?_|fail)<;>try simp only [go_sem,seval,hGc,ka1,ka2,ka3,hg0,Ex.v_w]))
  all_goals exact kL _ hcc
 have ew:P6 k a=1:=by unfold P6;rw [if_neg ka,if_neg kb]
 rw [ew] at kL ⊢;have kb1:(k == 21)=false:=by simp;omega
 have kb2:(k == 22)=false:=by simp;omega
 repeat' ((with_reducible apply wr)<;>try simp only [go_sem,seval,hGc,ka1,ka2,ka3,kb1,kb2])
 exact kL _ hcc
theorem A7w {H:Hp} {i j:Nat} {a b:Blk} (h:i≠j):(H.upd i a).upd j b=(H.upd j b).upd i a:=by
 funext k
 by_cases e:k=j
 ·subst e;rw [A0,A2 (Ne.symm h),A0]
 ·rw [A2 e];by_cases e2:k=i
  ·subst e2;rw [A0,A0]
  ·rw [A2 e2,A2 e2,A2 e]
theorem A7a {H:Hp} {t c:Nat} {b1 b:Blk} (hG:∀ j,c<=j->H j=none) (htc:t<c):Sym.Sub (H.upd t b) ((H.upd c b1).upd t b):=by
 rw [<- A7w (Nat.ne_of_lt htc)];exact B7t hG htc
theorem C1y (k:Int) (b:Bool):J1 k=(if b=true then 2 else 1)↔(J1 k == 2)=b:=by
 unfold J1;cases b<;>cases C1j k<;>simp
theorem c_blk32 (r:Ru) (hk:X2 r.decls):∀ (m:Nat) (l:List Pb.St) (d:Nat),Pb.St.szs l<m->Pb.St.szs l<=100000000->G7 d l=true->∀ (s:Int × Int) (H:Hp) (cc t:Nat) (ht:H t=some (ckB r s)) (htc:t<cc),
  AC Tryz.prog 48 [.ptr t 0,F3 l] H cc (fun v H' c'=>v=.tup []/\H'=H.upd t (ckB r (upS s (erB r l)))):=by
 intro m
 induction m with
 | zero=>intro l d h;omega
 | succ m ih =>
 intro l d hm hB hv s H cc t ht htc;have hl:=Pb.St.szs_len l;refine AC.bodyT A9 rfl (A0B rfl) fun hfr=>?_;repeat' ((with_reducible apply wr)<;>try simp only [go_sem,seval])
 have hHt:H=H.upd t (ckB r s):=(upd_same ht).symm;refine C2 (fun i:Nat=>[(0,.ptr t 0),(9,F3 l),(10,I64 l.length),(11,I64 i)]) (fun i=>H.upd t (ckB r (upS s (erB r (l.take i))))) (fun i c=>cc<=c/\i<=l.length) (fun i=>l.length-i) 0 (by simp [C3,tm,Tm.upd]) (by rw [A1Y,erB,J8, <- hHt];exact Sub.refl _) ⟨by omega,A0R _⟩ ?_;rintro i c ⟨h1c,hki⟩;by_cases hlt:i<l.length
 ·have hd:decide ((i:Int)<l.length)=true:=by simpa using hlt
  have hg:=A0C hlt;have hw:=w64 (n:=(i:Int)+1) (by omega) (by omega);have hsx:=Pb.St.szs_mem (A0O hlt);obtain ⟨v1,v2,v3⟩:=A3h (A5f hv _ (A0O hlt));have het:=B4v (r:=r) hg;rw [D2d] at het;generalize l[i]=x at hg hsx v1 v2 v3 het;have hsa:Ex.szs x.args<x.sz:=by cases x with|mk k n t a x y p=>rw [Pb.St.sz];show Ex.szs a<_;omega
  have hal:=Ex.szs_len x.args;have hX:=ih x.thn (d+1) (by have:=x.sz_thn;omega) (by have:=x.sz_thn;omega) v2;have hY:=ih x.els (d+1) (by have:=x.sz_els;omega) (by have:=x.sz_els;omega) v3;have hk1:=c_inS32 x.kind;obtain ⟨s0,hs0⟩:∃ s0,s0=upS s (erB r (l.take i)):=⟨_,rfl⟩;have hfin:upS s (erB r (l.take (i+1)))=upS s0 ((((dnE r x.name (kdS x.kind) x.pos).or (erA r (x.kind == 2) x.args)).or (erB r x.thn)).or (erB r x.els)):=by rw [het, <- J7 (B1v _ _), <- hs0]
  rw [<- hs0];have ne0:=M8 t c (by omega);repeat' ((with_reducible first|apply wr|refine cpc hk1 ?_|fail)<;>try simp only [go_sem,seval,hd,hg,hw,Pb.St.v_w,ne0,A0,A1])
  obtain ⟨G,hG⟩:∃ G,G=H.upd c ⟨0,true,[I64 x.kind,.str x.name,.str x.text,I3 x.args,F3 x.thn,F3 x.els,I64 x.pos]⟩:=⟨_,rfl⟩;have hGc:∀ b,(G.upd t b) c=some ⟨0,true,[I64 x.kind,.str x.name,.str x.text,I3 x.args,F3 x.thn,F3 x.els,I64 x.pos]⟩:=fun b=>by rw [A2 (by omega),hG,A0]
  have hGn:∀ j,c+1<=j->G j=none:=fun j hj=>by rw [hG,A2 (by omega)];exact hfr j (by omega)
  rw [A7w (by omega), <- hG];refine ⟨by and_intros<;>(rw [A2 (by omega)];exact hGn _ (by omega)),?_⟩;refine AC.call (c_den32 r hk s0 _ _ t A0 (by omega) x.name (kdS x.kind) x.pos) ?_;rintro v' H' c2 ⟨rfl,rfl⟩ hc2;rw [A1];obtain ⟨s1,hs1⟩:∃ s1,s1=upS s0 (dnE r x.name (kdS x.kind) x.pos):=⟨_,rfl⟩;rw [A2E,A2E, <- J7 (B0b _ _ _ _), <- hs1] at hfin;rw [<- hs1];have kL:∀ c3:Nat,c+1<=c3->IW Tryz.prog 56 (.loop (pz Tryz.prog 48 (.o (.i (.i (.i .h)))))) ⟨tm [(0,.ptr t 0),(5,.ptr c 0),(6,I64 (if (x.kind == 2)=true then 2 else 1)),(9,F3 l),(10,I64 l.length),(11,I64 i),(28,I3 x.args),(29,I64 x.args.length),(30,I64 0)],G.upd t (ckB r s1),c3⟩ (bk 2 (sq Tryz.prog 56 (pz Tryz.prog 48 (.o (.o (.o (.o (.i .h)))))) (bk 1 (sq Tryz.prog 56 (pz Tryz.prog 48 (.i (.i (.o (.o (.i .h))))))
    (lp (fun i:Nat=>[(0,DV.ptr t 0),(9,F3 l),(10,I64 l.length),(11,I64 i)]) (fun i:Nat=>H.upd t (ckB r (upS s (erB r (l.take i))))) (fun (i c:Nat)=>cc<=c/\i<=l.length) (fun i:Nat=>l.length-i) (l.length-i) (bk 0 (rt [] fun v H' c' => ∃ v2 H2,GL H' [v] H2 [v2]/\v2=DV.tup []/\H2=H.upd t (ckB r (upS s (erB r l)))))))))):=by
   intro c3 hc3;obtain ⟨wnt,hwnt⟩:∃ wnt:Int,wnt=if (x.kind == 2)=true then 2 else 1:=⟨_,rfl⟩
   rw [<- hwnt];refine C2 (fun j:Nat=>[(0,.ptr t 0),(5,.ptr c 0),(6,I64 wnt),(9,F3 l),(10,I64 l.length),(11,I64 i),(28,I3 x.args),(29,I64 x.args.length),(30,I64 j)]) (fun j=>G.upd t (ckB r (upS s1 (erA r (x.kind == 2) (x.args.take j))))) (fun j c4=>c+1<=c4/\j<=x.args.length) (fun j=>x.args.length-j) 0 (by simp [C3,tm,Tm.upd]) (by rw [A1Y,erA,J8];exact Sub.refl _) ⟨by omega,A0R _⟩ ?_;rintro j c4 ⟨h4c,hkj⟩;by_cases hlt2:j<x.args.length
   ·have hd2:decide ((j:Int)<x.args.length)=true:=by simpa using hlt2
    have hg2:=A0C hlt2;have hw2:=w64 (n:=(j:Int)+1) (by omega) (by omega);have hxs:=Ex.szs_mem (A0O hlt2);have hmy:=v1 _ (A0O hlt2);have heA:=B4w (r:=r) (b:=x.kind == 2) hg2;generalize x.args[j]=y at hg2 hxs hmy heA;have hex:=c_exp32 r hk _ y (A2Z _) (by omega) hmy;obtain ⟨qy,hqy⟩:=hmy;have hty:=c_typ32 _ (B8q hqy);rw [Ex.v_w] at hex;obtain ⟨o,ho⟩:∃ o,o=erA r (x.kind == 2) (x.args.take j):=⟨_,rfl⟩;have hno:NzE o:=by rw [ho];exact C4i _ _ _
    have htw:=C1y y.kind (x.kind == 2);rw [<- hwnt] at htw;rw [<- ho];rw [<- ho, <- A2E] at heA;have ne0:=S0 t c c4 (by omega);repeat' ((with_reducible apply wr)<;>try simp only [go_sem,seval,hd2,hg2,hw2,Ex.v_w,ne0,A0,A1,hGc])
    refine AC.call (hex (upS s1 o) _ _ t (by rw [A2 (by omega),A0]) (by omega)) ?_;rintro v' H' c5 ⟨rfl,rfl⟩ hc5;rw [J7 hno];simp only [go_sem,seval,hw2,A1];by_cases hx:J1 y.kind=wnt
    ·have hxn:(J1 y.kind != wnt)=false:=by simp [hx]
     repeat' ((with_reducible first|apply wr|refine cpc hty ?_|fail)<;>try simp only [go_sem,seval,hw2,ne0,A0,A1,hxn])
     refine ⟨j+1,by simp,?_,inv ⟨by omega,by omega⟩,by omega⟩;rw [heA,if_pos (htw.1 hx),A3H];exact A0m (fun j hj=>hGn j (by omega)) (by omega)
    ·have hxn:(J1 y.kind != wnt)=true:=by simp [hx]
     repeat' ((with_reducible first|apply wr|refine cpc hty ?_|fail)<;>try simp only [go_sem,seval,hw2,ne0,A0,A1,hxn])
     refine AC.call (c_fail32 r (upS s1 (o.or (erE r y))) _ _ t A0 (by omega) y.pos 49) ?_;rintro v' H' c6 ⟨rfl,rfl⟩ hc6;simp only [go_sem,seval,hw2,A1];repeat' ((with_reducible apply wr)<;>try simp only [go_sem,seval,hw2])
     refine ⟨j+1,by simp,?_,inv ⟨by omega,by omega⟩,by omega⟩;rw [J7 (hno.or (C4h _ _)),heA,if_neg (fun h=>hx (htw.2 h))];exact A0m (fun j hj=>hGn j (by omega)) (by omega)
   have hd2:decide ((j:Int)<x.args.length)=false:=by simpa using hlt2
   rw [A0J (by omega)];repeat' ((with_reducible apply wr)<;>try simp only [go_sem,seval,hd2,hGc])
   refine AC.call (hX (upS s1 (erA r (x.kind == 2) x.args)) _ _ t A0 (by omega)) ?_;rintro v' H' c5 ⟨rfl,rfl⟩ hc5;rw [A1,J7 (C4i _ _ _)];simp only [go_sem,seval,hGc];repeat' ((with_reducible apply wr)<;>try simp only [go_sem,seval,hGc])
   refine AC.call (hY (upS s1 ((erA r (x.kind == 2) x.args).or (erB r x.thn))) _ _ t A0 (by omega)) ?_;rintro v' H' c6 ⟨rfl,rfl⟩ hc6;rw [A1,J7 ((C4i _ _ _).or (B1v _ _))];simp only [go_sem,seval,hw];repeat' ((with_reducible apply wr)<;>try simp only [go_sem,seval,hw])
   refine ⟨i+1,by simp,?_,inv ⟨by omega,by omega⟩,by omega⟩;rw [hfin,A2E,hG];exact A7a (fun j hj=>hfr j (by omega)) (by omega)
  simp only [go_sem,seval];cases hb2:(x.kind == 2) with
  | true =>
   rw [hb2] at kL;repeat' ((with_reducible apply wr)<;>try simp only [go_sem,seval,hGc,hw,hb2])
   exact kL _ (by omega)
  | false =>
   rw [hb2] at kL;repeat' ((with_reducible apply wr)<;>try simp only [go_sem,seval,hGc,hw,hb2])
   exact kL _ (by omega)
 have hd:decide ((i:Int)<l.length)=false:=by simpa using hlt
 rw [A0J (by omega)];repeat' ((with_reducible apply wr)<;>try simp only [go_sem,seval,hd])
 exact ⟨_,_,GL.refl _ _,rfl,rfl⟩
abbrev U9 (l:List (List UInt8)):Blk:=⟨0,true,[.mpc .s (mkK (U5 l)) (mvV (U5 l))]⟩
theorem c_head1 (r:Ru) (s:Int × Int) (l:List (List UInt8)) (nm:List UInt8) (p val most:Int) (H:Hp) (cc t a b mm:Nat) (ht:H t=some (ckB r s)) (ha:H a=some ⟨0,true,[.ptr t 0]⟩) (hb:H b=some ⟨0,true,[.mid mm]⟩) (hm:H mm=some (U9 l))
  (htc:t<cc) (hac:a<cc) (hbc:b<cc) (hmc:mm<cc) (hta:t≠a) (htb:t≠b) (htm:t≠mm) (hbm:b≠mm) (ham:a≠mm) (hab:a≠b) :
  AC Tryz.prog 86 [.str nm,I64 p,I64 val,I64 most,.ptr a 0,.ptr b 0] H cc (fun v H' c'=>v=.tup []/\H'=(H.upd t (ckB r (upS s ((if val>most then some (p,5) else none:Er).or (if l.contains nm=true then some (p,7) else none))))).upd mm (U9 (X6 l nm))):=by
 refine AC.bodyT A9 rfl (A0B rfl) fun hfr=>?_;have hlk:=C3g nm l;have hmu:=fun H c id u=>B1j nm l H c id u;obtain ⟨o1,ho1⟩:∃ o1:Er,o1=if val>most then some (p,5) else none:=⟨_,rfl⟩
 have n1:NzE o1:=by rw [ho1];exact B1u (by decide)
 rw [<- ho1];have hkB:∀ c0,cc<=c0->IW Tryz.prog 24 (pz Tryz.prog 86 (.i (.i .h))) ⟨tm [(0,.str nm),(1,I64 p),(4,.ptr a 0),(5,.ptr b 0)],H.upd t (ckB r (upS s o1)),c0⟩ (rt [] fun v H' c' => ∃ v2 H2,GL H' [v] H2 [v2]/\v2=.tup []/\H2=(H.upd t (ckB r (upS s (o1.or (if l.contains nm=true then some (p,7) else none))))).upd mm (U9 (X6 l nm))):=by
  intro c0 hc0;have ne0:=V1 t a b mm (by omega);cases hc:l.contains nm with
  | false =>
   rw [hc] at hlk;rw [if_neg (by decide),A3H];repeat' ((with_reducible apply wr)<;>try simp only [go_sem,seval,ha,hb,hm,hlk,hmu,ne0,A0,A1])
   exact ⟨_,_,GL.refl _ _,rfl,rfl⟩
  | true =>
   rw [hc] at hlk;rw [if_pos rfl];repeat' ((with_reducible apply wr)<;>try simp only [go_sem,seval,ha,hb,hm,hlk,hmu,ne0,A0,A1])
   refine AC.call (c_fail32 r (upS s o1) _ _ t A0 (by omega) p 7) ?_;rintro v' H' c2 ⟨rfl,rfl⟩ hc2;rw [A1,J7 n1];simp only [go_sem,seval];repeat' ((with_reducible apply wr)<;>try simp only [go_sem,seval,ha,hb,hm,hlk,hmu,ne0,A0,A1])
   exact ⟨_,_,GL.refl _ _,rfl,rfl⟩
 have ne0:=V1 t a b mm (by omega);by_cases hv:val>most
 ·have qv:decide (val>most)=true:=by simpa using hv
  rw [if_pos hv] at ho1;rw [ho1] at hkB ⊢;repeat' ((with_reducible apply wr)<;>try simp only [go_sem,seval,ha,hb,hm,qv,ne0,A0,A1])
  refine AC.call (c_fail32 r s _ _ t ht (by omega) p 5) ?_;rintro v' H' c2 ⟨rfl,rfl⟩ hc2;simp only [go_sem,seval];repeat' ((with_reducible first|refine G8 (p:=IW _ _ (pz Tryz.prog 86 (.i (.i .h))) _ _) ?_|refine wr ?_|fail)<;>try simp only [go_sem,seval])
  exact IW.stage (by simp [C3,tm,Tm.upd]) (hkB _ hc2)
 ·have qv:decide (val>most)=false:=by simpa using hv
  rw [if_neg hv] at ho1;rw [ho1,J8,upd_same ht] at hkB;rw [ho1];repeat' ((with_reducible first|refine G8 (p:=IW _ _ (pz Tryz.prog 86 (.i (.i .h))) _ _) ?_|refine wr ?_|fail)<;>try simp only [go_sem,seval,ha,hb,hm,qv,ne0,A0,A1])
  exact IW.stage (by simp [C3,tm,Tm.upd]) (hkB _ (A0H _))
def hdH (H:Hp) (r:Ru) (t cc:Nat) (s:Int × Int) (l:List (List UInt8)):Hp:=((((H.upd t (ckB r s)).upd cc ⟨0,true,[.ptr t 0]⟩).upd (cc+1) ⟨0,true,[C8 r.decls,D5 r.modes]⟩).upd (cc+2) (U9 l)).upd (cc+3) ⟨0,true,[.mid (cc+2)]⟩
theorem B9b {H:Hp} {r:Ru} {t cc:Nat} {s:Int × Int} {l:List (List UInt8)} (htc:t<cc):hdH H r t cc s l t=some (ckB r s):=by
 unfold hdH;rw [A2 (by omega),A2 (by omega),A2 (by omega),A2 (by omega),A0]
theorem C5j {H:Hp} {r:Ru} {t cc:Nat} {s:Int × Int} {l:List (List UInt8)}:hdH H r t cc s l cc=some ⟨0,true,[.ptr t 0]⟩:=by
 unfold hdH;rw [A2 (by omega),A2 (by omega),A2 (by omega),A0]
theorem B9d {H:Hp} {r:Ru} {t cc:Nat} {s:Int × Int} {l:List (List UInt8)}:hdH H r t cc s l (cc+1)=some ⟨0,true,[C8 r.decls,D5 r.modes]⟩:=by
 unfold hdH;rw [A2 (by omega),A2 (by omega),A0]
theorem C5i {H:Hp} {r:Ru} {t cc:Nat} {s:Int × Int} {l:List (List UInt8)}:hdH H r t cc s l (cc+2)=some (U9 l):=by
 unfold hdH;rw [A2 (by omega),A0]
theorem C5h {H:Hp} {r:Ru} {t cc:Nat} {s:Int × Int} {l:List (List UInt8)}:hdH H r t cc s l (cc+3)=some ⟨0,true,[.mid (cc+2)]⟩:=by
 unfold hdH;rw [A0]
theorem C5g {H:Hp} {r:Ru} {t cc:Nat} {s:Int × Int} {l:List (List UInt8)} (htc:t<cc) (hfr:∀ i,cc<=i->H i=none) (j:Nat) (hj:cc+4<=j):hdH H r t cc s l j=none:=by
 unfold hdH;rw [A2 (by omega),A2 (by omega),A2 (by omega),A2 (by omega),A2 (by omega)];exact hfr j (by omega)
theorem B9c {H:Hp} {r:Ru} {t cc:Nat} {s:Int × Int} {l:List (List UInt8)} (j:Nat) (hj:j<cc) (hjt:j≠t):hdH H r t cc s l j=H j:=by
 unfold hdH;rw [A2 (by omega),A2 (by omega),A2 (by omega),A2 (by omega),A2 hjt]
theorem B6y {H X:Hp} {r:Ru} {t cc:Nat} {s:Int × Int} {l:List (List UInt8)} (htc:t<cc) (hfr:∀ i,cc<=i->H i=none) (ht:X t=some (ckB r s)) (h0:X cc=some ⟨0,true,[.ptr t 0]⟩) (h1:X (cc+1)=some ⟨0,true,[C8 r.decls,D5 r.modes]⟩) (h2:X (cc+2)=some (U9 l)) (h3:X (cc+3)=some ⟨0,true,[.mid (cc+2)]⟩)
  (ho:∀ j,j<cc->j≠t->X j=H j):Sym.Sub (hdH H r t cc s l) X:=by
 intro j b hj;by_cases hlt:j<cc
 ·by_cases hjt:j=t
  ·subst hjt;rw [B9b htc] at hj;rw [ht];exact hj
  ·rw [B9c j hlt hjt] at hj;rw [ho j hlt hjt];exact hj
 ·have h4:j<cc+4:=A3I fun h=>by rw [C5g htc hfr j h] at hj;cases hj
  have:j=cc\/j=cc+1\/j=cc+2\/j=cc+3:=by omega
  rcases this with rfl|rfl|rfl|rfl
  ·rw [C5j] at hj;rw [h0];exact hj
  ·rw [B9d] at hj;rw [h1];exact hj
  ·rw [C5i] at hj;rw [h2];exact hj
  ·rw [C5h] at hj;rw [h3];exact hj
theorem c_heads32 (r:Ru) (hk:X2 r.decls) (s:Int × Int) (H:Hp) (cc t:Nat) (ht:H t=some (ckB r s)) (htc:t<cc) (h1:r.decls.length<=1000000000) (h2:r.modes.length<=1000000000) :
  AC Tryz.prog 42 [.ptr t 0,r.v] H cc (fun v H' c'=>v=.tup []/\H'=H.upd t (ckB r (upS s (A6p r)))):=by
 have hrv:r.v=.agg [C8 r.decls,D5 r.modes]:=rfl;rw [hrv];have hkt:∀ i,X2 (r.decls.take i):=fun i d hd=>hk d (List.mem_of_mem_take hd);refine AC.bodyT A9 rfl (A0B rfl) fun hfr=>?_;have ne0:=A1s t cc (cc+1) (cc+1+1) (cc+1+1+1) (by omega);repeat' ((with_reducible apply wr)<;>try simp only [go_sem,seval,B5f,ne0,A0,A1])
 refine C2 (fun q:Nat × List (List UInt8)=>[(3,.ptr (cc+1) 0),(5,.func 86 [] [.ptr cc 0,.ptr (cc+1+1+1) 0]),(13,C8 r.decls),(14,I64 r.decls.length),(15,I64 q.1)]) (fun q=>hdH H r t cc (upS s (erD [] (r.decls.take q.1))) q.2)
  (fun q c=>cc+4<=c/\q.1<=r.decls.length/\∀ n,q.2.contains n=(r.decls.take q.1).any (fun d=>d.name == n)) (fun q=>r.decls.length-q.1) (0,[]) (by simp [C3,tm,Tm.upd])
  (by
   dsimp only;rw [A1Y,erD,J8];refine B6y htc hfr ?_ ?_ ?_ ?_ A0 ?_
   ·repeat rw [A2 (by omega)]
    exact ht
   ·repeat rw [A2 (by omega)]
    exact A0
   ·repeat rw [A2 (by omega)]
    exact A0
   ·rw [A2 (by omega)];exact A0
   ·intro j hj hjt
    repeat rw [A2 (by omega)]) ⟨by omega,A0R _,fun n=>rfl⟩ ?_
 rintro ⟨i,l⟩ c ⟨h1c,hki,hsn⟩;dsimp only at hki hsn ⊢;by_cases hlt:i<r.decls.length
 ·have hd:decide ((i:Int)<r.decls.length)=true:=by simpa using hlt
  have hg:=A0C hlt;have hw:=w64 (n:=(i:Int)+1) (by omega) (by omega);have het:=C6f hg;have hnx:=fun n=>A6b (fun d:Dc=>d.name == n) r.decls i _ hg;have hlo:=fun n=>A7i (r.decls.take i) [] n (hkt i);generalize r.decls[i]=d at hg het hnx;have hmo:=c_most32 d.kind;obtain ⟨o,ho⟩:∃ o,o=erD [] (r.decls.take i):=⟨_,rfl⟩;have hno:NzE o:=by rw [ho];exact C8x _ _
  rw [<- ho] at het ⊢;have hb0:hdH H r t cc (upS s o) l cc=_:=C5j;have hb1:hdH H r t cc (upS s o) l (cc+1)=_:=B9d;have hb2:hdH H r t cc (upS s o) l (cc+2)=_:=C5i;have hb3:hdH H r t cc (upS s o) l (cc+1+1+1)=_:=C5h;have hbt:hdH H r t cc (upS s o) l t=_:=B9b htc;have hbn:=C5g (s:=upS s o) (l:=l) (r:=r) htc hfr;have hbo:=B9c (H:=H) (cc:=cc) (t:=t) (s:=upS s o) (l:=l) (r:=r);generalize hdH H r t cc (upS s o) l=HH at hb0 hb1 hb2 hb3 hbt hbn hbo ⊢;have ne0:=V1 c t cc (cc+1) (by omega);repeat' ((with_reducible first|apply wr|refine cpc hmo ?_|fail)<;>try simp only [go_sem,seval,hd,hg,A0y,hb0,hb1,hb2,hb3,hbt,ne0,A0,A1])
  refine ⟨by and_intros<;>(rw [A2 (by omega)];exact hbn _ (by omega)),?_⟩;refine AC.call (c_head1 r (upS s o) l d.name d.pos d.value (A3r d.kind) _ _ t cc (cc+1+1+1) (cc+2) (by rw [A2 (by omega)];exact hbt) (by rw [A2 (by omega)];exact hb0) (by rw [A2 (by omega)];exact hb3) (by rw [A2 (by omega)];exact hb2) (by omega) (by omega) (by omega) (by omega) (by omega) (by omega) (by omega) (by omega) (by omega) (by omega)) ?_;rintro v' H' c2 ⟨rfl,rfl⟩ hc2;have est:((if d.value>A3r d.kind then some (d.pos,5) else none:Er).or (if l.contains d.name=true then some (d.pos,7) else none))=stD (r.decls.take i) d:=by
   unfold stD
   congr 1
   rw [hsn];have:=hlo d.name;cases ha:(r.decls.take i).any (fun x=>x.name == d.name) with
   | true=>rw [ha] at this;rw [if_pos rfl,if_neg (fun h=>by simpa using (this.1 h).1)]
   | false=>rw [ha] at this;rw [if_neg (by decide),if_pos (this.2 ⟨rfl,rfl⟩)]
  rw [est,J7 hno, <- het];simp only [go_sem,seval,hw];repeat' ((with_reducible apply wr)<;>try simp only [go_sem,seval,hw])
  refine ⟨(i+1,X6 l d.name),by simp [C3,tm,Tm.upd],?_,inv ⟨by omega,by omega,fun n=>?_⟩,by simp only;omega⟩
  ·refine B6y htc hfr ?_ ?_ ?_ A0 ?_ ?_
   ·rw [A2 (by omega),A0]
   ·repeat rw [A2 (by omega)]
    exact hb0
   ·repeat rw [A2 (by omega)]
    exact hb1
   ·repeat rw [A2 (by omega)]
    exact hb3
   ·intro j hj hjt;rw [A2 (by omega),A2 hjt,A2 (by omega)];exact hbo j hj hjt
  ·simp only;rw [A1p,hsn,hnx]
   congr 1
   rw [A2A];simp;exact eq_comm
 have hd:decide ((i:Int)<r.decls.length)=false:=by simpa using hlt
 rw [A0J (by omega)] at hsn ⊢;have hb1:hdH H r t cc (upS s (erD [] r.decls)) l (cc+1)=_:=B9d;repeat' ((with_reducible apply wr)<;>try simp only [go_sem,seval,hd,hb1])
 clear hd hlt hki i hb1;have hrp:A6p r=(erD [] r.decls).or (erP r.decls [] r.modes):=rfl;rw [hrp, <- J7 (C8x _ _)];obtain ⟨s1,hs1⟩:∃ s1,s1=upS s (erD [] r.decls):=⟨_,rfl⟩;rw [<- hs1];refine C2 (fun q:Nat × List (List UInt8)=>[(5,.func 86 [] [.ptr cc 0,.ptr (cc+1+1+1) 0]),(32,D5 r.modes),(33,I64 r.modes.length),(34,I64 q.1)]) (fun q=>hdH H r t cc (upS s1 (erP r.decls [] (r.modes.take q.1))) q.2)
  (fun q c=>cc+4<=c/\q.1<=r.modes.length/\∀ n,q.2.contains n=(r.decls.any (fun d=>d.name == n) || (r.modes.take q.1).any (fun d=>d.name == n))) (fun q=>r.modes.length-q.1) (0,l) (by simp [C3,tm,Tm.upd])
  (by
   dsimp only;rw [A1Y,erP,J8];exact Sub.refl _) ⟨h1c,A0R _,fun n=>by rw [hsn];simp⟩ ?_
 clear hsn h1c c l hs1;rintro ⟨i,l⟩ c ⟨h1c,hki,hsn⟩;dsimp only at hki hsn ⊢;by_cases hlt:i<r.modes.length
 ·have hd:decide ((i:Int)<r.modes.length)=true:=by simpa using hlt
  have hg:=A0C hlt;have hw:=w64 (n:=(i:Int)+1) (by omega) (by omega);have het:=C5z (D:=r.decls) hg;have hnx:=fun n=>A6b (fun d:Md=>d.name == n) r.modes i _ hg;have hlo:=fun n=>A7i r.decls (r.modes.take i) n hk;generalize r.modes[i]=d at hg het hnx;obtain ⟨o,ho⟩:∃ o,o=erP r.decls [] (r.modes.take i):=⟨_,rfl⟩;have hno:NzE o:=by rw [ho];exact D4r _ _ _
  rw [<- ho] at het ⊢;have hb0:hdH H r t cc (upS s1 o) l cc=_:=C5j;have hb1:hdH H r t cc (upS s1 o) l (cc+1)=_:=B9d;have hb2:hdH H r t cc (upS s1 o) l (cc+2)=_:=C5i;have hb3:hdH H r t cc (upS s1 o) l (cc+1+1+1)=_:=C5h;have hbt:hdH H r t cc (upS s1 o) l t=_:=B9b htc;have hbn:=C5g (s:=upS s1 o) (l:=l) (r:=r) htc hfr;have hbo:=B9c (H:=H) (cc:=cc) (t:=t) (s:=upS s1 o) (l:=l) (r:=r);generalize hdH H r t cc (upS s1 o) l=HH at hb0 hb1 hb2 hb3 hbt hbn hbo ⊢;have ne0:=V1 c t cc (cc+1) (by omega);repeat' ((with_reducible apply wr)<;>try simp only [go_sem,seval,hd,hg,A6m,hb0,hb1,hb2,hb3,hbt,ne0,A0,A1])
  refine AC.call (c_head1 r (upS s1 o) l d.name d.pos d.prio 99 _ _ t cc (cc+1+1+1) (cc+2) (by rw [A2 (by omega)];exact hbt) (by rw [A2 (by omega)];exact hb0) (by rw [A2 (by omega)];exact hb3) (by rw [A2 (by omega)];exact hb2) (by omega) (by omega) (by omega) (by omega) (by omega) (by omega) (by omega) (by omega) (by omega) (by omega)) ?_;rintro v' H' c2 ⟨rfl,rfl⟩ hc2;have est:((if d.prio>99 then some (d.pos,5) else none:Er).or (if l.contains d.name=true then some (d.pos,7) else none))=stP r.decls (r.modes.take i) d:=by
   unfold stP
   congr 1
   rw [hsn];have:=hlo d.name;cases ha:r.decls.any (fun x=>x.name == d.name) with
   | true=>rw [ha] at this;rw [Bool.true_or,if_pos rfl,if_neg (fun h=>by simpa using (this.1 h).1)]
   | false =>
    rw [ha] at this;cases ha2:(r.modes.take i).any (fun x=>x.name == d.name) with
    | true=>rw [ha2] at this;rw [Bool.false_or,if_pos rfl,if_neg (fun h=>by simpa using (this.1 h).2)]
    | false=>rw [ha2] at this;rw [Bool.false_or,if_neg (by decide),if_pos (this.2 ⟨rfl,rfl⟩)]
  rw [est,J7 hno, <- het];simp only [go_sem,seval,hw];repeat' ((with_reducible apply wr)<;>try simp only [go_sem,seval,hw])
  refine ⟨(i+1,X6 l d.name),by simp [C3,tm,Tm.upd],?_,inv ⟨by omega,by omega,fun n=>?_⟩,by simp only;omega⟩
  ·refine B6y htc hfr ?_ ?_ ?_ A0 ?_ ?_
   ·rw [A2 (by omega),A0]
   ·repeat rw [A2 (by omega)]
    exact hb0
   ·repeat rw [A2 (by omega)]
    exact hb1
   ·repeat rw [A2 (by omega)]
    exact hb3
   ·intro j hj hjt;rw [A2 (by omega),A2 hjt,A2 (by omega)];exact hbo j hj hjt
  ·simp only;rw [A1p,hsn,hnx,A3T]
   congr 2
   rw [A2A];simp;exact eq_comm
 have hd:decide ((i:Int)<r.modes.length)=false:=by simpa using hlt
 rw [A0J (by omega)];repeat' ((with_reducible apply wr)<;>try simp only [go_sem,seval,hd])
 refine ⟨_,_,GL.less' (fun j b hj=>?_),rfl,rfl⟩;by_cases e:j=t
 ·subst e;rw [A0] at hj;rw [B9b htc];exact hj
 ·rw [A2 e] at hj;have:j<cc:=A3I fun h=>by rw [hfr _ h] at hj;cases hj
  rw [B9c j this e];exact hj
theorem c_chk1 (x h:Hd):PC Tryz.prog 46 [x.v,.fptr [I64 h.trig,.str h.name,F3 h.body,I64 h.pos]] (.bool (x.trig == h.trig && x.name == h.name)):=by
 rw [A1c];refine PC.ofT A9 rfl (A0B rfl) (by simp [DV.nlL,DV.nl]) (by simp [DV.nlL,DV.nl]) ?_;cases h1:(x.trig == h.trig) with
 | false =>
  repeat' ((with_reducible apply wr)<;>try simp only [go_sem,seval,h1])
  exact A6 rfl
 | true =>
  cases h2:(x.name == h.name) with
  | false =>
   repeat' ((with_reducible apply wr)<;>try simp only [go_sem,seval,h1,h2])
   exact A6 rfl
  | true =>
   repeat' ((with_reducible apply wr)<;>try simp only [go_sem,seval,h1,h2])
   exact A6 rfl
theorem c_Check32 (r:Ru) (hB:r.sz<4000000):PC Tryz.prog 17 [r.v] (A9c r):=by
 have hv:=c_Valid r (by omega);have hdl:=A9u r;have hml:=A7z r;have hnm:=c_names r (by omega) (by omega);have hch:A9c r=if R5 r=true then erV (C1i r) else .tup [I64 0,I64 1]:=rfl
 refine PC.ofT A9 rfl (A0B rfl) (by simp [Ru.v,DV.nlL,DV.nl,H4,G9]) (B9m _) ?_;have hrv:r.v=.agg [C8 r.decls,D5 r.modes]:=rfl;cases hvd:R5 r with
 | false =>
  rw [hvd] at hv hch;rw [hch];rw [hrv] at hv ⊢;repeat' ((with_reducible first|apply wr|refine cpc hv ?_|fail)<;>try simp only [go_sem,seval])
  exact A6 rfl
 | true =>
 have hk:=C1r hvd;have hbv:=@A7u _ r hvd;have hms:∀ m∈r.modes,m.sz<=r.sz:=fun m h=>C2n h;rw [hvd] at hv hch;rw [if_pos rfl] at hch;rw [hch,D6h];unfold C1i;rw [<- J7 (C4g r)];have hhd:=fun H cc t ht htc=>c_heads32 r hk (0,0) H cc t ht htc (by omega) (by omega);obtain ⟨K,V,hKV⟩:∃ K V,nmV r=.mp .s K V:=⟨_,_,rfl⟩;have hck:∀ s:Int × Int,(⟨0,true,[.mp .s K V,I64 s.1,I64 s.2]⟩:Blk)=ckB r s:=fun s=>by unfold ckB;rw [hKV]
 rw [hKV] at hnm;rw [hrv] at hv hnm hhd ⊢;repeat' ((with_reducible first|apply wr|refine cpc hv ?_|refine cpc hnm ?_|fail)<;>try simp only [go_sem,seval])
 refine AC.call (hhd _ _ 1 (by rw [A0];exact congrArg some (hck (0,0))) (by omega)) ?_;rintro v' H' c' ⟨rfl,rfl⟩ hcc;rw [A1];obtain ⟨s0,hs0⟩:∃ s0,s0=upS (0,0) (A6p r):=⟨_,rfl⟩;rw [<- hs0];have hb0:∀ b,((Sym.nil.upd 0 ⟨0,true,[C8 r.decls,D5 r.modes]⟩).upd 1 b) 0=some ⟨0,true,[C8 r.decls,D5 r.modes]⟩:=fun b=>rfl;simp only [go_sem,seval];repeat' ((with_reducible apply wr)<;>try simp only [go_sem,seval,hb0])
 have hG0:∀ j,1<=j->(Sym.nil.upd 0 ⟨0,true,[C8 r.decls,D5 r.modes]⟩) j=none:=fun j hj=>by rw [A2 (by omega)];rfl
 generalize Sym.nil.upd 0 ⟨0,true,[C8 r.decls,D5 r.modes]⟩=G0 at hG0 ⊢;clear hb0 hs0 hhd;refine C2 (fun i:Nat=>[(4,.ptr 1 0),(20,D5 r.modes),(21,I64 r.modes.length),(22,I64 i)]) (fun i=>G0.upd 1 (ckB r (upS s0 (erM r (r.modes.take i))))) (fun i c=>2<=c/\i<=r.modes.length) (fun i=>r.modes.length-i) 0 (by simp [C3,tm,Tm.upd]) (by rw [A1Y,erM,J8];exact Sub.refl _) ⟨by omega,A0R _⟩ ?_;rintro i c ⟨h1c,hki⟩;by_cases hlt:i<r.modes.length
 ·have hd:decide ((i:Int)<r.modes.length)=true:=by simpa using hlt
  have hg:=A0C hlt;have hw:=w64 (n:=(i:Int)+1) (by omega) (by omega);have hms:=hms _ (A0O hlt);have hbv:=hbv _ (A0O hlt);have het:=B4q (r:=r) hg;generalize r.modes[i]=d at hg hms hbv het;have hhl:=C2o d;obtain ⟨s1,hs1⟩:∃ s1,s1=upS s0 (erM r (r.modes.take i)):=⟨_,rfl⟩;rw [<- hs1];have hfin:upS s0 (erM r (r.modes.take (i+1)))=upS s1 (erH r [] d.hds):=by rw [het, <- J7 (D8l _ _), <- hs1]
  have ne0:=M8 1 c (by omega);repeat' ((with_reducible apply wr)<;>try simp only [go_sem,seval,hd,hg,A6m,ne0,A0,A1])
  obtain ⟨G,hG⟩:∃ G,G=G0.upd c ⟨0,true,[.str d.name,I64 d.prio,S2 d.hds,I64 d.pos]⟩:=⟨_,rfl⟩;have hGc:∀ b,(G.upd 1 b) c=some ⟨0,true,[.str d.name,I64 d.prio,S2 d.hds,I64 d.pos]⟩:=fun b=>by rw [A2 (by omega),hG,A0]
  have hGn:∀ j,c+1<=j->G j=none:=fun j hj=>by rw [hG,A2 (by omega)];exact hG0 j (by omega)
  rw [A7w (by omega), <- hG];refine C2 (fun j:Nat=>[(4,.ptr 1 0),(6,.ptr c 0),(20,D5 r.modes),(21,I64 r.modes.length),(22,I64 i),(27,S2 d.hds),(28,I64 d.hds.length),(29,I64 j)]) (fun j=>G.upd 1 (ckB r (upS s1 (erH r [] (d.hds.take j))))) (fun j c2=>c+1<=c2/\j<=d.hds.length) (fun j=>d.hds.length-j) 0 (by simp [C3,tm,Tm.upd]) (by rw [A1Y,erH,J8];exact Sub.refl _) ⟨by omega,A0R _⟩ ?_;rintro j c2 ⟨h2c,hkj⟩;by_cases hlt2:j<d.hds.length
  ·have hd2:decide ((j:Int)<d.hds.length)=true:=by simpa using hlt2
   have hg2:=A0C hlt2;have hw2:=w64 (n:=(j:Int)+1) (by omega) (by omega);have hxs:=C2p (A0O hlt2);have hbv:=hbv _ (A0O hlt2);have heH:=C6c (r:=r) hg2;generalize d.hds[j]=x at hg2 hxs hbv heH;have hxe:x.sz=1+x.name.length+Pb.St.szs x.body:=rfl;have hbl:=c_blk32 r hk _ x.body 1 (A2Z _) (by omega) hbv;have hik:=c_inH32 x.trig;have hcf:=c_CF_hd (f:=46) (a:=[]) (cs:=[.fptr [I64 x.trig,.str x.name,F3 x.body,I64 x.pos]]) (g:=fun y=>y.trig == x.trig && y.name == x.name) (d.hds.take j) (by rw [A1A];omega) rfl (by simp [DV.nlL,DV.nl,Q2]) (fun y _=>c_chk1 y x);obtain ⟨o,ho⟩:∃ o,o=erH r [] (d.hds.take j):=⟨_,rfl⟩;have hno:NzE o:=by rw [ho];exact D4s _ _ _
   rw [<- ho] at heH ⊢;have hsl:=fun H=>B1k (xs:=d.hds.map Hd.v) (h:=j) (sz:=4) (by rw [A0D];omega) (A2o _) H;rw [<- List.map_take] at hsl;have ne0:=S0 1 c c2 (by omega);repeat' ((with_reducible first|apply wr|refine cpc hik ?_|fail)<;>try simp only [go_sem,seval,hd2,hg2,A1c,ne0,A0,A1,hGc])
   obtain ⟨G2,hG2⟩:∃ G2,G2=G.upd c2 ⟨0,true,[I64 x.trig,.str x.name,F3 x.body,I64 x.pos]⟩:=⟨_,rfl⟩;have h2c2:∀ b,(G2.upd 1 b) c2=some ⟨0,true,[I64 x.trig,.str x.name,F3 x.body,I64 x.pos]⟩:=fun b=>by rw [A2 (by omega),hG2,A0]
   have h2c:∀ b,(G2.upd 1 b) c=some ⟨0,true,[.str d.name,I64 d.prio,S2 d.hds,I64 d.pos]⟩:=fun b=>by rw [A2 (by omega),hG2,A2 (by omega),hG,A0]
   have h2n:∀ j,c2+1<=j->G2 j=none:=fun j hj=>by rw [hG2,A2 (by omega)];exact hGn j (by omega)
   rw [A7w (by omega), <- hG2];refine ⟨by and_intros<;>(rw [A2 (by omega)];exact h2n _ (by omega)),?_⟩;refine AC.call (c_den32 r hk (upS s1 o) _ _ 1 A0 (by omega) x.name (kdH x.trig) x.pos) ?_;rintro v' H' c3 ⟨rfl,rfl⟩ hc3;rw [A1,J7 hno];obtain ⟨o2,ho2⟩:∃ o2,o2=o.or (dnE r x.name (kdH x.trig) x.pos):=⟨_,rfl⟩;have hno2:NzE o2:=by rw [ho2];exact hno.or (B0b _ _ _ _)
   have heH2:erH r [] (d.hds.take (j+1))=(o2.or (if (d.hds.take j).any (fun y=>y.trig == x.trig && y.name == x.name)=true then some (x.pos,7) else none)).or (erB r x.body):=by
    rw [heH,ho2];unfold stH;simp only [A2E]
   rw [<- ho2];simp only [go_sem,seval];generalize (d.hds.take j).any (fun y=>y.trig == x.trig && y.name == x.name)=bq at hcf heH2;have kE:∀ (s2:Int × Int) (c4:Nat),c2+1<=c4->upS s1 (erH r [] (d.hds.take (j+1)))=upS s2 (erB r x.body)->IW Tryz.prog 67 (pz Tryz.prog 17 (.o (.o (.i (.o (.i .h)))))) ⟨tm [(4,.ptr 1 0),(6,.ptr c 0),(8,.ptr c2 0),(20,D5 r.modes),(21,I64 r.modes.length),(22,I64 i),(27,S2 d.hds),(28,I64 d.hds.length),(29,I64 j)],G2.upd 1 (ckB r s2),c4⟩ (bk 3
      (sq Tryz.prog 67 (pz Tryz.prog 17 (.i (.o (.i (.o (.i .h))))))
       (lp (fun j:Nat=>[(4,DV.ptr 1 0),(6,DV.ptr c 0),(20,D5 r.modes),(21,I64 r.modes.length),(22,I64 i),(27,S2 d.hds),(28,I64 d.hds.length),(29,I64 j)])
        (fun j:Nat=>G.upd 1 (ckB r (upS s1 (erH r [] (d.hds.take j)))))
        (fun j c2=>c+1<=c2/\j<=d.hds.length) (fun j=>d.hds.length-j) (d.hds.length-j)
        (bk 2
         (bk 1
          (sq Tryz.prog 67 (pz Tryz.prog 17 (.o (.i (.i (.o (.i .h))))))
           (lp (fun i:Nat=>[(4,DV.ptr 1 0),(20,D5 r.modes),(21,I64 r.modes.length),(22,I64 i)])
            (fun i:Nat=>G0.upd 1 (ckB r (upS s0 (erM r (r.modes.take i)))))
            (fun i c=>2<=c/\i<=r.modes.length) (fun i=>r.modes.length-i) (r.modes.length-i)
            (bk 0
             (sq Tryz.prog 67 (pz Tryz.prog 17 (.i (.i (.i (.o (.i .h))))))
              (rt [Eng.RV.tmp 2,Eng.RV.tmp 3] fun v H' x =>
               ∃ H2,GL H' [v] H2 [DV.tup [I64 (upS s0 (erM r r.modes)).1,I64 (upS s0 (erM r r.modes)).2]])))))))))):=by
    intro s2 c4 hc4 hs2;repeat' ((with_reducible apply wr)<;>try simp only [go_sem,seval,h2c2,h2c])
    refine AC.call (hbl s2 _ _ 1 A0 (by omega)) ?_;rintro v' H' c5 ⟨rfl,rfl⟩ hc5;rw [A1, <- hs2];simp only [go_sem,seval,hw2];repeat' ((with_reducible apply wr)<;>try simp only [go_sem,seval,hw2])
    refine ⟨j+1,by simp,?_,inv ⟨by omega,by omega⟩,by omega⟩;rw [hG2];exact A7a (fun j hj=>hGn j (by omega)) (by omega)
   cases bq with
   | true =>
    rw [if_pos rfl] at heH2;repeat' ((first|(with_reducible first|refine wr ?_)|(refine AC.call (hcf.lend rfl (GL.one (id:=c2) (b:=⟨0,true,[I64 x.trig,.str x.name,F3 x.body,I64 x.pos]⟩) (h2c2 _) rfl (.cons _ _ _ _ (.same _) (.cons _ _ _ _ (.func _ _ _ _ _ .nil (.cons _ _ _ _ (.ptr 0 _ (A0R _) rfl) .nil)) .nil)))) ?_<;>rintro v' H' c' ⟨rfl,rfl,rfl⟩ hcc)|fail)<;>try simp only [go_sem,seval,h2c2,h2c,hsl])
    refine AC.call (c_fail32 r (upS s1 o2) _ _ 1 A0 (by omega) x.pos 7) ?_;rintro v' H' c5 ⟨rfl,rfl⟩ hc5;rw [A1,J7 hno2];simp only [go_sem,seval];repeat' ((with_reducible first|refine G8 (p:=IW _ _ (pz Tryz.prog 17 (.o (.o (.i (.o (.i .h)))))) _ _) ?_|refine wr ?_|fail)<;>try simp only [go_sem,seval])
    refine IW.stage (by simp [C3,tm,Tm.upd]) (kE _ _ (by omega) ?_);rw [heH2,J7 (hno2.or (fun a b h=>by cases h;decide))]
   | false =>
    rw [if_neg (by decide),A3H] at heH2;repeat' ((first|(with_reducible first|refine G8 (p:=IW _ _ (pz Tryz.prog 17 (.o (.o (.i (.o (.i .h)))))) _ _) ?_|refine wr ?_)|(refine AC.call (hcf.lend rfl (GL.one (id:=c2) (b:=⟨0,true,[I64 x.trig,.str x.name,F3 x.body,I64 x.pos]⟩) (h2c2 _) rfl (.cons _ _ _ _ (.same _) (.cons _ _ _ _ (.func _ _ _ _ _ .nil (.cons _ _ _ _ (.ptr 0 _ (A0R _) rfl) .nil)) .nil)))) ?_<;>rintro v' H' c' ⟨rfl,rfl,rfl⟩ hcc)|fail)<;>try simp only [go_sem,seval,h2c2,h2c,hsl])
    refine IW.stage (by simp [C3,tm,Tm.upd]) (kE _ _ (by omega) ?_);rw [heH2,J7 hno2]
  have hd2:decide ((j:Int)<d.hds.length)=false:=by simpa using hlt2
  rw [A0J (by omega)];repeat' ((with_reducible apply wr)<;>try simp only [go_sem,seval,hd2,hw])
  refine ⟨i+1,by simp,?_,inv ⟨by omega,by omega⟩,by omega⟩;rw [hfin,hG];exact A7a (fun j hj=>hG0 j (by omega)) (by omega)
 have hd:decide ((i:Int)<r.modes.length)=false:=by simpa using hlt
 rw [A0J (by omega)];have hb1:(G0.upd 1 (ckB r (upS s0 (erM r r.modes)))) 1=some (ckB r (upS s0 (erM r r.modes))):=A0;have hcs:=(hck (upS s0 (erM r r.modes))).symm;have hbn:∀ j,c<=j->(G0.upd 1 (ckB r (upS s0 (erM r r.modes)))) j=none:=fun j hj=>by rw [A2 (by omega)];exact hG0 j (by omega)
 rw [hcs] at hb1 hbn ⊢;repeat' ((with_reducible apply wr)<;>try simp only [go_sem,seval,hd,hb1])
 refine ⟨by and_intros<;>exact hG0 _ (by omega),?_⟩;repeat' ((with_reducible apply wr)<;>try simp only [go_sem,seval,hb1])
 exact A6 rfl
theorem c_Lookup32 (r:Ru) (n:List UInt8) (hB:r.sz<4000000):PC Tryz.prog 28 [r.v,.str n] (C4v r n):=by
 have hv:=c_Valid r (by omega);have hdl:=A9u r;have hml:=A7z r;have hnm:=c_names r (by omega) (by omega);refine PC.ofT A9 rfl (A0B rfl) (by simp [Ru.v,DV.nlL,DV.nl,H4,G9]) (D5i _ _) ?_;have hrv:r.v=.agg [C8 r.decls,D5 r.modes]:=rfl;unfold C4v;cases hvd:R5 r with
 | false =>
  rw [hvd] at hv;rw [hrv] at hv ⊢;repeat' ((with_reducible first|apply wr|refine cpc hv ?_|fail)<;>try simp only [go_sem,seval])
  exact A6 rfl
 | true =>
 have hk:=C1r hvd;rw [hvd] at hv;rw [if_pos rfl];unfold nmV at hnm;have hlk:Sym.lkV (.agg [I64 0,I64 0]) false (mvV (V2 (nmL r))) (E5 (.str n) (mkK (V2 (nmL r))) 0)=some (.agg [I64 (K2 r n).1,I64 (K2 r n).2]):=by
  cases hl:(nmL r).lookup n with
  | some q =>
   obtain ⟨h1,h2⟩:=B8k hk hl;rw [h1];exact A7j (ok:=false) (by rw [O9,hl];rfl)
  | none =>
   rw [B8l hk hl];exact A7k (ok:=false) (by rw [O9,hl];rfl)
 rw [hrv] at hv hnm ⊢;repeat' ((with_reducible first|apply wr|refine cpc hv ?_|refine cpc hnm ?_|fail)<;>try simp only [go_sem,seval,hlk])
 exact A6 rfl
end Go.Proofs.YtnmkkggfgdfmeaaGreatDoor
namespace Go.Pb
variable [Go.Sym.Tab]
open Go.Sym
mutual
def exN (sn:List (List UInt8)):Ex->List (List UInt8)
 | .mk k v n a p=>A1l (X6 sn n) a
def A1l (sn:List (List UInt8)):List Ex->List (List UInt8)
 | []=>sn
 | x :: l=>A1l (exN sn x) l
end
mutual
def stN (sn:List (List UInt8)):St->List (List UInt8)
 | .mk k n t a x y p=>A0n (A0n (A1l (X6 sn n) a) x) y
def A0n (sn:List (List UInt8)):List St->List (List UInt8)
 | []=>sn
 | s :: l=>A0n (stN sn s) l
end
theorem E0n (sn:List (List UInt8)) (e:Ex):exN sn e=A1l (X6 sn e.name) e.args:=by
 cases e with|mk k v n a p=>rw [exN];rfl
theorem D7p (sn:List (List UInt8)) (s:St):stN sn s=A0n (A0n (A1l (X6 sn s.name) s.args) s.thn) s.els:=by
 cases s with|mk k n t a x y p=>rw [stN];rfl
theorem B0p {x:Ex}:∀ {l:List Ex} {i:Nat} {sn:List (List UInt8)},l[i]? = some x->A1l sn (l.take (i+1))=exN (A1l sn (l.take i)) x
 | y :: l,0,sn,h=>by cases h;simp [A1l]
 | y :: l,i+1,sn,h=>by rw [A0V,A0V,A1l,A1l,B0p (by simpa using h)]
theorem A9w {x:St}:∀ {l:List St} {i:Nat} {sn:List (List UInt8)},l[i]? = some x->A0n sn (l.take (i+1))=stN (A0n sn (l.take i)) x
 | y :: l,0,sn,h=>by cases h;simp [A0n]
 | y :: l,i+1,sn,h=>by rw [A0V,A0V,A0n,A0n,A9w (by simpa using h)]
def hdN (sn:List (List UInt8)) (h:Hd):List (List UInt8):=A0n (X6 sn h.name) h.body
def mdN (sn:List (List UInt8)) (m:Md):List (List UInt8):=m.hds.foldl hdN sn
def ruN (r:Ru):List (List UInt8):=r.modes.foldl mdN []
theorem B0m {α β : Type} {f : β -> α -> β} {b : β} {l:List α} {i:Nat} {x : α} (h:l[i]? = some x):(l.take (i+1)).foldl f b=f ((l.take i).foldl f b) x:=by
 rw [A1B,h,A3W];rfl
mutual
theorem D0n (m:List UInt8) (h0:m≠[]):∀ (e:Ex) (sn:List (List UInt8)),(∃ q,msM e=some q)->(exN sn e).contains m=(sn.contains m || inE m e)
 | .mk k v n a p,sn,⟨q,hq⟩=>by
  rw [exN,A8x m h0 a _ (B2a hq),A1p,inE,A3T]
  congr 2
  obtain ⟨o,d⟩:=q;obtain ⟨-, -,m3, -⟩:=A5q hq;by_cases hk:k=2\/k=5\/k=6\/k=7
  ·have:(kdE k != 0)=true:=by unfold kdE;rcases hk with rfl|rfl|rfl|rfl<;>decide
   rw [this,A1N,A2A];simp;exact eq_comm
  ·have e0:(kdE k != 0)=false:=by
    unfold kdE;rw [if_neg (by omega),if_neg (by omega),if_neg (by omega),if_neg (by omega)];rfl
   rw [e0,Bool.false_and];unfold A1j at m3;rw [if_neg (by unfold B1z;simp;omega)] at m3;have hn:n=[]:=by simpa using m3
   rw [hn];simpa using h0
theorem A8x (m:List UInt8) (h0:m≠[]):∀ (l:List Ex) (sn:List (List UInt8)),(∀ e∈l, ∃ q,msM e=some q)->(A1l sn l).contains m=(sn.contains m || C0w m l)
 | [],sn,_=>by rw [A1l,C0w,Bool.or_false]
 | x :: l,sn,h=>by
  rw [A1l,A8x m h0 l _ (fun e he=>h e (A0M _ he)),D0n m h0 x _ (h x A0N),C0w,A3T]
end
mutual
theorem C8g (m:List UInt8) (h0:m≠[]):∀ (s:St) (sn:List (List UInt8)) (d:Nat),R6 d s=true->(stN sn s).contains m=(sn.contains m || inS m s)
 | .mk k n t a x y p,sn,d,hv=>by
  obtain ⟨v1,v2,v3⟩:=A3h hv;rw [stN,A4d m h0 y _ _ v3,A4d m h0 x _ _ v2,A8x m h0 a _ v1,A1p,inS];have:(m == n)=(n == m):=by rw [A2A];simp;exact eq_comm
  rw [this];simp only [A3T]
theorem A4d (m:List UInt8) (h0:m≠[]):∀ (l:List St) (sn:List (List UInt8)) (d:Nat),G7 d l=true->(A0n sn l).contains m=(sn.contains m || inB m l)
 | [],sn,d,_=>by rw [A0n,inB,Bool.or_false]
 | s :: l,sn,d,h=>by
  rw [G7,A0G] at h;rw [A0n,A4d m h0 l _ _ h.2,C8g m h0 s _ _ h.1,inB,A3T]
end
theorem B8s (m:List UInt8) (h0:m≠[]):∀ (l:List Hd) (sn:List (List UInt8)),(∀ h∈l,G7 1 h.body=true)->(l.foldl hdN sn).contains m=(sn.contains m || l.any fun h=>h.name == m || inB m h.body)
 | [],sn,_=>by simp
 | h :: l,sn,hv=>by
  rw [A4G,B8s m h0 l _ (fun x hx=>hv x (A0M _ hx)),hdN,A4d m h0 _ _ _ (hv h A0N),A1p,List.any_cons];have:(m == h.name)=(h.name == m):=by rw [A2A];simp;exact eq_comm
  rw [this];simp only [A3T]
theorem C8n {r:Ru} (hv:R5 r=true) (m:List UInt8) (h0:m≠[]):(ruN r).contains m=C1s r m:=by
 have hb:=A7u hv;unfold ruN C1s;have go:∀ (l:List Md) (sn:List (List UInt8)),(∀ x∈l, ∀ h∈x.hds,G7 1 h.body=true)->(l.foldl mdN sn).contains m=(sn.contains m || l.any fun x=>x.hds.any fun h=>h.name == m || inB m h.body):=by
  intro l
  induction l with
  | nil=>intro sn _;simp
  | cons x l ih =>
   intro sn h;rw [A4G,ih _ (fun y hy=>h y (A0M _ hy)),mdN,B8s m h0 _ _ (h x A0N),List.any_cons,A3T]
 rw [go _ _ hb];rfl
theorem D2u {r:Ru} (h:R5 r=true):∀ d∈r.decls,d.name≠[]:=by
 intro d hd e;unfold R5 at h;simp only [A0G] at h;have h1:=A0U.1 h.1.2 d hd;unfold A1m at h1;simp only [A0G] at h1;have h2:=h1.1.1.2;rw [e] at h2;exact absurd h2 (by decide)
end Go.Pb
namespace Go.Proofs.YtnmkkggfgdfmeaaGreatDoor
open Go.Eng (IC IOper DReg IFn B8)
open Go.Sym Go.Pb
theorem C0a {H0 HH HH':Hp} {o:Option Nat} {n id:Nat} {b1 b b':Blk} (hHH:C6 H0 o b1=HH) (hn:∀ j,n<=j->H0 j=none) (ho:∀ i,o=some i->n<=i) (hx:∀ j,j<n->HH' j=HH j) (h:b=b') :
  Sym.Sub (C6 H0 (some id) b) ((I6 HH' o).upd id b'):=by
 subst h;intro j q hj;simp only [C6] at hj;by_cases e:j=id
 ·subst e;rw [A0] at hj ⊢;exact hj
 ·rw [A2 e] at hj ⊢;have hj2:j<n:=A3I fun h2=>by rw [hn j h2] at hj;cases hj
  have hHj:HH' j=some q:=by rw [hx j hj2, <- hHH,D0 (fun i hi=>by have:=ho i hi;omega)];exact hj
  cases o with
  | none=>simp only [I6];exact hHj
  | some i =>
   have:=ho i rfl;simp only [I6,Hp.del];rw [if_neg (by omega)];exact hHj
theorem c_exN:∀ (m:Nat) (l:List Ex),Ex.szs l<m->Ex.szs l<=100000000->∀ (sn:List (List UInt8)) (H:Hp) (cc mm:Nat) (hm:H mm=some (U9 sn)) (hmc:mm<cc),
  AC Tryz.prog 91 [I3 l,.mid mm] H cc (fun v H' c'=>v=.tup []/\H'=H.upd mm (U9 (A1l sn l))):=by
 intro m
 induction m with
 | zero=>intro l h;omega
 | succ m ih =>
 intro l hm hB sn H cc mm hmm hmc;have hl:=Ex.szs_len l;refine AC.bodyT A9 rfl (A0B rfl) fun hfr=>?_;repeat' ((with_reducible apply wr)<;>try simp only [go_sem,seval])
 have hHt:H=H.upd mm (U9 sn):=(upd_same hmm).symm;refine C2 (fun i:Nat=>[(1,.mid mm),(6,I3 l),(7,I64 l.length),(8,I64 i)]) (fun i=>H.upd mm (U9 (A1l sn (l.take i)))) (fun i c=>cc<=c/\i<=l.length) (fun i=>l.length-i) 0 (by simp [C3,tm,Tm.upd]) (by rw [A1Y,A1l, <- hHt];exact Sub.refl _) ⟨by omega,A0R _⟩ ?_;rintro i c ⟨h1c,hki⟩;by_cases hlt:i<l.length
 ·have hd:decide ((i:Int)<l.length)=true:=by simpa using hlt
  have hg:=A0C hlt;have hw:=w64 (n:=(i:Int)+1) (by omega) (by omega);have hsx:=Ex.szs_mem (A0O hlt);have het:=B0p (sn:=sn) hg;generalize l[i]=x at hg hsx het;have hax:Ex.szs x.args<x.sz:=by cases x with|mk k v n a p=>rw [Ex.sz];show Ex.szs a<_;omega
  have hc:=ih x.args (by omega) (by omega);rw [E0n] at het;generalize A1l sn (l.take i)=s0 at het ⊢;have hmu:=fun H c id u=>B1j x.name s0 H c id u;have hmB:(H.upd mm (U9 s0)) mm=some (U9 s0):=A0;have ne0:=M8 mm c (by omega);repeat' ((with_reducible apply wr)<;>try simp only [go_sem,seval,hd,hg,Ex.v_w,ne0,A0,A1,hmu])
  refine AC.call (hc (X6 s0 x.name) _ _ mm A0 (by omega)) ?_;rintro v' H' c2 ⟨rfl,rfl⟩ hc2;rw [<- het];simp only [go_sem,seval,hw];repeat' ((with_reducible apply wr)<;>try simp only [go_sem,seval,hw])
  refine ⟨i+1,by simp,?_,inv ⟨by omega,by omega⟩,by omega⟩;rw [A1];exact A0m (fun j hj=>hfr j (by omega)) (by omega)
 have hd:decide ((i:Int)<l.length)=false:=by simpa using hlt
 rw [A0J (by omega)];repeat' ((with_reducible apply wr)<;>try simp only [go_sem,seval,hd])
 exact ⟨_,_,GL.refl _ _,rfl,rfl⟩
theorem c_stN:∀ (m:Nat) (l:List Pb.St),Pb.St.szs l<m->Pb.St.szs l<=100000000->∀ (sn:List (List UInt8)) (H:Hp) (cc mm:Nat) (hm:H mm=some (U9 sn)) (hmc:mm<cc),
  AC Tryz.prog 50 [F3 l,.mid mm] H cc (fun v H' c'=>v=.tup []/\H'=H.upd mm (U9 (A0n sn l))):=by
 intro m
 induction m with
 | zero=>intro l h;omega
 | succ m ih =>
 intro l hm hB sn H cc mm hmm hmc;have hl:=Pb.St.szs_len l;refine AC.bodyT A9 rfl (A0B rfl) fun hfr=>?_;repeat' ((with_reducible apply wr)<;>try simp only [go_sem,seval])
 have hHt:H=H.upd mm (U9 sn):=(upd_same hmm).symm;refine C2 (fun i:Nat=>[(1,.mid mm),(6,F3 l),(7,I64 l.length),(8,I64 i)]) (fun i=>H.upd mm (U9 (A0n sn (l.take i)))) (fun i c=>cc<=c/\i<=l.length) (fun i=>l.length-i) 0 (by simp [C3,tm,Tm.upd]) (by rw [A1Y,A0n, <- hHt];exact Sub.refl _) ⟨by omega,A0R _⟩ ?_;rintro i c ⟨h1c,hki⟩;by_cases hlt:i<l.length
 ·have hd:decide ((i:Int)<l.length)=true:=by simpa using hlt
  have hg:=A0C hlt;have hw:=w64 (n:=(i:Int)+1) (by omega) (by omega);have hsx:=Pb.St.szs_mem (A0O hlt);have het:=A9w (sn:=sn) hg;generalize l[i]=x at hg hsx het;have hax:Ex.szs x.args<x.sz:=by cases x with|mk k n t a x y p=>rw [Pb.St.sz];show Ex.szs a<_;omega
  have hc:=c_exN _ x.args (A2Z _) (by omega);have hX:=ih x.thn (by have:=x.sz_thn;omega) (by have:=x.sz_thn;omega);have hY:=ih x.els (by have:=x.sz_els;omega) (by have:=x.sz_els;omega);rw [D7p] at het;generalize A0n sn (l.take i)=s0 at het ⊢;have hmu:=fun H c id u=>B1j x.name s0 H c id u;have ne0:=M8 mm c (by omega);repeat' ((with_reducible apply wr)<;>try simp only [go_sem,seval,hd,hg,Pb.St.v_w,ne0,A0,A1,hmu])
  refine AC.call (hc (X6 s0 x.name) _ _ mm A0 (by omega)) ?_;rintro v' H' c2 ⟨rfl,rfl⟩ hc2;rw [A1];simp only [go_sem,seval,ne0,A0,A1];repeat' ((with_reducible apply wr)<;>try simp only [go_sem,seval,hd,hg,Pb.St.v_w,ne0,A0,A1])
  refine AC.call (hX (A1l (X6 s0 x.name) x.args) _ _ mm A0 (by omega)) ?_;rintro v' H' c3 ⟨rfl,rfl⟩ hc3;rw [A1];simp only [go_sem,seval,ne0,A0,A1];repeat' ((with_reducible apply wr)<;>try simp only [go_sem,seval,hd,hg,Pb.St.v_w,ne0,A0,A1])
  refine AC.call (hY _ _ _ mm A0 (by omega)) ?_;rintro v' H' c4 ⟨rfl,rfl⟩ hc4;rw [A1, <- het];simp only [go_sem,seval,hw];repeat' ((with_reducible apply wr)<;>try simp only [go_sem,seval,hw])
  refine ⟨i+1,by simp,?_,inv ⟨by omega,by omega⟩,by omega⟩;exact A0m (fun j hj=>hfr j (by omega)) (by omega)
 have hd:decide ((i:Int)<l.length)=false:=by simpa using hlt
 rw [A0J (by omega)];repeat' ((with_reducible apply wr)<;>try simp only [go_sem,seval,hd])
 exact ⟨_,_,GL.refl _ _,rfl,rfl⟩
theorem c_Unused32 (r:Ru) (hB:r.sz<4000000):PC Tryz.prog 21 [r.v] (C1u r):=by
 refine PC.ofT A9 rfl (A0B rfl) (by simp [Ru.v,DV.nlL,DV.nl,H4,G9]) (C7t _) ?_;have hv:=c_Valid r (by omega);have hdl:=A9u r;have hml:=A7z r;have hms:∀ m∈r.modes,m.sz<=r.sz:=fun m h=>C2n h;have hrv:r.v=.agg [C8 r.decls,D5 r.modes]:=rfl;unfold C1u;cases hvd:R5 r with
 | false =>
  rw [hvd] at hv;rw [hrv] at hv ⊢;repeat' ((with_reducible first|apply wr|refine cpc hv ?_|fail)<;>try simp only [go_sem,seval])
  exact B1p
 | true =>
 rw [if_pos rfl];rw [hvd] at hv;obtain ⟨F,hF⟩:∃ F:Nat->List (List UInt8), ∀ k,F k=((r.decls.take k).filter fun d => !C1s r d.name).map Dc.name:=⟨_,fun _=>rfl⟩;have hF0:F 0=[]:=by rw [hF];rfl
 have hFe:D7o r=F r.decls.length:=by rw [hF,A3Q];rfl
 have hFl:∀ k,(F k).length<=r.decls.length:=fun k=>by
  rw [hF,A0D];refine A1P (List.length_filter_le _ _) ?_;rw [A1A];omega
 have hFs:∀ k d,r.decls[k]? = some d->F (k+1)=if (ruN r).contains d.name=true then F k else F k++[d.name]:=fun k d h=>by
  have hd0:=D2u hvd d (A0W h);rw [C8n hvd _ hd0,hF,hF,A1B,h,List.filter_append,A0P];show _++List.map Dc.name (List.filter _ [d])=_;rw [List.filter_cons];cases C1s r d.name<;>simp
 rw [hFe];rw [hrv] at hv ⊢;repeat' ((with_reducible first|apply wr|refine cpc hv ?_|fail)<;>try simp only [go_sem,seval])
 obtain ⟨G0,hG0⟩:∃ G0,G0=Sym.nil.upd 0 ⟨0,true,[C8 r.decls,D5 r.modes]⟩:=⟨_,rfl⟩;have hz0:∀ b,(G0.upd 1 b) 0=some ⟨0,true,[C8 r.decls,D5 r.modes]⟩:=fun b=>by rw [A2 (by omega),hG0];exact A0
 have hzn:∀ j,1<=j->G0 j=none:=fun j hj=>by rw [hG0,A2 (by omega)];rfl
 rw [<- hG0];refine C2 (fun i:Nat=>[(1,.ptr 0 0),(3,.mid 1),(16,D5 r.modes),(17,I64 r.modes.length),(18,I64 i)]) (fun i=>G0.upd 1 (U9 ((r.modes.take i).foldl mdN []))) (fun i c=>2<=c/\i<=r.modes.length) (fun i=>r.modes.length-i) 0 (by simp [C3,tm,Tm.upd]) (Sub.refl _) ⟨by omega,A0R _⟩ ?_;rintro i c ⟨h1c,hki⟩;by_cases hlt:i<r.modes.length
 ·have hd:decide ((i:Int)<r.modes.length)=true:=by simpa using hlt
  have hg:=A0C hlt;have hw:=w64 (n:=(i:Int)+1) (by omega) (by omega);have hms:=hms _ (A0O hlt);have het:=B0m (f:=mdN) (b:=[]) hg;generalize r.modes[i]=d at hg hms het;have hhl:=C2o d;generalize (r.modes.take i).foldl mdN []=s0 at het ⊢;have ne0:=M8 1 c (by omega);repeat' ((with_reducible apply wr)<;>try simp only [go_sem,seval,hd,hg,A6m,ne0,A0,A1])
  obtain ⟨G,hG⟩:∃ G,G=G0.upd c ⟨0,true,[.str d.name,I64 d.prio,S2 d.hds,I64 d.pos]⟩:=⟨_,rfl⟩;have hGn:∀ j,c+1<=j->G j=none:=fun j hj=>by rw [hG,A2 (by omega)];exact hzn j (by omega)
  rw [A7w (by omega), <- hG];refine C2 (fun j:Nat=>[(1,.ptr 0 0),(3,.mid 1),(16,D5 r.modes),(17,I64 r.modes.length),(18,I64 i),(23,S2 d.hds),(24,I64 d.hds.length),(25,I64 j)]) (fun j=>G.upd 1 (U9 ((d.hds.take j).foldl hdN s0))) (fun j c2=>c+1<=c2/\j<=d.hds.length) (fun j=>d.hds.length-j) 0 (by simp [C3,tm,Tm.upd]) (Sub.refl _) ⟨by omega,A0R _⟩ ?_;rintro j c2 ⟨h2c,hkj⟩;by_cases hlt2:j<d.hds.length
  ·have hd2:decide ((j:Int)<d.hds.length)=true:=by simpa using hlt2
   have hg2:=A0C hlt2;have hw2:=w64 (n:=(j:Int)+1) (by omega) (by omega);have hxs:=C2p (A0O hlt2);have heH:=B0m (f:=hdN) (b:=s0) hg2;generalize d.hds[j]=x at hg2 hxs heH;have hxe:x.sz=1+x.name.length+Pb.St.szs x.body:=rfl;have hst:=c_stN _ x.body (A2Z _) (by omega);generalize (d.hds.take j).foldl hdN s0=s1 at heH ⊢;have hmu:=fun H c id u=>B1j x.name s1 H c id u;have ne0:=M8 1 c2 (by omega);repeat' ((with_reducible apply wr)<;>try simp only [go_sem,seval,hd2,hg2,A1c,ne0,A0,A1,hmu])
   refine AC.call (hst (X6 s1 x.name) _ _ 1 A0 (by omega)) ?_;rintro v' H' c3 ⟨rfl,rfl⟩ hc3;rw [A1];have:A0n (X6 s1 x.name) x.body=hdN s1 x:=rfl;rw [this, <- heH];simp only [go_sem,seval,hw2];repeat' ((with_reducible apply wr)<;>try simp only [go_sem,seval,hw2])
   refine ⟨j+1,by simp,?_,inv ⟨by omega,by omega⟩,by omega⟩;exact A0m (fun j hj=>hGn j (by omega)) (by omega)
  have hd2:decide ((j:Int)<d.hds.length)=false:=by simpa using hlt2
  rw [A0J (by omega)];repeat' ((with_reducible apply wr)<;>try simp only [go_sem,seval,hd2,hw])
  refine ⟨i+1,by simp,?_,inv ⟨by omega,by omega⟩,by omega⟩;rw [het,hG];exact A7a (fun j hj=>hzn j (by omega)) (by omega)
 have hd:decide ((i:Int)<r.modes.length)=false:=by simpa using hlt
 rw [A0J (by omega)];have hru:r.modes.foldl mdN []=ruN r:=rfl;rw [hru];generalize ruN r=N at hFs ⊢;repeat' ((with_reducible apply wr)<;>try simp only [go_sem,seval,hd,hz0])
 clear hd hlt hki i;refine C2 (fun q:Nat × Option Nat=>[(3,.mid 1),(8,B9 q.2 (F q.1).length),(39,C8 r.decls),(40,I64 r.decls.length),(41,I64 q.1)]) (fun q=>C6 (G0.upd 1 (U9 N)) q.2 ⟨1,true,A3 ((F q.1).map DV.str)⟩)
  (fun q c=>2<=c/\q.1<=r.decls.length/\(q.2=none->F q.1=[])/\(∀ i,q.2=some i->2<=i/\i<c)) (fun q=>r.decls.length-q.1) (0,none)
  (by simp [C3,tm,Tm.upd,B9]) (Sub.refl _) ⟨h1c,A0R _,fun _=>hF0,(fun i hi=>by cases hi)⟩ ?_
 clear h1c c;rintro ⟨i,o⟩ c ⟨h1c,hk,hno,ho⟩;dsimp only at hk hno ho ⊢;have hb1:C6 (G0.upd 1 (U9 N)) o ⟨1,true,A3 ((F i).map DV.str)⟩ 1=some (U9 N):=by rw [D0 (fun i hi=>by have:=ho i hi;omega)];exact A0
 have hbn:∀ j:Nat,c<=j->C6 (G0.upd 1 (U9 N)) o ⟨1,true,A3 ((F i).map DV.str)⟩ j=none:=fun j hj=>by rw [D0 (fun i hi=>by have:=ho i hi;omega),A2 (by omega)];exact hzn j (by omega)
 have hbo2:∀ j:Nat,o=some j->C6 (G0.upd 1 (U9 N)) o ⟨1,true,A3 ((F i).map DV.str)⟩ j=some ⟨1,true,A3 ((F i).map DV.str)⟩:=fun j hj=>by subst hj;exact A0
 generalize hHH:C6 (G0.upd 1 (U9 N)) o ⟨1,true,A3 ((F i).map DV.str)⟩=HH at hb1 hbn hbo2 ⊢;by_cases hlt:i<r.decls.length
 ·have hd:decide ((i:Int)<r.decls.length)=true:=by simpa using hlt
  have hg:=A0C hlt;have hw:=w64 (n:=(i:Int)+1) (by omega) (by omega);have hFs:=hFs i _ hg;generalize r.decls[i]=d at hg hFs;have hlk:=C3g d.name N;generalize N.contains d.name=ub at hFs hlk;have ne0:=M8 1 c (by omega);cases ub with
  | true =>
   rw [if_pos rfl] at hFs;repeat' ((with_reducible apply wr)<;>try simp only [go_sem,seval,hb1,hd,hg,hw,A0y,hlk,ne0,A0,A1])
   refine ⟨(i+1,o),by simp [C3,tm,Tm.upd,hFs],?_,inv ⟨by omega,by omega,by rw [hFs];exact hno,(fun j hj=>by have:=ho j hj;omega)⟩,by simp only;omega⟩;simp only [hFs];rw [hHH];exact C8d (hbn c (A0H _))
  | false =>
   rw [if_neg (by decide)] at hFs;repeat' ((with_reducible apply wr)<;>try simp only [go_sem,seval,hb1,hd,hg,hw,A0y,hlk,ne0,A0,A1])
   have hln:(A3 ((F i).map DV.str)).length=(F i).length * 1:=(B3 (u:=1) (J9 _)).trans (by simp);have hFk:=hFl i;refine F6 (F1 (cs:=A3 ((F i).map DV.str)) (fun e=>by rw [hno e];exact ⟨rfl,rfl⟩) (fun j hj=>by have:=ho j hj;rw [A2 (by omega),A2 (by omega)];exact hbo2 j hj) hln (by omega) (by omega) (by omega)) ?_;simp only [go_sem,seval,hw];repeat' ((with_reducible apply wr)<;>try simp only [go_sem,seval,hw])
   refine ⟨(i+1,some (c+1+1)),by simp [C3,tm,Tm.upd,B9,hFs],?_,inv ⟨by omega,by omega,(fun h=>by cases h),(fun j hj=>by cases hj;omega)⟩,by simp only;omega⟩;refine C0a (n:=2) hHH (fun j hj=>by rw [A2 (by omega)];exact hzn j (by omega)) (fun i hi=>(ho i hi).1) (fun j hj=>by rw [A2 (by omega),A2 (by omega)]) ?_;simp only [hFs,A0P,B6];rfl
 have hd:decide ((i:Int)<r.decls.length)=false:=by simpa using hlt
 have hi:i=r.decls.length:=by omega
 subst hi;repeat' ((with_reducible apply wr)<;>try simp only [go_sem,seval,hd])
 rw [<- hHH];exact B3u (fun h=>by rw [hno h];rfl) (by simp) (J9 _)
end Go.Proofs.YtnmkkggfgdfmeaaGreatDoor
set_option maxHeartbeats 4000000
namespace Go.Proofs.YtnmkkggfgdfmeaaGreatDoor
open Go.Eng (IC IOper DReg IFn B8)
open Go.Sym
abbrev x22:XT Tryz.prog 22:=mkF (by unfold B8;conv=>lhs;reduce;simp only [seval,u8n]) (fun h=>by conv=>lhs;cbv)
instance t22:FT Tryz.prog 22 x22.d:=x22.ft
abbrev x53:XT Tryz.prog 53:=mkF (by unfold B8;conv=>lhs;reduce;simp only [seval,u8n]) (fun h=>by conv=>lhs;cbv)
instance t53:FT Tryz.prog 53 x53.d:=x53.ft
abbrev x54:XT Tryz.prog 54:=mkF (by unfold B8;conv=>lhs;reduce;simp only [seval,u8n]) (fun h=>by conv=>lhs;cbv)
instance t54:FT Tryz.prog 54 x54.d:=x54.ft
abbrev x24:XT Tryz.prog 24:=mkF (by unfold B8;conv=>lhs;reduce;simp only [seval,u8n]) (fun h=>by conv=>lhs;cbv)
instance t24:FT Tryz.prog 24 x24.d:=x24.ft
abbrev x25:XT Tryz.prog 25:=mkF (by unfold B8;conv=>lhs;reduce;simp only [seval,u8n]) (fun h=>by conv=>lhs;cbv)
instance t25:FT Tryz.prog 25 x25.d:=x25.ft
abbrev x139:XT Tryz.prog 139:=mkF (by unfold B8;conv=>lhs;reduce;simp only [seval,u8n]) (fun h=>by conv=>lhs;cbv)
instance t139:FT Tryz.prog 139 x139.d:=x139.ft
abbrev x107:XT Tryz.prog 107:=mkF (by unfold B8;conv=>lhs;reduce;simp only [seval,u8n]) (fun h=>by conv=>lhs;cbv)
instance t107:FT Tryz.prog 107 x107.d:=x107.ft
abbrev x69:XT Tryz.prog 69:=mkF (by unfold B8;conv=>lhs;reduce;simp only [seval,u8n]) (fun h=>by conv=>lhs;cbv)
instance t69:FT Tryz.prog 69 x69.d:=x69.ft
abbrev x35:XT Tryz.prog 35:=mkF (by unfold B8;conv=>lhs;reduce;simp only [seval,u8n]) (fun h=>by conv=>lhs;cbv)
instance t35:FT Tryz.prog 35 x35.d:=x35.ft
abbrev x14:XT Tryz.prog 14:=mkF (by unfold B8;conv=>lhs;reduce;simp only [seval,u8n]) (fun h=>by conv=>lhs;cbv)
instance t14:FT Tryz.prog 14 x14.d:=x14.ft
abbrev x13:XT Tryz.prog 13:=mkF (by unfold B8;conv=>lhs;reduce;simp only [seval,u8n]) (fun h=>by conv=>lhs;cbv)
instance t13:FT Tryz.prog 13 x13.d:=x13.ft
abbrev x12:XT Tryz.prog 12:=mkF (by unfold B8;conv=>lhs;reduce;simp only [seval,u8n]) (fun h=>by conv=>lhs;cbv)
instance t12:FT Tryz.prog 12 x12.d:=x12.ft
abbrev x3:XT Tryz.prog 3:=mkF (by unfold B8;conv=>lhs;reduce;simp only [seval,u8n]) (fun h=>by conv=>lhs;cbv)
abbrev x5:XT Tryz.prog 5:=mkF (by unfold B8;conv=>lhs;reduce;simp only [seval,u8n]) (fun h=>by conv=>lhs;cbv)
instance t5:FT Tryz.prog 5 x5.d:=x5.ft
end Go.Proofs.YtnmkkggfgdfmeaaGreatDoor
set_option maxHeartbeats 8000000
namespace Go.Proofs.YtnmkkggfgdfmeaaGreatDoor
open Go.Eng (IC IOper DReg IFn B8)
open Go.Sym Go.Pb
theorem D6x (r:Ru):∃ a b:Int,A9c r=.tup [I64 a,I64 b]:=by
 unfold A9c erV;repeat' split
 all_goals exact ⟨_,_,rfl⟩
theorem c_checks (r:Ru) (hB:r.sz<4000000):PC Tryz.prog 12 [r.v] (.bool true):=by
 have h1:=c_Check32 r hB;have h2:=c_CheckR r hB;obtain ⟨a,b,hab⟩:=D6x r;rw [hab] at h1 h2;refine PC.ofT A9 rfl (A0B rfl) (by simp [Ru.v,DV.nlL,DV.nl,H4,G9]) rfl ?_;have hrv:r.v=.agg [C8 r.decls,D5 r.modes]:=rfl;rw [hrv] at h1 h2 ⊢;repeat' ((with_reducible first|apply wr|refine cpc h1 ?_|refine cpc h2 ?_|fail)<;>try simp only [go_sem,seval])
 all_goals exact A6 rfl
def C9t:List UInt8:=[108,97,109,112,32,108,32,51,59,32,109,111,100,101,32,109,32,49,32,123,32,111,110,32,115,116,97,114,116,32,123,32,115,99,111,114,101,32,108,59,32,125,32,125]
def C9s:List UInt8:=[108,97,109,112,32,108,32,51,59,32,118,97,114,32,118,32,48,59,32,109,111,100,101,32,109,32,49,32,123,32,111,110,32,115,116,97,114,116,32,123,32,108,105,103,104,116,32,108,32,56,59,32,125,32,125]
def ru1:Ru:=⟨[⟨3,[108],3,0⟩],[⟨[109],1,[⟨1,[],[.mk 4 [] [] [.mk 2 0 [108] [] 38] [] [] 32],21⟩],10⟩]⟩
def ru2:Ru:=⟨[⟨3,[108],3,0⟩,⟨6,[118],0,10⟩],[⟨[109],1,[⟨1,[],[.mk 8 [108] [] [.mk 1 8 [] [] 49] [] [] 41],30⟩],19⟩]⟩
theorem C4d {s:List UInt8} {L:List Tok} {r:Ru} {i:Nat} {p o q:Int} (h1:F4 s=(L,0,0)) (N:Nat) (h2:∀ n,A4e L s.length (n+N) rd0=some (r,⟨i,0,p,o,q⟩)):O0 s=(r,0,0):=by
 have hE:Evt (fun f=>A4e L s.length f rd0) (r,⟨i,0,p,o,q⟩):=⟨N,fun f hf=>by
  obtain ⟨n,rfl⟩:∃ n,f=n+N:=⟨f-N,by omega⟩;exact h2 n⟩
 have hr:=Evt.uniq (A3j L s.length) hE;unfold O0;dsimp only;rw [h1];dsimp only;rw [if_neg (by decide),hr,if_neg (by show ¬ ((0:Int) == 0)=false;decide)]
theorem E1z:O0 C9t=(ru1,0,0):=C4d (L:=(F4 C9t).1) (by decide +kernel) 40 (fun n=>rfl)
theorem E1y:O0 C9s=(ru2,0,0):=C4d (L:=(F4 C9s).1) (by decide +kernel) 40 (fun n=>rfl)
theorem E4g:A9c ru1=.tup [I64 38,I64 44]:=by rfl
theorem E4f:A9c ru2=.tup [I64 0,I64 0]:=by rfl
theorem E1p:C1u ru2=.lst [.str [118]]:=by rfl
theorem E2k:C4v ru2 [108]=.tup [I64 3,I64 3]:=by rfl
theorem c_sane:PC Tryz.prog 14 [] (.bool true):=by
 have p1:=c_Parse C9t (by decide);have p2:=c_Parse C9s (by decide);rw [E1z] at p1;rw [E1y] at p2;have k1:=c_Check32 ru1 (by decide);have k2:=c_Check32 ru2 (by decide);rw [E4g] at k1;rw [E4f] at k2;have u2:=c_Unused32 ru2 (by decide);rw [E1p] at u2;have l2:=c_Lookup32 ru2 [108] (by decide);rw [E2k] at l2;dsimp only [C4e] at p1 p2;have e1:ru1.v=.agg [C8 ru1.decls,D5 ru1.modes]:=rfl;have e2:ru2.v=.agg [C8 ru2.decls,D5 ru2.modes]:=rfl;rw [e1] at p1 k1;rw [e2] at p2 k2 u2 l2;generalize ru1.decls.map Dc.v=d1 at *;generalize ru1.modes.map Md.v=m1 at *;generalize ru2.decls.map Dc.v=d2 at *;generalize ru2.modes.map Md.v=m2 at *;unfold C9t at p1;unfold C9s at p2;refine PC.ofT A9 rfl (A0B rfl) (by simp [DV.nlL,DV.nl]) (by simp [DV.nlL,DV.nl]) ?_;repeat' ((with_reducible first|apply wr|refine cpc p1 ?_|refine cpc p2 ?_|refine cpc k1 ?_|refine cpc k2 ?_|refine cpc u2 ?_|refine cpc l2 ?_|fail)<;>try simp only [go_sem,seval])
 all_goals exact A6 rfl
end Go.Proofs.YtnmkkggfgdfmeaaGreatDoor
namespace Go.Pb
variable [Go.Sym.Tab]
open Go.Sym
def nxK (L:List UInt8) (n i:Nat):Nat × Nat:=if h:i<L.length then ((L[i]).toNat % n,i+1) else (0,i)
def Z3:List (List UInt8):=[[115,119,48],[99,111,105,108,48],[108,97,109,112,48],[118,48],[116,109,48],[101,118,48],[109,111,100,101,48],[110,111,110,101],[115,110,100,48],[115,104,111,119,48]]
def nmK (L:List UInt8) (w:Nat) (p:List UInt8) (n i:Nat):List UInt8 × Nat :=
 let a:=nxK L w i
 if 0<w/\a.1+1=w then
  let b:=nxK L 10 a.2
  (Z3.getD b.1 [],b.2)
 else
  let b:=nxK L n (if 0<w then a.2 else i)
  (p++Q9 (b.1:Int),b.2)
theorem B1w (L:List UInt8) (n i:Nat):i<=(nxK L n i).2:=by unfold nxK;split<;>simp
theorem K7 (L:List UInt8) {n:Nat} (i:Nat) (h:0<n):(nxK L n i).1<n:=by
 unfold nxK;split
 ·exact A2T _ h
 ·exact h
abbrev Mk:=List UInt8 × Nat
def D7a:List (List UInt8):=[[50,49,52,55,52,56,51,54,52,55],[49,48,48,48,48,48,48],[54,53,53,51,54],[49,48,48,48,48,48]]
def B7n:List (List UInt8):=[[43],[45],[42],[47],[37]]
def C1h:List (List UInt8):=[[60],[60,61],[62],[62,61],[61,61],[33,61]]
def bl0 (L:List UInt8) (w i:Nat):Mk :=
 let k:=nxK L 5 i
 if k.1=0 then ([116,114,117,101],k.2)
 else if k.1=1 then ([102,97,108,115,101],k.2)
 else if k.1=2 then let a:=nmK L w [109,111,100,101] 3 k.2;([97,99,116,105,118,101,32]++a.1,a.2)
 else let a:=nmK L w [115,119] 4 k.2;([99,108,111,115,101,100,32]++a.1,a.2)
def in1 (L:List UInt8) (w i:Nat):Mk :=
 let k:=nxK L 7 i
 if k.1=0\/k.1=1 then nmK L w [118] 3 k.2
 else if k.1=2 then ([112,108,97,121,101,114],k.2)
 else if k.1=3 then ([98,97,108,108],k.2)
 else if k.1=4 then let a:=nmK L w [116,109] 2 k.2;([108,101,102,116,32]++a.1,a.2)
 else if k.1=5 then let j:=nxK L 4 k.2;(D7a.getD j.1 [],j.2)
 else let j:=nxK L 12 k.2;(Q9 (j.1:Int),j.2)
def wlK (L:List UInt8) (w:Nat) (f g:Nat->Mk) (i:Nat):Mk :=
 let k:=nxK L (4 * w) i
 if 0<w/\k.1=1 then f k.2 else g (if 0<w then k.2 else i)
def in0 (L:List UInt8) (w:Nat):Nat->Mk:=wlK L w (bl0 L w) (in1 L w)
mutual
def inK (L:List UInt8) (w:Nat):Nat->Nat->Mk
 | 0,i=>in0 L w i
 | d+1,i=>wlK L w (blK L w d) (fun i =>
   let k:=nxK L 5 i
   if k.1=0 then in0 L w k.2
   else if k.1=1 then let a:=in0 L w k.2;([45]++a.1,a.2)
   else
    let a:=inK L w d k.2
    let c:=inK L w d a.2
    let o:=nxK L 5 c.2
    (((((([40]++a.1)++[32])++B7n.getD o.1 [])++[32])++c.1)++[41],o.2)) i
def blK (L:List UInt8) (w:Nat):Nat->Nat->Mk
 | 0,i=>bl0 L w i
 | d+1,i =>
  let k:=nxK L 6 i
  if k.1=0 then let a:=bl0 L w k.2;([33]++a.1,a.2)
  else if k.1=1 then
   let a:=blK L w d k.2
   let c:=blK L w d a.2
   (((([40]++a.1)++[32,38,38,32])++c.1)++[41],c.2)
  else if k.1=2 then
   let a:=blK L w d k.2
   let c:=blK L w d a.2
   (((([40]++a.1)++[32,124,124,32])++c.1)++[41],c.2)
  else
   let a:=inK L w d k.2
   let o:=nxK L 6 a.2
   let c:=inK L w d o.2
   (((a.1++[32])++C1h.getD o.1 [])++[32]++c.1,c.2)
end
end Go.Pb
namespace Go.Proofs.YtnmkkggfgdfmeaaGreatDoor
open Go.Eng (IC IOper DReg IFn B8)
open Go.Sym Go.Pb
abbrev mkB (L:List UInt8) (w i:Nat):Blk:=⟨0,true,[.lst (bytesC L),I64 i,I64 w]⟩
theorem A0z {L:List UInt8} {i:Nat} {b:UInt8} (h:L[i]? = some b):(bytesC L)[i]? = some (.int .u8 (b.toNat:Int)):=by
 simp [bytesC,h]
theorem c_Next (L:List UInt8) (hL:L.length<=300) (w i:Nat) (hi:i<=300) (n:Nat) (hn:0<n) (hn2:n<=1000) (H:Hp) (cc t:Nat) (ht:H t=some (mkB L w i)) (htc:t<cc) :
  AC Tryz.prog 53 [.ptr t 0,I64 n] H cc (fun v H' c'=>v=I64 (nxK L n i).1/\H'=H.upd t (mkB L w (nxK L n i).2)):=by
 refine AC.bodyT A9 rfl (A0B rfl) fun hfr=>?_;have hlen:(bytesC L).length=L.length:=by simp [bytesC]
 unfold nxK;by_cases hlt:i<L.length
 ·have hd:decide ((i:Int)≥L.length)=false:=by simp;omega
  have hg:=A0z (A0C hlt);rw [dif_pos hlt];generalize L[i]=b at hg;have hw:=w64 (n:=(i:Int)+1) (by omega) (by omega);have hw3:IntKind.i64.wrap ((i:Int)+1-1)=(i:Int):=by rw [w64 (by omega) (by omega)];omega
  have hb:=b.toNat_lt;have hw4:=w64 (n:=(b.toNat:Int)) (by omega) (by omega);have hrm:binR .rem (.int .i64 (b.toNat:Int)) (I64 (n:Int))=some (I64 ((b.toNat % n:Nat):Int)):=by
   rw [U7 (by omega)];rfl
  repeat' ((with_reducible apply wr)<;>try simp only [go_sem,seval,ht,hd,hg,hw,hw3,hw4,hrm,hlen,A0,A1])
  exact ⟨_,_,GL.refl _ _,rfl,rfl⟩
 ·have hd:decide ((i:Int)≥L.length)=true:=by simp;omega
  rw [dif_neg hlt];repeat' ((with_reducible apply wr)<;>try simp only [go_sem,seval,ht,hd,hlen,A0,A1])
  exact ⟨_,_,GL.refl _ _,rfl,(upd_same ht).symm⟩
theorem G1 {L:List UInt8} (hL:L.length<=300) {n i:Nat} (hi:i<=300):(nxK L n i).2<=300:=by
 unfold nxK;split<;>simp<;>omega
theorem c_name32 (L:List UInt8) (hL:L.length<=300) (w i:Nat) (hw:w<=100) (hi:i<=300) (p:List UInt8) (hp:p.length<=100) (n:Nat) (hn:0<n) (hn2:n<=1000) (H:Hp) (cc t:Nat) (ht:H t=some (mkB L w i)) (htc:t<cc) :
  AC Tryz.prog 54 [.ptr t 0,.str p,I64 n] H cc (fun v H' c'=>v=.str (nmK L w p n i).1/\H'=H.upd t (mkB L w (nmK L w p n i).2)):=by
 refine AC.bodyT A9 rfl (A0B rfl) fun hfr=>?_;unfold nmK;by_cases h0:0<w
 ·have q0:decide ((w:Int)>0)=true:=by simpa using h0
  repeat' ((with_reducible apply wr)<;>try simp only [go_sem,seval,ht,q0,A0,A1])
  refine AC.call (c_Next L hL w i hi w h0 (by omega) _ _ t ht (by omega)) ?_;rintro v' H' c2 ⟨rfl,rfl⟩ hc2;have hi2:=G1 hL (n:=w) hi;have hw1:=w64 (n:=(w:Int)-1) (by omega) (by omega);simp only [go_sem,seval,A0,A1];repeat' ((with_reducible apply wr)<;>try simp only [go_sem,seval,A0,A1,hw1])
  refine ⟨by and_intros<;>(rw [A2 (by omega)];exact hfr _ (by omega)),?_⟩;by_cases hq:(nxK L w i).1+1=w
  ·have qq:(((nxK L w i).1:Int) == IntKind.i64.wrap ((w:Int)-1))=true:=by rw [hw1];simp;omega
   rw [if_pos ⟨h0,hq⟩];repeat' ((with_reducible apply wr)<;>try simp only [go_sem,seval,A0,A1,qq])
   refine AC.call (c_Next L hL w _ hi2 10 (by decide) (by decide) _ _ t (by rw [A2 (by omega)];exact A0) (by omega)) ?_;rintro v' H' c3 ⟨rfl,rfl⟩ hc3;have hlt:=K7 L (nxK L w i).2 (n:=10) (by decide);generalize (nxK L 10 (nxK L w i).2)=kq at hlt ⊢;obtain ⟨k,i3⟩:=kq;dsimp only at hlt ⊢;have hia:I1 1 (.slc c2 0 10) (I64 (k:Int))=some (.ptr c2 k):=by simp [I1];omega
   have hld:([.str [115,119,48],.str [99,111,105,108,48],.str [108,97,109,112,48],.str [118,48],.str [116,109,48],.str [101,118,48],.str [109,111,100,101,48],.str [110,111,110,101],.str [115,110,100,48],.str [115,104,111,119,48]]:List DV)[k]? = some (.str (Z3.getD k [])):=by
    match k,hlt with
    | 0,_=>rfl
    | 1,_=>rfl
    | 2,_=>rfl
    | 3,_=>rfl
    | 4,_=>rfl
    | 5,_=>rfl
    | 6,_=>rfl
    | 7,_=>rfl
    | 8,_=>rfl
    | 9,_=>rfl
   have ne0:=M8 t c2 (by omega);generalize hWL:([.str [115,119,48],.str [99,111,105,108,48],.str [108,97,109,112,48],.str [118,48],.str [116,109,48],.str [101,118,48],.str [109,111,100,101,48],.str [110,111,110,101],.str [115,110,100,48],.str [115,104,111,119,48]]:List DV)=WL at hld ⊢;simp only [go_sem,seval,A0,A1,ne0,hia,hld];repeat' ((with_reducible apply wr)<;>try simp only [go_sem,seval,A0,A1,ne0,hia,hld])
   refine ⟨_,_,GL.less' (fun j b hj=>?_),rfl,rfl⟩;by_cases e:j=t
   ·subst e;rw [A0] at hj ⊢;exact hj
   ·rw [A2 e] at hj;have:j≠c2:=by rintro rfl;rw [hfr _ (by omega)] at hj;cases hj
    rw [A2 e,A2 this,A2 e];exact hj
  ·have qq:(((nxK L w i).1:Int) == IntKind.i64.wrap ((w:Int)-1))=false:=by rw [hw1];simp;omega
   rw [if_neg (fun h=>hq h.2),if_pos h0];repeat' ((with_reducible apply wr)<;>try simp only [go_sem,seval,A0,A1,qq])
   refine AC.call (c_Next L hL w _ hi2 n hn hn2 _ _ t A0 (by omega)) ?_;rintro v' H' c3 ⟨rfl,rfl⟩ hc3;have hlt:=K7 L (nxK L w i).2 hn;have hdc:=c_Dec' ((nxK L n (nxK L w i).2).1:Int) (by omega) (by omega);have hdl:=O7 (n:=((nxK L n (nxK L w i).2).1:Int)) (by omega) (by omega);have hadd:=P9 (s:=p) (t:=Q9 ((nxK L n (nxK L w i).2).1:Int)) (by omega);simp only [go_sem,seval,A1];repeat' ((with_reducible first|apply wr|refine cpc hdc ?_|fail)<;>try simp only [go_sem,seval,A0,A1,hadd])
   exact ⟨_,_,GL.refl _ _,rfl,rfl⟩
 ·have q0:decide ((w:Int)>0)=false:=by simpa using h0
  rw [if_neg (fun h=>h0 h.1),if_neg h0];repeat' ((with_reducible apply wr)<;>try simp only [go_sem,seval,ht,q0,A0,A1])
  refine ⟨by and_intros<;>exact hfr _ (by omega),?_⟩;repeat' ((with_reducible apply wr)<;>try simp only [go_sem,seval,ht,q0,A0,A1])
  refine AC.call (c_Next L hL w i hi n hn hn2 _ _ t ht (by omega)) ?_;rintro v' H' c2 ⟨rfl,rfl⟩ hc2;have hlt:=K7 L i hn;have hdc:=c_Dec' ((nxK L n i).1:Int) (by omega) (by omega);have hdl:=O7 (n:=((nxK L n i).1:Int)) (by omega) (by omega);have hadd:=P9 (s:=p) (t:=Q9 ((nxK L n i).1:Int)) (by omega);simp only [go_sem,seval];repeat' ((with_reducible first|apply wr|refine cpc hdc ?_|fail)<;>try simp only [go_sem,seval,A0,A1,hadd])
  exact ⟨_,_,GL.refl _ _,rfl,rfl⟩
theorem A4n {L:List UInt8} (hL:L.length<=300) {w n i:Nat} {p:List UInt8} (hi:i<=300):(nmK L w p n i).2<=300:=by
 unfold nmK;dsimp only;split
 ·exact G1 hL (G1 hL hi)
 ·split
  ·exact G1 hL (G1 hL hi)
  ·exact G1 hL hi
theorem A0u {L:List UInt8} {w n i:Nat} {p:List UInt8} (hn:0<n) (hn2:n<=1000):(nmK L w p n i).1.length<=p.length+100:=by
 unfold nmK;dsimp only;split
 ·have:=K7 L (nxK L w i).2 (n:=10) (by decide);generalize (nxK L 10 (nxK L w i).2).1=k at this
  match k,this with
  | 0,_=>simp [Z3]
  | 1,_=>simp [Z3]
  | 2,_=>simp [Z3]
  | 3,_=>simp [Z3]
  | 4,_=>simp [Z3]
  | 5,_=>simp [Z3]
  | 6,_=>simp [Z3]
  | 7,_=>simp [Z3]
  | 8,_=>simp [Z3]
  | 9,_=>simp [Z3]
 ·have:=K7 L (if 0<w then (nxK L w i).2 else i) hn;have h:=O7 (n:=((nxK L n (if 0<w then (nxK L w i).2 else i)).1:Int)) (by omega) (by omega);rw [A0A];omega
theorem c_bl0 (L:List UInt8) (hL:L.length<=300) (w:Nat) (hw:w<=100) (i:Nat) (hi:i<=300) (d:Int) (hd:d<=0) (H:Hp) (cc t:Nat) (ht:H t=some (mkB L w i)) (htc:t<cc) :
  AC Tryz.prog 25 [.ptr t 0,I64 d] H cc (fun v H' c'=>v=.str (bl0 L w i).1/\H'=H.upd t (mkB L w (bl0 L w i).2)):=by
 refine AC.bodyT A9 rfl (A0B rfl) fun hfr=>?_;have qd:decide (d<=0)=true:=by simpa using hd
 unfold bl0;repeat' ((with_reducible apply wr)<;>try simp only [go_sem,seval,qd])
 refine AC.call (c_Next L hL w i hi 5 (by decide) (by decide) _ _ t ht (by omega)) ?_;rintro v' H' c2 ⟨rfl,rfl⟩ hc2;have hi2:=G1 hL (n:=5) hi;generalize nxK L 5 i=k at hi2 ⊢;obtain ⟨k,i2⟩:=k;dsimp only at hi2 ⊢;by_cases k0:k=0
 ·subst k0;simp only [go_sem,seval];repeat' ((with_reducible apply wr)<;>try simp only [go_sem,seval])
  exact ⟨_,_,GL.refl _ _,rfl,rfl⟩
 have q0:((k:Int) == 0)=false:=by simpa using k0
 rw [if_neg k0];by_cases k1:k=1
 ·subst k1;simp only [go_sem,seval];repeat' ((with_reducible apply wr)<;>try simp only [go_sem,seval])
  exact ⟨_,_,GL.refl _ _,rfl,rfl⟩
 have q1:((k:Int) == 1)=false:=by simp;omega
 rw [if_neg k1];by_cases k2:k=2
 ·subst k2;rw [if_pos rfl];simp only [go_sem,seval];repeat' ((with_reducible apply wr)<;>try simp only [go_sem,seval])
  refine AC.call (c_name32 L hL w i2 hw hi2 [109,111,100,101] (by decide) 3 (by decide) (by decide) _ _ t A0 (by omega)) ?_;rintro v' H' c3 ⟨rfl,rfl⟩ hc3;have hl:=A0u (L:=L) (w:=w) (i:=i2) (p:=[109,111,100,101]) (n:=3) (by decide) (by decide);generalize nmK L w [109,111,100,101] 3 i2=a at hl ⊢;have hadd:=P9 (s:=[97,99,116,105,118,101,32]) (t:=a.1) (by simp at hl ⊢;omega);simp only [go_sem,seval,A1,hadd];repeat' ((with_reducible apply wr)<;>try simp only [go_sem,seval,A1,hadd])
  exact ⟨_,_,GL.refl _ _,rfl,rfl⟩
 have q2:((k:Int) == 2)=false:=by simp;omega
 rw [if_neg k2];simp only [go_sem,seval,q0,q1,q2];repeat' ((with_reducible apply wr)<;>try simp only [go_sem,seval,q0,q1,q2])
 refine AC.call (c_name32 L hL w i2 hw hi2 [115,119] (by decide) 4 (by decide) (by decide) _ _ t A0 (by omega)) ?_;rintro v' H' c3 ⟨rfl,rfl⟩ hc3;have hl:=A0u (L:=L) (w:=w) (i:=i2) (p:=[115,119]) (n:=4) (by decide) (by decide);generalize nmK L w [115,119] 4 i2=a at hl ⊢;have hadd:=P9 (s:=[99,108,111,115,101,100,32]) (t:=a.1) (by simp at hl ⊢;omega);simp only [go_sem,seval,A1,hadd];repeat' ((with_reducible apply wr)<;>try simp only [go_sem,seval,A1,hadd])
 exact ⟨_,_,GL.refl _ _,rfl,rfl⟩
theorem A2p {H:Hp} {cc t c2:Nat} {b0 b1 b:Blk} {ds:List DV} (hfr:∀ i,cc<=i->H i=none) (htc:t<cc) (hc:cc<=c2):GL (((H.upd t b0).upd c2 b1).upd t b) ds (H.upd t b) ds:=GL.less' fun j q hj=>by
 by_cases e:j=t
 ·subst e;rw [A0] at hj ⊢;exact hj
 ·rw [A2 e] at hj;have:j≠c2:=by rintro rfl;rw [hfr _ (by omega)] at hj;cases hj
  rw [A2 e,A2 this,A2 e];exact hj
theorem c_in0 (L:List UInt8) (hL:L.length<=300) (w:Nat) (hw:w<=100) (i:Nat) (hi:i<=300) (d:Int) (hd:d<=0) (hd2 : -1000<=d) (H:Hp) (cc t:Nat) (ht:H t=some (mkB L w i)) (htc:t<cc) :
  AC Tryz.prog 24 [.ptr t 0,I64 d] H cc (fun v H' c'=>v=.str (in0 L w i).1/\H'=H.upd t (mkB L w (in0 L w i).2)):=by
 refine AC.bodyT A9 rfl (A0B rfl) fun hfr=>?_;have qd:decide (d<=0)=true:=by simpa using hd
 have kI:∀ (j c0:Nat),j<=300->cc<=c0->IW Tryz.prog 86 (pz Tryz.prog 24 (.i (.i (.o .h)))) ⟨tm [(0,.ptr t 0),(1,I64 d)],H.upd t (mkB L w j),c0⟩ (rt [.tmp 4] fun v H' c' => ∃ v2 H2,GL H' [v] H2 [v2]/\v2=.str (in1 L w j).1/\H2=H.upd t (mkB L w (in1 L w j).2)):=by
  intro j c0 hj hc0;unfold in1;repeat' ((with_reducible apply wr)<;>try simp only [go_sem,seval,qd])
  refine AC.call (c_Next L hL w j hj 7 (by decide) (by decide) _ _ t A0 (by omega)) ?_;rintro v' H' c2 ⟨rfl,rfl⟩ hc2;rw [A1];have hi2:=G1 hL (n:=7) hj;generalize nxK L 7 j=k at hi2 ⊢;obtain ⟨k,i2⟩:=k;dsimp only at hi2 ⊢;by_cases k0:k=0
  ·subst k0;rw [if_pos (.inl rfl)];simp only [go_sem,seval];repeat' ((with_reducible apply wr)<;>try simp only [go_sem,seval])
   refine AC.call (c_name32 L hL w i2 hw hi2 [118] (by decide) 3 (by decide) (by decide) _ _ t A0 (by omega)) ?_;rintro v' H' c3 ⟨rfl,rfl⟩ hc3;rw [A1];simp only [go_sem,seval];repeat' ((with_reducible apply wr)<;>try simp only [go_sem,seval])
   exact ⟨_,_,GL.refl _ _,rfl,rfl⟩
  have q0:((k:Int) == 0)=false:=by simpa using k0
  by_cases k1:k=1
  ·subst k1;rw [if_pos (.inr rfl)];simp only [go_sem,seval];repeat' ((with_reducible apply wr)<;>try simp only [go_sem,seval])
   refine AC.call (c_name32 L hL w i2 hw hi2 [118] (by decide) 3 (by decide) (by decide) _ _ t A0 (by omega)) ?_;rintro v' H' c3 ⟨rfl,rfl⟩ hc3;rw [A1];simp only [go_sem,seval];repeat' ((with_reducible apply wr)<;>try simp only [go_sem,seval])
   exact ⟨_,_,GL.refl _ _,rfl,rfl⟩
  have q1:((k:Int) == 1)=false:=by simp;omega
  rw [if_neg (by omega)];by_cases k2:k=2
  ·subst k2;simp only [go_sem,seval];repeat' ((with_reducible apply wr)<;>try simp only [go_sem,seval])
   exact ⟨_,_,GL.refl _ _,rfl,rfl⟩
  have q2:((k:Int) == 2)=false:=by simp;omega
  rw [if_neg k2];by_cases k3:k=3
  ·subst k3;simp only [go_sem,seval];repeat' ((with_reducible apply wr)<;>try simp only [go_sem,seval])
   exact ⟨_,_,GL.refl _ _,rfl,rfl⟩
  have q3:((k:Int) == 3)=false:=by simp;omega
  rw [if_neg k3];by_cases k4:k=4
  ·subst k4;rw [if_pos rfl];simp only [go_sem,seval];repeat' ((with_reducible apply wr)<;>try simp only [go_sem,seval])
   refine AC.call (c_name32 L hL w i2 hw hi2 [116,109] (by decide) 2 (by decide) (by decide) _ _ t A0 (by omega)) ?_;rintro v' H' c3 ⟨rfl,rfl⟩ hc3;have hl:=A0u (L:=L) (w:=w) (i:=i2) (p:=[116,109]) (n:=2) (by decide) (by decide);generalize nmK L w [116,109] 2 i2=a at hl ⊢;have hadd:=P9 (s:=[108,101,102,116,32]) (t:=a.1) (by simp at hl ⊢;omega);simp only [go_sem,seval,A1,hadd];repeat' ((with_reducible apply wr)<;>try simp only [go_sem,seval,A1,hadd])
   exact ⟨_,_,GL.refl _ _,rfl,rfl⟩
  have q4:((k:Int) == 4)=false:=by simp;omega
  rw [if_neg k4];by_cases k5:k=5
  ·subst k5;rw [if_pos rfl];simp only [go_sem,seval];repeat' ((with_reducible apply wr)<;>try simp only [go_sem,seval])
   refine AC.call (c_Next L hL w i2 hi2 4 (by decide) (by decide) _ _ t (by rw [A2 (by omega)];exact A0) (by omega)) ?_;rintro v' H' c3 ⟨rfl,rfl⟩ hc3;have hlt:=K7 L i2 (n:=4) (by decide);generalize (nxK L 4 i2)=kq at hlt ⊢;obtain ⟨k,i3⟩:=kq;dsimp only at hlt ⊢;have hia:I1 1 (.slc c2 0 4) (I64 (k:Int))=some (.ptr c2 k):=by simp [I1];omega
   have hld:([.str [50,49,52,55,52,56,51,54,52,55],.str [49,48,48,48,48,48,48],.str [54,53,53,51,54],.str [49,48,48,48,48,48]]:List DV)[k]? = some (.str (D7a.getD k [])):=by
    match k,hlt with
    | 0,_=>rfl
    | 1,_=>rfl
    | 2,_=>rfl
    | 3,_=>rfl
   have ne0:=M8 t c2 (by omega);generalize hWL:([.str [50,49,52,55,52,56,51,54,52,55],.str [49,48,48,48,48,48,48],.str [54,53,53,51,54],.str [49,48,48,48,48,48]]:List DV)=WL at hld ⊢;simp only [go_sem,seval,A0,A1,ne0,hia,hld];repeat' ((with_reducible apply wr)<;>try simp only [go_sem,seval,A0,A1,ne0,hia,hld])
   exact ⟨_,_,A2p hfr htc (by omega),rfl,rfl⟩
  have q5:((k:Int) == 5)=false:=by simp;omega
  rw [if_neg k5];simp only [go_sem,seval,q0,q1,q2,q3,q4,q5];repeat' ((with_reducible apply wr)<;>try simp only [go_sem,seval,q0,q1,q2,q3,q4,q5])
  refine AC.call (c_Next L hL w i2 hi2 12 (by decide) (by decide) _ _ t A0 (by omega)) ?_;rintro v' H' c3 ⟨rfl,rfl⟩ hc3;rw [A1];have hlt:=K7 L i2 (n:=12) (by decide);have hdc:=c_Dec' ((nxK L 12 i2).1:Int) (by omega) (by omega);simp only [go_sem,seval];repeat' ((with_reducible first|apply wr|refine cpc hdc ?_|fail)<;>try simp only [go_sem,seval])
  exact ⟨_,_,GL.refl _ _,rfl,rfl⟩
 unfold in0 wlK;by_cases h0:0<w
 ·have q0:decide ((w:Int)>0)=true:=by simpa using h0
  have hw4:IntKind.i64.wrap (4 * (w:Int))=((4 * w:Nat):Int):=by rw [w64 (by omega) (by omega)];omega
  repeat' ((with_reducible apply wr)<;>try simp only [go_sem,seval,ht,q0,hw4])
  refine AC.call (c_Next L hL w i hi (4 * w) (by omega) (by omega) _ _ t ht (by omega)) ?_;rintro v' H' c2 ⟨rfl,rfl⟩ hc2;have hi2:=G1 hL (n:=4 * w) hi;generalize nxK L (4 * w) i=k at hi2 ⊢;obtain ⟨k,i2⟩:=k;dsimp only at hi2 ⊢;by_cases k1:k=1
  ·subst k1;rw [if_pos ⟨h0,rfl⟩];have hw1:=w64 (n:=d-1) (by omega) (by omega);simp only [go_sem,seval];repeat' ((with_reducible apply wr)<;>try simp only [go_sem,seval,hw1])
   refine AC.call (c_bl0 L hL w hw i2 hi2 (d-1) (by omega) _ _ t A0 (by omega)) ?_;rintro v' H' c3 ⟨rfl,rfl⟩ hc3;rw [A1];simp only [go_sem,seval];repeat' ((with_reducible apply wr)<;>try simp only [go_sem,seval])
   exact ⟨_,_,GL.refl _ _,rfl,rfl⟩
  have q1:((k:Int) == 1)=false:=by simp;omega
  rw [if_neg (fun h=>k1 h.2),if_pos h0];simp only [go_sem,seval,q1];repeat' ((with_reducible first|refine G8 (p:=IW _ _ (pz Tryz.prog 24 (.i (.i (.o .h)))) _ _) ?_|refine wr ?_|fail)<;>try simp only [go_sem,seval,q1])
  exact IW.stage (by simp [C3,tm,Tm.upd]) (kI i2 _ hi2 hc2)
 ·have q0:decide ((w:Int)>0)=false:=by simpa using h0
  rw [if_neg (fun h=>h0 h.1),if_neg h0];have hHt:H=H.upd t (mkB L w i):=(upd_same ht).symm;repeat' ((with_reducible first|refine G8 (p:=IW _ _ (pz Tryz.prog 24 (.i (.i (.o .h)))) _ _) ?_|refine wr ?_|fail)<;>try simp only [go_sem,seval,ht,q0])
  have:=kI i cc hi (A0H _);rw [upd_same ht] at this;exact IW.stage (by simp [C3,tm,Tm.upd]) this
def lnB:Nat->Nat
 | 0=>300
 | d+1=>2 * lnB d+300
theorem C9r (d:Nat):300<=lnB d:=by cases d<;>simp only [lnB]<;>omega
def A9i (n:Nat) (f:Nat->Mk):Prop:=∀ i,i<=300->(f i).1.length<=n/\(f i).2<=300
theorem B1t {L:List UInt8} (hL:L.length<=300) (w:Nat):A9i 300 (bl0 L w):=by
 intro i hi;unfold bl0;dsimp only;have h2:=G1 hL (n:=5) hi;split
 ·exact ⟨by simp,h2⟩
 ·split
  ·exact ⟨by simp,h2⟩
  ·split
   ·have:=A0u (L:=L) (w:=w) (i:=(nxK L 5 i).2) (p:=[109,111,100,101]) (n:=3) (by decide) (by decide);exact ⟨by simp at this ⊢;omega,A4n hL h2⟩
   ·have:=A0u (L:=L) (w:=w) (i:=(nxK L 5 i).2) (p:=[115,119]) (n:=4) (by decide) (by decide);exact ⟨by simp at this ⊢;omega,A4n hL h2⟩
theorem O6 {l:List (List UInt8)} {n:Nat} (h:∀ x∈l,x.length<=n) (k:Nat):(l.getD k []).length<=n:=by
 rw [A0X];cases hk:l[k]? with
 | none=>simp
 | some x=>exact h x (A0W hk)
theorem D4q {L:List UInt8} (hL:L.length<=300) (w:Nat):A9i 300 (in1 L w):=by
 intro i hi;unfold in1;dsimp only;have h2:=G1 hL (n:=7) hi;split
 ·have:=A0u (L:=L) (w:=w) (i:=(nxK L 7 i).2) (p:=[118]) (n:=3) (by decide) (by decide);exact ⟨by simp at this ⊢;omega,A4n hL h2⟩
 ·split
  ·exact ⟨by simp,h2⟩
  ·split
   ·exact ⟨by simp,h2⟩
   ·split
    ·have:=A0u (L:=L) (w:=w) (i:=(nxK L 7 i).2) (p:=[116,109]) (n:=2) (by decide) (by decide);exact ⟨by simp at this ⊢;omega,A4n hL h2⟩
    ·split
     ·exact ⟨A1P (O6 (n:=300) (by decide) _) (by decide),G1 hL h2⟩
     ·have hlt:=K7 L (nxK L 7 i).2 (n:=12) (by decide);have h:=O7 (n:=((nxK L 12 (nxK L 7 i).2).1:Int)) (by omega) (by omega);exact ⟨A1P h (by decide),G1 hL h2⟩
theorem D1n {L:List UInt8} (hL:L.length<=300) {w n:Nat} {f g:Nat->Mk} (hf:A9i n f) (hg:A9i n g):A9i n (wlK L w f g):=by
 intro i hi;unfold wlK;dsimp only;have h2:=G1 hL (n:=4 * w) hi;split
 ·exact hf _ h2
 ·split
  ·exact hg _ h2
  ·exact hg _ hi
theorem A9i.mono {n m:Nat} {f:Nat->Mk} (h:A9i n f) (hnm:n<=m):A9i m f:=fun i hi=>⟨A1P (h i hi).1 hnm,(h i hi).2⟩
theorem B1s {L:List UInt8} (hL:L.length<=300) (w:Nat):A9i 300 (in0 L w):=D1n hL (B1t hL w) (D4q hL w)
theorem A4k {L:List UInt8} (hL:L.length<=300) (w:Nat):∀ d,A9i (lnB d) (inK L w d)/\A9i (lnB d) (blK L w d)
 | 0=>⟨fun i hi=>by rw [inK];exact B1s hL w i hi,fun i hi=>by rw [blK];exact B1t hL w i hi⟩
 | d+1=>by
  obtain ⟨h1,h2⟩:=A4k hL w d;have h300:=C9r d;have e:lnB (d+1)=2 * lnB d+300:=rfl;refine ⟨fun i hi=>?_,fun i hi=>?_⟩
  ·rw [inK];refine D1n hL (h2.mono (by omega)) (fun i hi=>?_) i hi;dsimp only;have hk:=G1 hL (n:=5) hi;split
   ·exact (B1s hL w).mono (by omega) _ hk
   ·split
    ·have:=B1s hL w _ hk;exact ⟨by simp;omega,this.2⟩
    ·have ha:=h1 _ hk;have hc:=h1 _ ha.2;refine ⟨?_,G1 hL hc.2⟩;have ho:=O6 (l:=B7n) (n:=5) (by decide) (nxK L 5 (inK L w d (inK L w d (nxK L 5 i).2).2).2).1;simp only [A0A,A0E,A0F];omega
  ·rw [blK];dsimp only;have hk:=G1 hL (n:=6) hi;split
   ·have:=B1t hL w _ hk;exact ⟨by simp;omega,this.2⟩
   ·split
    ·have ha:=h2 _ hk;have hc:=h2 _ ha.2;exact ⟨by simp only [A0A,A0E,A0F];omega,hc.2⟩
    ·split
     ·have ha:=h2 _ hk;have hc:=h2 _ ha.2;exact ⟨by simp only [A0A,A0E,A0F];omega,hc.2⟩
     ·have ha:=h1 _ hk;have ho:=G1 hL (n:=6) ha.2;have hc:=h1 _ ho;have hg:=O6 (l:=C1h) (n:=5) (by decide) (nxK L 6 (inK L w d (nxK L 6 i).2).2).1;exact ⟨by simp only [A0A,A0E,A0F];omega,hc.2⟩
def InC (L:List UInt8) (w d:Nat):Prop:=∀ (i:Nat) (hi:i<=300) (H:Hp) (cc t:Nat) (ht:H t=some (mkB L w i)) (htc:t<cc),
  AC Tryz.prog 24 [.ptr t 0,I64 d] H cc (fun v H' c'=>v=.str (inK L w d i).1/\H'=H.upd t (mkB L w (inK L w d i).2))
def BlC (L:List UInt8) (w d:Nat):Prop:=∀ (i:Nat) (hi:i<=300) (H:Hp) (cc t:Nat) (ht:H t=some (mkB L w i)) (htc:t<cc),
  AC Tryz.prog 25 [.ptr t 0,I64 d] H cc (fun v H' c'=>v=.str (blK L w d i).1/\H'=H.upd t (mkB L w (blK L w d i).2))
theorem B8z {G:Hp} {k t:Nat} {b:Blk} (h:¬ t=k):M1 (G.upd k b) [k] t=G t:=by
 simp only [M1];rw [if_neg (by simpa using h),A2 h]
theorem A7h {X:Hp} {k t:Nat} {B:Blk} (h:¬ t=k):I5 [k] X ((M1 X [k]).upd t B)=X.upd t B:=by
 funext j
 simp only [I5];by_cases e:j=k
 ·subst e;rw [if_pos (by simp),A2 (Ne.symm h)]
 ·rw [if_neg (by simpa using e)];by_cases e2:j=t
  ·subst e2;rw [A0,A0]
  ·rw [A2 e2,A2 e2];simp only [M1];rw [if_neg (by simpa using e)]
theorem c_bl1 (L:List UInt8) (hL:L.length<=300) (w:Nat) (hw:w<=100) (d:Nat) (hd:d<=10) (h1:InC L w d) (h2:BlC L w d):BlC L w (d+1):=by
 intro i hi H cc t ht htc;obtain ⟨o1,o2⟩:=A4k hL w d;have hB:lnB d<=1000000:=by
  have:∀ d,d<=10->lnB d<=1000000:=by decide
  exact this d hd
 refine AC.bodyT A9 rfl (A0B rfl) fun hfr=>?_;have qd:decide (((d+1:Nat):Int)<=0)=false:=by simp<;>omega
 have hw1:IntKind.i64.wrap (((d+1:Nat):Int)-1)=(d:Int):=by rw [w64 (by omega) (by omega)];omega
 rw [blK];dsimp only;generalize hD:((d+1:Nat):Int)=D at qd hw1 ⊢;repeat' ((with_reducible apply wr)<;>try simp only [go_sem,seval,qd])
 refine AC.call (c_Next L hL w i hi 6 (by decide) (by decide) _ _ t ht (by omega)) ?_;rintro v' H' c2 ⟨rfl,rfl⟩ hc2;have hi2:=G1 hL (n:=6) hi;generalize nxK L 6 i=k at hi2 ⊢;obtain ⟨k,i2⟩:=k;dsimp only at hi2 ⊢;by_cases k0:k=0
 ·subst k0;rw [if_pos rfl];simp only [go_sem,seval];repeat' ((with_reducible apply wr)<;>try simp only [go_sem,seval])
  refine AC.call (c_bl0 L hL w hw i2 hi2 0 (by omega) _ _ t A0 (by omega)) ?_;rintro v' H' c3 ⟨rfl,rfl⟩ hc3;have hl:=(B1t hL w i2 hi2).1;have hadd:=P9 (s:=[33]) (t:=(bl0 L w i2).1) (by simp;omega);rw [A1];simp only [go_sem,seval,hadd];repeat' ((with_reducible apply wr)<;>try simp only [go_sem,seval,hadd])
  exact ⟨_,_,GL.refl _ _,rfl,rfl⟩
 have q0:((k:Int) == 0)=false:=by simpa using k0
 rw [if_neg k0];by_cases k1:k=1
 ·subst k1;rw [if_pos rfl];simp only [go_sem,seval];repeat' ((with_reducible apply wr)<;>try simp only [go_sem,seval,hw1])
  refine AC.call (h2 i2 hi2 _ _ t A0 (by omega)) ?_;rintro v' H' c3 ⟨rfl,rfl⟩ hc3;have hl:=o2 i2 hi2;generalize blK L w d i2=a at hl ⊢;have a1:=P9 (s:=[40]) (t:=a.1) (by simp;omega);have a2:=P9 (s:=40 :: a.1) (t:=[32,38,38,32]) (by simp;omega);rw [A1];simp only [go_sem,seval,a1,a2];repeat' ((with_reducible apply wr)<;>try simp only [go_sem,seval,hw1,a1,a2])
  refine AC.call (h2 a.2 hl.2 _ _ t A0 (by omega)) ?_;rintro v' H' c4 ⟨rfl,rfl⟩ hc4;have hl2:=o2 a.2 hl.2;generalize blK L w d a.2=c at hl2 ⊢;have a3:=P9 (s:=40 :: (a.1++[32,38,38,32])) (t:=c.1) (by simp;omega);have a4:=P9 (s:=40 :: (a.1++[32,38,38,32]++c.1)) (t:=[41]) (by simp;omega);rw [A1];simp only [go_sem,seval,a3,a4];repeat' ((with_reducible apply wr)<;>try simp only [go_sem,seval,a3,a4])
  refine ⟨_,_,GL.refl _ _,?_,rfl⟩;simp
 have q1:((k:Int) == 1)=false:=by simp;omega
 rw [if_neg k1];by_cases k2:k=2
 ·subst k2;rw [if_pos rfl];simp only [go_sem,seval];repeat' ((with_reducible apply wr)<;>try simp only [go_sem,seval,hw1])
  refine AC.call (h2 i2 hi2 _ _ t A0 (by omega)) ?_;rintro v' H' c3 ⟨rfl,rfl⟩ hc3;have hl:=o2 i2 hi2;generalize blK L w d i2=a at hl ⊢;have a1:=P9 (s:=[40]) (t:=a.1) (by simp;omega);have a2:=P9 (s:=40 :: a.1) (t:=[32,124,124,32]) (by simp;omega);rw [A1];simp only [go_sem,seval,a1,a2];repeat' ((with_reducible apply wr)<;>try simp only [go_sem,seval,hw1,a1,a2])
  refine AC.call (h2 a.2 hl.2 _ _ t A0 (by omega)) ?_;rintro v' H' c4 ⟨rfl,rfl⟩ hc4;have hl2:=o2 a.2 hl.2;generalize blK L w d a.2=c at hl2 ⊢;have a3:=P9 (s:=40 :: (a.1++[32,124,124,32])) (t:=c.1) (by simp;omega);have a4:=P9 (s:=40 :: (a.1++[32,124,124,32]++c.1)) (t:=[41]) (by simp;omega);rw [A1];simp only [go_sem,seval,a3,a4];repeat' ((with_reducible apply wr)<;>try simp only [go_sem,seval,a3,a4])
  refine ⟨_,_,GL.refl _ _,?_,rfl⟩;simp
 have q2:((k:Int) == 2)=false:=by simp;omega
 rw [if_neg k2];simp only [go_sem,seval,q0,q1,q2];repeat' ((with_reducible apply wr)<;>try simp only [go_sem,seval,q0,q1,q2,hw1])
 refine AC.call (h1 i2 hi2 _ _ t A0 (by omega)) ?_;rintro v' H' c3 ⟨rfl,rfl⟩ hc3;have hl:=o1 i2 hi2;generalize inK L w d i2=a at hl ⊢;have a1:=P9 (s:=a.1) (t:=[32]) (by simp;omega);rw [A1];simp only [go_sem,seval,a1,hw1];repeat' ((with_reducible apply wr)<;>try simp only [go_sem,seval,hw1,a1])
 refine AC.call (c_Next L hL w a.2 hl.2 6 (by decide) (by decide) _ _ t (by rw [B8z (by omega)];exact A0) (by omega)) ?_;rintro v' H' c4 ⟨rfl,rfl⟩ hc4;have hlt:=K7 L a.2 (n:=6) (by decide);have ho2:=G1 hL (n:=6) hl.2;generalize nxK L 6 a.2=kq at hlt ho2 ⊢;obtain ⟨k3,i3⟩:=kq;dsimp only at hlt ho2 ⊢;have hmg:∀ (X:Hp) (B:Blk),I5 [c3+2] X ((M1 X [c3+2]).upd t B)=X.upd t B:=fun X B=>A7h (by omega);have hia:I1 1 (.slc (c3+2) 0 6) (I64 (k3:Int))=some (.ptr (c3+2) k3):=by simp [I1];omega
 have hld:([.str [60],.str [60,61],.str [62],.str [62,61],.str [61,61],.str [33,61]]:List DV)[k3]? = some (.str (C1h.getD k3 [])):=by
  match k3,hlt with
  | 0,_=>rfl
  | 1,_=>rfl
  | 2,_=>rfl
  | 3,_=>rfl
  | 4,_=>rfl
  | 5,_=>rfl
 have hg:=O6 (l:=C1h) (n:=5) (by decide) k3;generalize C1h.getD k3 []=og at hg hld ⊢;generalize hWL:([.str [60],.str [60,61],.str [62],.str [62,61],.str [61,61],.str [33,61]]:List DV)=WL at hld ⊢;have ne0:=M8 t (c3+2) (by omega);have a2:=P9 (s:=a.1++[32]) (t:=og) (by simp;omega);have a3:=P9 (s:=a.1++[32]++og) (t:=[32]) (by simp;omega);simp only [go_sem,seval,hmg,A0,A1,ne0,hia,hld,a1,a2,a3,hw1];refine ⟨by and_intros<;>first|rfl|(rw [<- hWL];done)|((repeat rw [A2 (by omega)]);exact hfr _ (by omega)),?_⟩;refine AC.call (h1 i3 ho2 _ _ t (by simp only [M1];rw [if_neg (by simp;omega)];exact A0) (by omega)) ?_;rintro v' H' c5 ⟨rfl,rfl⟩ hc5;have hl3:=o1 i3 ho2;generalize inK L w d i3=c at hl3 ⊢;have a4:=P9 (s:=a.1++[32]++og++[32]) (t:=c.1) (by simp;omega);simp only [go_sem,seval,hmg,A0,A1,ne0,hia,hld,a1,a2,a3,a4,hw1];refine ⟨by and_intros<;>first|rfl|(rw [<- hWL];done)|((repeat rw [A2 (by omega)]);exact hfr _ (by omega)),?_⟩;repeat' ((with_reducible apply wr)<;>try simp only [go_sem,seval])
 exact ⟨_,_,A2p hfr htc (by omega),by simp,rfl⟩
def in2 (L:List UInt8) (w d i:Nat):Mk :=
 let k:=nxK L 5 i
 if k.1=0 then in0 L w k.2
 else if k.1=1 then let a:=in0 L w k.2;([45]++a.1,a.2)
 else
  let a:=inK L w d k.2
  let c:=inK L w d a.2
  let o:=nxK L 5 c.2
  (((((([40]++a.1)++[32])++B7n.getD o.1 [])++[32])++c.1)++[41],o.2)
theorem c_in2 (L:List UInt8) (hL:L.length<=300) (w:Nat) (hw:w<=100) (d:Nat) (hd:d<=10) (h1:InC L w d) (h2:BlC L w d):InC L w (d+1):=by
 intro i hi H cc t ht htc;obtain ⟨o1,o2⟩:=A4k hL w d;have hB:lnB d<=1000000:=by
  have:∀ d,d<=10->lnB d<=1000000:=by decide
  exact this d hd
 refine AC.bodyT A9 rfl (A0B rfl) fun hfr=>?_;have qd:decide (((d+1:Nat):Int)<=0)=false:=by simp<;>omega
 have hw1:IntKind.i64.wrap (((d+1:Nat):Int)-1)=(d:Int):=by rw [w64 (by omega) (by omega)];omega
 rw [show inK L w (d+1) i=wlK L w (blK L w d) (in2 L w d) i from by rw [inK];rfl];generalize hD:((d+1:Nat):Int)=D at qd hw1 ⊢;have kI:∀ (j c0:Nat),j<=300->cc<=c0->IW Tryz.prog 86 (pz Tryz.prog 24 (.i (.i (.o .h)))) ⟨tm [(0,.ptr t 0),(1,I64 D)],H.upd t (mkB L w j),c0⟩ (rt [.tmp 4] fun v H' c' => ∃ v2 H2,GL H' [v] H2 [v2]/\v2=.str (in2 L w d j).1/\H2=H.upd t (mkB L w (in2 L w d j).2)):=by
  intro j c0 hj hc0;unfold in2;repeat' ((with_reducible apply wr)<;>try simp only [go_sem,seval,qd])
  refine AC.call (c_Next L hL w j hj 5 (by decide) (by decide) _ _ t A0 (by omega)) ?_;rintro v' H' c2 ⟨rfl,rfl⟩ hc2;rw [A1];have hi2:=G1 hL (n:=5) hj;generalize nxK L 5 j=k at hi2 ⊢;obtain ⟨k,i2⟩:=k;dsimp only at hi2 ⊢;by_cases k0:k=0
  ·subst k0;rw [if_pos rfl];simp only [go_sem,seval];repeat' ((with_reducible apply wr)<;>try simp only [go_sem,seval])
   refine AC.call (c_in0 L hL w hw i2 hi2 0 (by omega) (by omega) _ _ t A0 (by omega)) ?_;rintro v' H' c3 ⟨rfl,rfl⟩ hc3;rw [A1];simp only [go_sem,seval];repeat' ((with_reducible apply wr)<;>try simp only [go_sem,seval])
   exact ⟨_,_,GL.refl _ _,rfl,rfl⟩
  have q0:((k:Int) == 0)=false:=by simpa using k0
  rw [if_neg k0];by_cases k1:k=1
  ·subst k1;rw [if_pos rfl];simp only [go_sem,seval];repeat' ((with_reducible apply wr)<;>try simp only [go_sem,seval])
   refine AC.call (c_in0 L hL w hw i2 hi2 0 (by omega) (by omega) _ _ t A0 (by omega)) ?_;rintro v' H' c3 ⟨rfl,rfl⟩ hc3;rw [A1];have hl:=(B1s hL w i2 hi2).1;have hadd:=P9 (s:=[45]) (t:=(in0 L w i2).1) (by simp;omega);simp only [go_sem,seval,hadd];repeat' ((with_reducible apply wr)<;>try simp only [go_sem,seval,hadd])
   exact ⟨_,_,GL.refl _ _,rfl,rfl⟩
  have q1:((k:Int) == 1)=false:=by simp;omega
  rw [if_neg k1];simp only [go_sem,seval,q0,q1];repeat' ((with_reducible apply wr)<;>try simp only [go_sem,seval,q0,q1,hw1])
  refine AC.call (h1 i2 hi2 _ _ t A0 (by omega)) ?_;rintro v' H' c3 ⟨rfl,rfl⟩ hc3;have hl:=o1 i2 hi2;generalize inK L w d i2=a at hl ⊢;rw [A1];simp only [go_sem,seval,hw1];repeat' ((with_reducible apply wr)<;>try simp only [go_sem,seval,hw1])
  refine AC.call (h1 a.2 hl.2 _ _ t A0 (by omega)) ?_;rintro v' H' c4 ⟨rfl,rfl⟩ hc4;have hl2:=o1 a.2 hl.2;generalize inK L w d a.2=c at hl2 ⊢;rw [A1];have a1:=P9 (s:=[40]) (t:=a.1) (by simp;omega);have a2:=P9 (s:=40 :: a.1) (t:=[32]) (by simp;omega);simp only [go_sem,seval,a1,a2];repeat' ((with_reducible apply wr)<;>try simp only [go_sem,seval,a1,a2])
  refine AC.call (c_Next L hL w c.2 hl2.2 5 (by decide) (by decide) _ _ t (by rw [A2 (by omega)];exact A0) (by omega)) ?_;rintro v' H' c5 ⟨rfl,rfl⟩ hc5;have hlt:=K7 L c.2 (n:=5) (by decide);generalize nxK L 5 c.2=kq at hlt ⊢;obtain ⟨k3,i3⟩:=kq;dsimp only at hlt ⊢;have hia:I1 1 (.slc c4 0 5) (I64 (k3:Int))=some (.ptr c4 k3):=by simp [I1];omega
  have hld:([.str [43],.str [45],.str [42],.str [47],.str [37]]:List DV)[k3]? = some (.str (B7n.getD k3 [])):=by
   match k3,hlt with
   | 0,_=>rfl
   | 1,_=>rfl
   | 2,_=>rfl
   | 3,_=>rfl
   | 4,_=>rfl
  have hg:=O6 (l:=B7n) (n:=5) (by decide) k3;generalize B7n.getD k3 []=og at hg hld ⊢;generalize hWL:([.str [43],.str [45],.str [42],.str [47],.str [37]]:List DV)=WL at hld ⊢;have ne0:=M8 t c4 (by omega);have a3:=P9 (s:=40 :: (a.1++[32])) (t:=og) (by simp;omega);have a4:=P9 (s:=40 :: (a.1++[32]++og)) (t:=[32]) (by simp;omega);have a5:=P9 (s:=40 :: (a.1++[32]++og++[32])) (t:=c.1) (by simp;omega);have a6:=P9 (s:=40 :: (a.1++[32]++og++[32]++c.1)) (t:=[41]) (by simp;omega);simp only [go_sem,seval,A0,A1,ne0,hia,hld,a3,a4,a5,a6];repeat' ((with_reducible apply wr)<;>try simp only [go_sem,seval,A0,A1,ne0,hia,hld,a3,a4,a5,a6])
  exact ⟨_,_,A2p hfr htc (by omega),by simp,rfl⟩
 unfold wlK;by_cases h0:0<w
 ·have q0:decide ((w:Int)>0)=true:=by simpa using h0
  have hw4:IntKind.i64.wrap (4 * (w:Int))=((4 * w:Nat):Int):=by rw [w64 (by omega) (by omega)];omega
  repeat' ((with_reducible apply wr)<;>try simp only [go_sem,seval,ht,q0,hw4])
  refine AC.call (c_Next L hL w i hi (4 * w) (by omega) (by omega) _ _ t ht (by omega)) ?_;rintro v' H' c2 ⟨rfl,rfl⟩ hc2;have hi2:=G1 hL (n:=4 * w) hi;generalize nxK L (4 * w) i=k at hi2 ⊢;obtain ⟨k,i2⟩:=k;dsimp only at hi2 ⊢;by_cases k1:k=1
  ·subst k1;rw [if_pos ⟨h0,rfl⟩];simp only [go_sem,seval];repeat' ((with_reducible apply wr)<;>try simp only [go_sem,seval,hw1])
   refine AC.call (h2 i2 hi2 _ _ t A0 (by omega)) ?_;rintro v' H' c3 ⟨rfl,rfl⟩ hc3;rw [A1];simp only [go_sem,seval];repeat' ((with_reducible apply wr)<;>try simp only [go_sem,seval])
   exact ⟨_,_,GL.refl _ _,rfl,rfl⟩
  have q1:((k:Int) == 1)=false:=by simp;omega
  rw [if_neg (fun h=>k1 h.2),if_pos h0];simp only [go_sem,seval,q1];repeat' ((with_reducible first|refine G8 (p:=IW _ _ (pz Tryz.prog 24 (.i (.i (.o .h)))) _ _) ?_|refine wr ?_|fail)<;>try simp only [go_sem,seval,q1])
  exact IW.stage (by simp [C3,tm,Tm.upd]) (kI i2 _ hi2 hc2)
 ·have q0:decide ((w:Int)>0)=false:=by simpa using h0
  rw [if_neg (fun h=>h0 h.1),if_neg h0];repeat' ((with_reducible first|refine G8 (p:=IW _ _ (pz Tryz.prog 24 (.i (.i (.o .h)))) _ _) ?_|refine wr ?_|fail)<;>try simp only [go_sem,seval,ht,q0])
  have:=kI i cc hi (A0H _);rw [upd_same ht] at this;exact IW.stage (by simp [C3,tm,Tm.upd]) this
theorem c_exK (L:List UInt8) (hL:L.length<=300) (w:Nat) (hw:w<=100):∀ d,d<=10->InC L w d/\BlC L w d
 | 0,_=>⟨fun i hi H cc t ht htc=>by rw [inK];exact c_in0 L hL w hw i hi 0 (by omega) (by omega) H cc t ht htc,fun i hi H cc t ht htc=>by rw [blK];exact c_bl0 L hL w hw i hi 0 (by omega) H cc t ht htc⟩
 | d+1,h=>by
  obtain ⟨h1,h2⟩:=c_exK L hL w hw d (by omega);exact ⟨c_in2 L hL w hw d (by omega) h1 h2,c_bl1 L hL w hw d (by omega) h1 h2⟩
def NmS (L:List UInt8) (w:Nat) (p:List UInt8) (n:Nat) (s:List UInt8):Prop:=∃ i,i<=300/\s=(nmK L w p n i).1
def InS (L:List UInt8) (w d:Nat) (s:List UInt8):Prop:=∃ i,i<=300/\s=(inK L w d i).1
def BlS (L:List UInt8) (w d:Nat) (s:List UInt8):Prop:=∃ i,i<=300/\s=(blK L w d i).1
theorem E0 (a b:List UInt8) (h:a.length+b.length<=100000000):∃ x,x=a++b/\x.length=a.length+b.length/\binR .add (.str a) (.str b)=some (.str x) :=
 ⟨_,rfl,by simp,P9 (by omega)⟩
def C5s:List (List UInt8):=[[102,105,114,101,32],[104,111,108,100,32],[114,101,108,101,97,115,101,32]]
def C3k:List (List UInt8):=[[114,117,110,32],[104,97,108,116,32]]
def C2a:List (List UInt8):=[[103,111],[106,97,99,107,112,111,116],[97,92,34,98],[]]
def B6i:List (List UInt8 × List UInt8 × Nat):=[([115,116,111,112,32],[116,109],2),([98,101,103,105,110,32],[109,111,100,101],3),([101,110,100,32],[109,111,100,101],3),([112,111,115,116,32],[101,118],2),([112,108,97,121,32],[115,110,100],2)]
inductive StG (L:List UInt8) (w:Nat) (K:List UInt8->Prop):List UInt8->Prop where
 | ifA {b x:List UInt8}:BlS L w 1 b->K x->StG L w K ((([105,102,32]++b)++[32])++x)
 | ifB {b x y:List UInt8}:BlS L w 1 b->K x->K y->StG L w K ((((([105,102,32]++b)++[32])++x)++[32,101,108,115,101,32])++y)
 | ifC {b x c y:List UInt8}:BlS L w 1 b->K x->BlS L w 0 c->K y->StG L w K ((((((([105,102,32]++b)++[32])++x)++[32,101,108,115,101,32,105,102,32])++c)++[32])++y)
 | rep {e x:List UInt8}:InS L w 0 e->K x->StG L w K ((([114,101,112,101,97,116,32]++e)++[32])++x)
 | sco {e:List UInt8}:InS L w 1 e->StG L w K (([115,99,111,114,101,32]++e)++[59])
 | fir {k:Nat} {n:List UInt8}:k<3->NmS L w [99,111,105,108] 3 n->StG L w K ((C5s.getD k []++n)++[59])
 | lig {n e:List UInt8}:NmS L w [108,97,109,112] 4 n->InS L w 0 e->StG L w K (((([108,105,103,104,116,32]++n)++[32])++e)++[59])
 | bli {n e f:List UInt8}:NmS L w [108,97,109,112] 4 n->InS L w 0 e->InS L w 0 f->StG L w K (((((([98,108,105,110,107,32]++n)++[32])++e)++[44,32])++f)++[59])
 | sta {n e:List UInt8}:NmS L w [116,109] 2 n->InS L w 1 e->StG L w K (((([115,116,97,114,116,32]++n)++[32])++e)++[59])
 | one {q:List UInt8 × List UInt8 × Nat} {n:List UInt8}:q∈B6i->NmS L w q.2.1 q.2.2 n->StG L w K ((q.1++n)++[59])
 | run {k:Nat} {n:List UInt8}:k<2->NmS L w [115,104,111,119] 2 n->StG L w K ((C3k.getD k []++n)++[59])
 | txt {k:Nat} {e:List UInt8}:k<4->InS L w 0 e->StG L w K (((([116,101,120,116,32,34]++C2a.getD k [])++[34,44,32])++e)++[59])
 | con:StG L w K [99,111,110,115,117,109,101,59]
 | asg {n e:List UInt8}:NmS L w [118] 3 n->InS L w 2 e->StG L w K (((n++[32,61,32])++e)++[59])
def A1z (ss:List (List UInt8)):List UInt8:=ss.foldl (fun a x=>(a++[32])++x) [123]
theorem A8u (ss:List (List UInt8)) (x:List UInt8):A1z (ss++[x])=(A1z ss++[32])++x:=by unfold A1z;rw [A3W];rfl
def BkG (P:List UInt8->Prop) (s:List UInt8):Prop:=∃ ss:List (List UInt8),ss.length<=3/\(∀ x∈ss,P x)/\s=A1z ss++[32,125]
def StD (L:List UInt8) (w:Nat):Nat->List UInt8->Prop
 | 0=>StG L w fun _=>False
 | d+1=>StG L w (BkG (StD L w d))
def B9z:List (List UInt8):=[[115,116,97,114,116],[115,116,111,112],[99,108,111,115,101,32,115,119,48],[111,112,101,110,32,115,119,48],[99,108,111,115,101,32,115,119,49],[99,108,111,115,101,32,115,119,50],[116,105,109,101,114,32,116,109,48],[116,105,109,101,114,32,116,109,49],[101,118,101,110,116,32,101,118,48],[101,118,101,110,116,32,101,118,49],[111,112,101,110,32,115,119,51]]
def D3b:List DV:=[.str [115,116,97,114,116],.str [115,116,111,112],.str [99,108,111,115,101,32,115,119,48],.str [111,112,101,110,32,115,119,48],.str [99,108,111,115,101,32,115,119,49],.str [99,108,111,115,101,32,115,119,50],.str [116,105,109,101,114,32,116,109,48],.str [116,105,109,101,114,32,116,109,49],.str [101,118,101,110,116,32,101,118,48],.str [101,118,101,110,116,32,101,118,49],.str [111,112,101,110,32,115,119,51]]
theorem C2d {k:Nat} (h:k<11):D3b[k]? = some (.str (B9z.getD k [])):=by
 match k,h with
 | 0,_=>rfl
 | 1,_=>rfl
 | 2,_=>rfl
 | 3,_=>rfl
 | 4,_=>rfl
 | 5,_=>rfl
 | 6,_=>rfl
 | 7,_=>rfl
 | 8,_=>rfl
 | 9,_=>rfl
 | 10,_=>rfl
inductive HdG (L:List UInt8) (w k:Nat):List UInt8->Prop where
 | std {x:List UInt8}:BkG (StD L w 2) x->HdG L w k ((([111,110,32]++B9z.getD (k % 11) [])++[32])++x)
 | wild {n x:List UInt8}:0<w->NmS L w [115,119] 4 n->BkG (StD L w 2) x->HdG L w k ((([111,110,32]++([99,108,111,115,101,32]++n))++[32])++x)
def ruA:List UInt8:=[115,119,105,116,99,104,32,115,119,48,32,51,59,32,115,119,105,116,99,104,32,115,119,49,32,57,59,32,115,119,105,116,99,104,32,115,119,50,32,52,48,59,32,115,119,105,116,99,104,32,115,119,51,32,54,51,59,10,99,111,105,108,32,99,111,105,108,48,32,48,59,32,99,111,105,108,32,99,111,105,108,49,32,55,59,32,99,111,105,108,32,99,111,105,108,50,32,51,49,59,10,108,97,109,112,32,108,97,109,112,48,32,48,59,32,108,97,109,112,32,108,97,109,112,49,32,57,59,32,108,97,109,112,32,108,97,109,112,50,32,51,51,59,32,108,97,109,112,32,108,97,109,112,51,32,54,51,59,10,115,111,117,110,100,32,115,110,100,48,32,48,59,32,115,111,117,110,100,32,115,110,100,49,32,53,59,32,115,104,111,119,32,115,104,111,119,48,32,48,59,32,115,104,111,119,32,115,104,111,119,49,32,49,59,10]
def ruB:List UInt8:=[118,97,114,32,118,48,32]
def ruC:List UInt8:=[59,32,118,97,114,32,118,49,32,49,59,32,118,97,114,32,118,50,32,48,59,32,116,105,109,101,114,32,116,109,48,59,32,116,105,109,101,114,32,116,109,49,59,32,101,118,101,110,116,32,101,118,48,59,32,101,118,101,110,116,32,101,118,49,59,10]
def v0L:List (List UInt8):=[[48],[53],[45,55],[50,49,52,55,52,56,51,54,52,55]]
def v0V:List DV:=[.str [48],.str [53],.str [45,55],.str [50,49,52,55,52,56,51,54,52,55]]
theorem C7s {k:Nat} (h:k<4):v0V[k]? = some (.str (v0L.getD k [])):=by
 match k,h with
 | 0,_=>rfl
 | 1,_=>rfl
 | 2,_=>rfl
 | 3,_=>rfl
def Y3 (s:List UInt8) (hs:List (List UInt8)):List UInt8:=hs.foldl (fun a x=>(a++x)++[10]) s
theorem B6z (s:List UInt8) (hs:List (List UInt8)) (x:List UInt8):Y3 s (hs++[x])=(Y3 s hs++x)++[10]:=by unfold Y3;rw [A3W];rfl
def B2c (s:List UInt8) (i p:Nat):List UInt8:=((((s++[109,111,100,101,32,109,111,100,101])++Q9 (i:Int))++[32])++Q9 (p:Int))++[32,123,10]
inductive RuP (L:List UInt8) (w:Nat):Nat->List UInt8->Prop where
 | head {k:Nat}:k<4->RuP L w 0 (((ruA++ruB)++v0L.getD k [])++ruC)
 | mode {i p k:Nat} {s:List UInt8} {hs:List (List UInt8)}:RuP L w i s->p<4->k<11->hs.length<=4->(∀ j x,hs[j]? = some x->HdG L w (k+j) x)->RuP L w (i+1) (Y3 (B2c s i p) hs++[125,10])
end Go.Proofs.YtnmkkggfgdfmeaaGreatDoor
namespace Go.Pb
variable [Go.Sym.Tab]
open Go.Sym
theorem T1 (L:List UInt8) (n i:Nat):i<=(nxK L n i).2/\((nxK L n i).1=0\/i+1<=(nxK L n i).2):=by
 unfold nxK;split
 ·exact ⟨by simp,.inr (A0H _)⟩
 ·exact ⟨A0H _,.inl rfl⟩
def Pot (f:Nat->Mk):Prop:=∀ i,(f i).1.length+50 * i<=5+50 * (f i).2
theorem A2q {l:List (List UInt8)} {n:Nat} (h:∀ x∈l,x.length<=n) (k:Nat):(l.getD k []).length<=n:=by
 rw [A0X];cases hk:l[k]? with
 | none=>simp
 | some x=>exact h x (A0W hk)
theorem A0t (L:List UInt8) (w:Nat) {p:List UInt8} {n:Nat} (hp:p.length<=4) (hn:0<n) (hn2:n<=1000):Pot (nmK L w p n):=by
 intro i;unfold nmK;dsimp only;obtain ⟨h1,h2⟩:=T1 L w i;split
 ·have h3:=A2q (l:=Z3) (n:=5) (by decide) (nxK L 10 (nxK L w i).2).1;have h4:=B1w L 10 (nxK L w i).2;dsimp only;omega
 ·have key:∀ j,i<=j->(p++Q9 ((nxK L n j).1:Int)).length+50 * i<=5+50 * (nxK L n j).2:=by
   intro j hj;obtain ⟨h3,h4⟩:=T1 L n j;have hlt:=K7 L j hn;rw [A0A];rcases h4 with h4|h4
   ·rw [h4];have:(Q9 ((0:Nat):Int)).length=1:=by rw [A7o (by decide) (by decide)];rfl
    omega
   ·have:=O7 (n:=((nxK L n j).1:Int)) (by omega) (by omega);omega
  split
  ·exact key _ h1
  ·exact key _ (A0H _)
theorem B2r (L:List UInt8) (w:Nat):Pot (bl0 L w):=by
 intro i;unfold bl0;dsimp only;obtain ⟨h1,h2⟩:=T1 L 5 i;split
 ·show 4+50 * i<=_;dsimp only;omega
 ·split
  ·show 5+50 * i<=_;dsimp only;omega
  ·split
   ·have:=A0t L w (p:=[109,111,100,101]) (n:=3) (by decide) (by decide) (by decide) (nxK L 5 i).2;simp only [A0A,A0E,A0F];omega
   ·have:=A0t L w (p:=[115,119]) (n:=4) (by decide) (by decide) (by decide) (nxK L 5 i).2;simp only [A0A,A0E,A0F];omega
theorem D0f (L:List UInt8) (w:Nat):Pot (in1 L w):=by
 intro i;unfold in1;dsimp only;obtain ⟨h1,h2⟩:=T1 L 7 i;split
 ·have:=A0t L w (p:=[118]) (n:=3) (by decide) (by decide) (by decide) (nxK L 7 i).2;omega
 ·split
  ·show 6+50 * i<=_;dsimp only;omega
  ·split
   ·show 4+50 * i<=_;dsimp only;omega
   ·split
    ·have:=A0t L w (p:=[116,109]) (n:=2) (by decide) (by decide) (by decide) (nxK L 7 i).2;simp only [A0A,A0E,A0F];omega
    ·split
     ·have h3:=A2q (l:=D7a) (n:=10) (by decide) (nxK L 4 (nxK L 7 i).2).1;have h4:=B1w L 4 (nxK L 7 i).2;dsimp only;omega
     ·obtain ⟨h3,h4⟩:=T1 L 12 (nxK L 7 i).2;have hlt:=K7 L (nxK L 7 i).2 (n:=12) (by decide);have:=O7 (n:=((nxK L 12 (nxK L 7 i).2).1:Int)) (by omega) (by omega);dsimp only;omega
theorem C1p (L:List UInt8) (w:Nat) {f g:Nat->Mk} (hf:Pot f) (hg:Pot g):Pot (wlK L w f g):=by
 intro i;unfold wlK;dsimp only;obtain ⟨h1,h2⟩:=T1 L (4 * w) i;split
 ·have:=hf (nxK L (4 * w) i).2;omega
 ·split
  ·have:=hg (nxK L (4 * w) i).2;omega
  ·exact hg i
theorem B2g (L:List UInt8) (w:Nat):Pot (in0 L w):=C1p L w (B2r L w) (D0f L w)
theorem B6v (L:List UInt8) (w:Nat):∀ d,Pot (inK L w d)/\Pot (blK L w d)
 | 0=>⟨fun i=>by rw [inK];exact B2g L w i,fun i=>by rw [blK];exact B2r L w i⟩
 | d+1=>by
  obtain ⟨h1,h2⟩:=B6v L w d;refine ⟨fun i=>?_,fun i=>?_⟩
  ·rw [inK];refine C1p L w h2 (fun i=>?_) i;dsimp only;obtain ⟨k1,k2⟩:=T1 L 5 i;split
   ·have:=B2g L w (nxK L 5 i).2;omega
   ·split
    ·have:=B2g L w (nxK L 5 i).2;simp only [A0A,A0E,A0F];omega
    ·have ha:=h1 (nxK L 5 i).2;have hc:=h1 (inK L w d (nxK L 5 i).2).2;have ho:=B1w L 5 (inK L w d (inK L w d (nxK L 5 i).2).2).2;have hg:=A2q (l:=B7n) (n:=5) (by decide) (nxK L 5 (inK L w d (inK L w d (nxK L 5 i).2).2).2).1;simp only [A0A,A0E,A0F];omega
  ·rw [blK];dsimp only;obtain ⟨k1,k2⟩:=T1 L 6 i;split
   ·have:=B2r L w (nxK L 6 i).2;have e:0<L.length\/True:=.inr trivial;simp only [A0A,A0E,A0F];unfold bl0 at this ⊢;dsimp only at this ⊢;obtain ⟨q1,q2⟩:=T1 L 5 (nxK L 6 i).2;split
    ·show 0+1+4+50 * i<=_;dsimp only;omega
    ·split
     ·show 0+1+5+50 * i<=_;dsimp only;omega
     ·split
      ·have:=A0t L w (p:=[109,111,100,101]) (n:=3) (by decide) (by decide) (by decide) (nxK L 5 (nxK L 6 i).2).2;simp only [A0A,A0E,A0F];omega
      ·have:=A0t L w (p:=[115,119]) (n:=4) (by decide) (by decide) (by decide) (nxK L 5 (nxK L 6 i).2).2;simp only [A0A,A0E,A0F];omega
   ·split
    ·have ha:=h2 (nxK L 6 i).2;have hc:=h2 (blK L w d (nxK L 6 i).2).2;simp only [A0A,A0E,A0F];omega
    ·split
     ·have ha:=h2 (nxK L 6 i).2;have hc:=h2 (blK L w d (nxK L 6 i).2).2;simp only [A0A,A0E,A0F];omega
     ·have ha:=h1 (nxK L 6 i).2;have ho:=B1w L 6 (inK L w d (nxK L 6 i).2).2;have hc:=h1 (nxK L 6 (inK L w d (nxK L 6 i).2).2).2;have hg:=A2q (l:=C1h) (n:=5) (by decide) (nxK L 6 (inK L w d (nxK L 6 i).2).2).1;simp only [A0A,A0E,A0F];omega
end Go.Pb
namespace Go.Proofs.YtnmkkggfgdfmeaaGreatDoor
open Go.Eng (IC IOper DReg IFn B8)
open Go.Sym Go.Pb
def MX (f:Nat) (xs:List DV) (L:List UInt8) (w n:Nat) (Q:List UInt8->Prop):Prop:=∀ (i:Nat) (hi:i<=300) (H:Hp) (cc t:Nat) (ht:H t=some (mkB L w i)) (htc:t<cc),
  AC Tryz.prog f (.ptr t 0 :: xs) H cc (fun v H' c' => ∃ s j,Q s/\s.length+50 * i<=n+50 * j/\j<=300/\v=.str s/\H'=H.upd t (mkB L w j))
theorem N3 (L:List UInt8) (hL:L.length<=300) (w:Nat) (hw:w<=100) (p:List UInt8) (hp:p.length<=4) (n:Nat) (hn:0<n) (hn2:n<=1000):MX 54 [.str p,I64 n] L w 5 (NmS L w p n):=by
 intro i hi H cc t ht htc;refine (c_name32 L hL w i hw hi p (by omega) n hn hn2 H cc t ht htc).mono ?_;rintro v H' c' ⟨rfl,rfl⟩;exact ⟨_,_,⟨i,hi,rfl⟩,A0t L w hp hn hn2 i,A4n hL hi,rfl,rfl⟩
theorem Y4 (L:List UInt8) (hL:L.length<=300) (w:Nat) (hw:w<=100) (d:Nat) (hd:d<=2):MX 24 [I64 d] L w 5 (InS L w d):=by
 intro i hi H cc t ht htc;refine ((c_exK L hL w hw d (by omega)).1 i hi H cc t ht htc).mono ?_;rintro v H' c' ⟨rfl,rfl⟩;have h1:=(A4k hL w d).1 i hi;exact ⟨_,_,⟨i,hi,rfl⟩,(B6v L w d).1 i,h1.2,rfl,rfl⟩
theorem B2j (L:List UInt8) (hL:L.length<=300) (w:Nat) (hw:w<=100) (d:Nat) (hd:d<=2):MX 25 [I64 d] L w 5 (BlS L w d):=by
 intro i hi H cc t ht htc;refine ((c_exK L hL w hw d (by omega)).2 i hi H cc t ht htc).mono ?_;rintro v H' c' ⟨rfl,rfl⟩;have h1:=(A4k hL w d).2 i hi;exact ⟨_,_,⟨i,hi,rfl⟩,(B6v L w d).2 i,h1.2,rfl,rfl⟩
theorem U6 (L:List UInt8) (hL:L.length<=300) (w:Nat) (n:Nat) (hn:0<n) (hn2:n<=1000) (i:Nat) (hi:i<=300) (H:Hp) (cc t:Nat) (ht:H t=some (mkB L w i)) (htc:t<cc) :
  AC Tryz.prog 53 [.ptr t 0,I64 n] H cc (fun v H' c' => ∃ k j,k<n/\j<=300/\(i<=j/\(k=0\/i+1<=j))/\v=I64 (k:Nat)/\H'=H.upd t (mkB L w j)):=by
 refine (c_Next L hL w i hi n hn hn2 H cc t ht htc).mono ?_;rintro v H' c' ⟨rfl,rfl⟩;exact ⟨_,_,K7 L i hn,G1 hL hi,T1 L n i,rfl,rfl⟩
theorem C6s (L:List UInt8) (hL:L.length<=300) (w:Nat) (hw:w<=100) (D:Int) (hD2:D<=10) (hD3 : -10<=D) (K:List UInt8->Prop) (hK:D<=0\/MX 107 [I64 (D-1)] L w 3 K) :
  MX 139 [I64 D] L w 14 (StG L w K):=by
 intro i hi H cc t ht htc;refine AC.bodyT A9 rfl (A0B rfl) fun hfr=>?_;have hw1:IntKind.i64.wrap (D-1)=D-1:=w64 (by omega) (by omega);obtain ⟨qd,hqd⟩:∃ b:Bool,decide (D<=0)=b:=⟨_,rfl⟩;have hqt:qd=true->D<=0:=fun e=>by rw [e] at hqd;simpa using hqd
 have hqf:qd=false->¬ D<=0:=fun e=>by rw [e] at hqd;simpa using hqd
 repeat' ((with_reducible apply wr)<;>try simp only [go_sem,seval,hqd])
 refine AC.call (U6 L hL w 20 (by decide) (by decide) i hi _ _ t ht (by omega)) ?_;rintro v' H' c2 ⟨k,j,hlt,hj,hjp,rfl,rfl⟩ hc2;by_cases k4:k=4
 ·subst k4;cases qd;all_goals
   simp only [go_sem,seval,hqd];repeat' ((with_reducible apply wr)<;>try simp only [go_sem,seval,hqd,hw1])
   refine AC.call (Y4 L hL w hw 1 (by decide) j hj _ _ t A0 (by omega)) ?_;rintro v' H' c3 ⟨r1,j1,g1,l1,b1,rfl,rfl⟩ hc3;rw [A1];obtain ⟨x1,e1,m1,a1⟩:=E0 [115,99,111,114,101,32] r1 (by (try simp)<;>omega);try simp only [A0E,A0F] at m1
   obtain ⟨x2,e2,m2,a2⟩:=E0 x1 [59] (by (try simp)<;>omega);try simp only [A0E,A0F] at m2
   simp only [go_sem,seval,a1,a2,hw1];repeat' ((with_reducible apply wr)<;>try simp only [go_sem,seval,a1,a2,hw1])
   exact ⟨_,_,GL.refl _ _,x2,j1,by rw [e2,e1];exact .sco g1,by omega,b1,rfl,rfl⟩
 by_cases k5:k=5
 ·subst k5;cases qd;all_goals
   simp only [go_sem,seval,hqd];repeat' ((with_reducible apply wr)<;>try simp only [go_sem,seval,hqd,hw1])
   refine AC.call (Y4 L hL w hw 1 (by decide) j hj _ _ t A0 (by omega)) ?_;rintro v' H' c3 ⟨r1,j1,g1,l1,b1,rfl,rfl⟩ hc3;rw [A1];obtain ⟨x1,e1,m1,a1⟩:=E0 [115,99,111,114,101,32] r1 (by (try simp)<;>omega);try simp only [A0E,A0F] at m1
   obtain ⟨x2,e2,m2,a2⟩:=E0 x1 [59] (by (try simp)<;>omega);try simp only [A0E,A0F] at m2
   simp only [go_sem,seval,a1,a2,hw1];repeat' ((with_reducible apply wr)<;>try simp only [go_sem,seval,a1,a2,hw1])
   exact ⟨_,_,GL.refl _ _,x2,j1,by rw [e2,e1];exact .sco g1,by omega,b1,rfl,rfl⟩
 by_cases k7:k=7
 ·subst k7;cases qd;all_goals
   simp only [go_sem,seval,hqd];repeat' ((with_reducible apply wr)<;>try simp only [go_sem,seval,hqd,hw1])
   refine AC.call (N3 L hL w hw [108,97,109,112] (by decide) 4 (by decide) (by decide) j hj _ _ t A0 (by omega)) ?_;rintro v' H' c3 ⟨r1,j1,g1,l1,b1,rfl,rfl⟩ hc3;rw [A1];obtain ⟨x1,e1,m1,a1⟩:=E0 [108,105,103,104,116,32] r1 (by (try simp)<;>omega);try simp only [A0E,A0F] at m1
   obtain ⟨x2,e2,m2,a2⟩:=E0 x1 [32] (by (try simp)<;>omega);try simp only [A0E,A0F] at m2
   simp only [go_sem,seval,a1,a2,hw1];repeat' ((with_reducible apply wr)<;>try simp only [go_sem,seval,a1,a2,hw1])
   refine AC.call (Y4 L hL w hw 0 (by decide) j1 b1 _ _ t A0 (by omega)) ?_;rintro v' H' c4 ⟨r2,j2,g2,l2,b2,rfl,rfl⟩ hc4;rw [A1];obtain ⟨x3,e3,m3,a3⟩:=E0 x2 r2 (by (try simp)<;>omega);try simp only [A0E,A0F] at m3
   obtain ⟨x4,e4,m4,a4⟩:=E0 x3 [59] (by (try simp)<;>omega);try simp only [A0E,A0F] at m4
   simp only [go_sem,seval,a3,a4,hw1];repeat' ((with_reducible apply wr)<;>try simp only [go_sem,seval,a3,a4,hw1])
   exact ⟨_,_,GL.refl _ _,x4,j2,by rw [e4,e3,e2,e1];exact .lig g1 g2,by omega,b2,rfl,rfl⟩
 by_cases k8:k=8
 ·subst k8;cases qd;all_goals
   simp only [go_sem,seval,hqd];repeat' ((with_reducible apply wr)<;>try simp only [go_sem,seval,hqd,hw1])
   refine AC.call (N3 L hL w hw [108,97,109,112] (by decide) 4 (by decide) (by decide) j hj _ _ t A0 (by omega)) ?_;rintro v' H' c3 ⟨r1,j1,g1,l1,b1,rfl,rfl⟩ hc3;rw [A1];obtain ⟨x1,e1,m1,a1⟩:=E0 [98,108,105,110,107,32] r1 (by (try simp)<;>omega);try simp only [A0E,A0F] at m1
   obtain ⟨x2,e2,m2,a2⟩:=E0 x1 [32] (by (try simp)<;>omega);try simp only [A0E,A0F] at m2
   simp only [go_sem,seval,a1,a2,hw1];repeat' ((with_reducible apply wr)<;>try simp only [go_sem,seval,a1,a2,hw1])
   refine AC.call (Y4 L hL w hw 0 (by decide) j1 b1 _ _ t A0 (by omega)) ?_;rintro v' H' c4 ⟨r2,j2,g2,l2,b2,rfl,rfl⟩ hc4;rw [A1];obtain ⟨x3,e3,m3,a3⟩:=E0 x2 r2 (by (try simp)<;>omega);try simp only [A0E,A0F] at m3
   obtain ⟨x4,e4,m4,a4⟩:=E0 x3 [44,32] (by (try simp)<;>omega);try simp only [A0E,A0F] at m4
   simp only [go_sem,seval,a3,a4,hw1];repeat' ((with_reducible apply wr)<;>try simp only [go_sem,seval,a3,a4,hw1])
   refine AC.call (Y4 L hL w hw 0 (by decide) j2 b2 _ _ t A0 (by omega)) ?_;rintro v' H' c5 ⟨r3,j3,g3,l3,b3,rfl,rfl⟩ hc5;rw [A1];obtain ⟨x5,e5,m5,a5⟩:=E0 x4 r3 (by (try simp)<;>omega);try simp only [A0E,A0F] at m5
   obtain ⟨x6,e6,m6,a6⟩:=E0 x5 [59] (by (try simp)<;>omega);try simp only [A0E,A0F] at m6
   simp only [go_sem,seval,a5,a6,hw1];repeat' ((with_reducible apply wr)<;>try simp only [go_sem,seval,a5,a6,hw1])
   exact ⟨_,_,GL.refl _ _,x6,j3,by rw [e6,e5,e4,e3,e2,e1];exact .bli g1 g2 g3,by omega,b3,rfl,rfl⟩
 by_cases k9:k=9
 ·subst k9;cases qd;all_goals
   simp only [go_sem,seval,hqd];repeat' ((with_reducible apply wr)<;>try simp only [go_sem,seval,hqd,hw1])
   refine AC.call (N3 L hL w hw [116,109] (by decide) 2 (by decide) (by decide) j hj _ _ t A0 (by omega)) ?_;rintro v' H' c3 ⟨r1,j1,g1,l1,b1,rfl,rfl⟩ hc3;rw [A1];obtain ⟨x1,e1,m1,a1⟩:=E0 [115,116,97,114,116,32] r1 (by (try simp)<;>omega);try simp only [A0E,A0F] at m1
   obtain ⟨x2,e2,m2,a2⟩:=E0 x1 [32] (by (try simp)<;>omega);try simp only [A0E,A0F] at m2
   simp only [go_sem,seval,a1,a2,hw1];repeat' ((with_reducible apply wr)<;>try simp only [go_sem,seval,a1,a2,hw1])
   refine AC.call (Y4 L hL w hw 1 (by decide) j1 b1 _ _ t A0 (by omega)) ?_;rintro v' H' c4 ⟨r2,j2,g2,l2,b2,rfl,rfl⟩ hc4;rw [A1];obtain ⟨x3,e3,m3,a3⟩:=E0 x2 r2 (by (try simp)<;>omega);try simp only [A0E,A0F] at m3
   obtain ⟨x4,e4,m4,a4⟩:=E0 x3 [59] (by (try simp)<;>omega);try simp only [A0E,A0F] at m4
   simp only [go_sem,seval,a3,a4,hw1];repeat' ((with_reducible apply wr)<;>try simp only [go_sem,seval,a3,a4,hw1])
   exact ⟨_,_,GL.refl _ _,x4,j2,by rw [e4,e3,e2,e1];exact .sta g1 g2,by omega,b2,rfl,rfl⟩
 by_cases k10:k=10
 ·subst k10;cases qd;all_goals
   simp only [go_sem,seval,hqd];repeat' ((with_reducible apply wr)<;>try simp only [go_sem,seval,hqd,hw1])
   refine AC.call (N3 L hL w hw [116,109] (by decide) 2 (by decide) (by decide) j hj _ _ t A0 (by omega)) ?_;rintro v' H' c3 ⟨r1,j1,g1,l1,b1,rfl,rfl⟩ hc3;rw [A1];obtain ⟨x1,e1,m1,a1⟩:=E0 [115,116,111,112,32] r1 (by (try simp)<;>omega);try simp only [A0E,A0F] at m1
   obtain ⟨x2,e2,m2,a2⟩:=E0 x1 [59] (by (try simp)<;>omega);try simp only [A0E,A0F] at m2
   simp only [go_sem,seval,a1,a2,hw1];repeat' ((with_reducible apply wr)<;>try simp only [go_sem,seval,a1,a2,hw1])
   exact ⟨_,_,GL.refl _ _,x2,j1,by rw [e2,e1];exact .one (q:=([115,116,111,112,32],[116,109],2)) (by simp [B6i]) g1,by omega,b1,rfl,rfl⟩
 by_cases k11:k=11
 ·subst k11;cases qd;all_goals
   simp only [go_sem,seval,hqd];repeat' ((with_reducible apply wr)<;>try simp only [go_sem,seval,hqd,hw1])
   refine AC.call (N3 L hL w hw [109,111,100,101] (by decide) 3 (by decide) (by decide) j hj _ _ t A0 (by omega)) ?_;rintro v' H' c3 ⟨r1,j1,g1,l1,b1,rfl,rfl⟩ hc3;rw [A1];obtain ⟨x1,e1,m1,a1⟩:=E0 [98,101,103,105,110,32] r1 (by (try simp)<;>omega);try simp only [A0E,A0F] at m1
   obtain ⟨x2,e2,m2,a2⟩:=E0 x1 [59] (by (try simp)<;>omega);try simp only [A0E,A0F] at m2
   simp only [go_sem,seval,a1,a2,hw1];repeat' ((with_reducible apply wr)<;>try simp only [go_sem,seval,a1,a2,hw1])
   exact ⟨_,_,GL.refl _ _,x2,j1,by rw [e2,e1];exact .one (q:=([98,101,103,105,110,32],[109,111,100,101],3)) (by simp [B6i]) g1,by omega,b1,rfl,rfl⟩
 by_cases k12:k=12
 ·subst k12;cases qd;all_goals
   simp only [go_sem,seval,hqd];repeat' ((with_reducible apply wr)<;>try simp only [go_sem,seval,hqd,hw1])
   refine AC.call (N3 L hL w hw [109,111,100,101] (by decide) 3 (by decide) (by decide) j hj _ _ t A0 (by omega)) ?_;rintro v' H' c3 ⟨r1,j1,g1,l1,b1,rfl,rfl⟩ hc3;rw [A1];obtain ⟨x1,e1,m1,a1⟩:=E0 [101,110,100,32] r1 (by (try simp)<;>omega);try simp only [A0E,A0F] at m1
   obtain ⟨x2,e2,m2,a2⟩:=E0 x1 [59] (by (try simp)<;>omega);try simp only [A0E,A0F] at m2
   simp only [go_sem,seval,a1,a2,hw1];repeat' ((with_reducible apply wr)<;>try simp only [go_sem,seval,a1,a2,hw1])
   exact ⟨_,_,GL.refl _ _,x2,j1,by rw [e2,e1];exact .one (q:=([101,110,100,32],[109,111,100,101],3)) (by simp [B6i]) g1,by omega,b1,rfl,rfl⟩
 by_cases k13:k=13
 ·subst k13;cases qd;all_goals
   simp only [go_sem,seval,hqd];repeat' ((with_reducible apply wr)<;>try simp only [go_sem,seval,hqd,hw1])
   refine AC.call (N3 L hL w hw [101,118] (by decide) 2 (by decide) (by decide) j hj _ _ t A0 (by omega)) ?_;rintro v' H' c3 ⟨r1,j1,g1,l1,b1,rfl,rfl⟩ hc3;rw [A1];obtain ⟨x1,e1,m1,a1⟩:=E0 [112,111,115,116,32] r1 (by (try simp)<;>omega);try simp only [A0E,A0F] at m1
   obtain ⟨x2,e2,m2,a2⟩:=E0 x1 [59] (by (try simp)<;>omega);try simp only [A0E,A0F] at m2
   simp only [go_sem,seval,a1,a2,hw1];repeat' ((with_reducible apply wr)<;>try simp only [go_sem,seval,a1,a2,hw1])
   exact ⟨_,_,GL.refl _ _,x2,j1,by rw [e2,e1];exact .one (q:=([112,111,115,116,32],[101,118],2)) (by simp [B6i]) g1,by omega,b1,rfl,rfl⟩
 by_cases k14:k=14
 ·subst k14;cases qd;all_goals
   simp only [go_sem,seval,hqd];repeat' ((with_reducible apply wr)<;>try simp only [go_sem,seval,hqd,hw1])
   refine AC.call (N3 L hL w hw [115,110,100] (by decide) 2 (by decide) (by decide) j hj _ _ t A0 (by omega)) ?_;rintro v' H' c3 ⟨r1,j1,g1,l1,b1,rfl,rfl⟩ hc3;rw [A1];obtain ⟨x1,e1,m1,a1⟩:=E0 [112,108,97,121,32] r1 (by (try simp)<;>omega);try simp only [A0E,A0F] at m1
   obtain ⟨x2,e2,m2,a2⟩:=E0 x1 [59] (by (try simp)<;>omega);try simp only [A0E,A0F] at m2
   simp only [go_sem,seval,a1,a2,hw1];repeat' ((with_reducible apply wr)<;>try simp only [go_sem,seval,a1,a2,hw1])
   exact ⟨_,_,GL.refl _ _,x2,j1,by rw [e2,e1];exact .one (q:=([112,108,97,121,32],[115,110,100],2)) (by simp [B6i]) g1,by omega,b1,rfl,rfl⟩
 by_cases k17:k=17
 ·subst k17;cases qd;all_goals
   simp only [go_sem,seval,hqd];repeat' ((with_reducible apply wr)<;>try simp only [go_sem,seval,hqd,hw1])
   exact ⟨_,_,GL.refl _ _,_,j,.con,by first|(simp;done)|(simp;omega),hj,rfl,rfl⟩
 by_cases k6:k=6
 ·subst k6;cases qd;all_goals
   simp only [go_sem,seval,hqd];repeat' ((with_reducible apply wr)<;>try simp only [go_sem,seval,hqd,hw1])
   refine AC.call (U6 L hL w 3 (by decide) (by decide) j hj _ _ t (by rw [B8z (by omega)];exact A0) (by omega)) ?_;rintro v' H' c3 ⟨k3,j1,hlt3,b1,p1,rfl,rfl⟩ hc3;have hmg:∀ (X:Hp) (B:Blk),I5 [c2] X ((M1 X [c2]).upd t B)=X.upd t B:=fun X B=>A7h (by omega);have hia:I1 1 (.slc c2 0 3) (I64 (k3:Int))=some (.ptr c2 k3):=by simp [I1];omega
   have hld:([.str [102,105,114,101,32],.str [104,111,108,100,32],.str [114,101,108,101,97,115,101,32]]:List DV)[k3]? = some (.str (C5s.getD k3 [])):=by
    match k3,hlt3 with
    | 0,_=>rfl
    | 1,_=>rfl
    | 2,_=>rfl
   have hg:=O6 (l:=C5s) (n:=10) (by decide) k3;generalize hog:C5s.getD k3 []=og at hg hld;generalize hWL:([.str [102,105,114,101,32],.str [104,111,108,100,32],.str [114,101,108,101,97,115,101,32]]:List DV)=WL at hld ⊢;have ne0:=M8 t c2 (by omega);simp only [go_sem,seval,hmg,A0,A1,ne0,hia,hld,hw1];refine ⟨by and_intros<;>first|rfl|(rw [<- hWL];done)|((repeat rw [A2 (by omega)]);exact hfr _ (by omega)),?_⟩;refine AC.call (N3 L hL w hw [99,111,105,108] (by decide) 3 (by decide) (by decide) j1 b1 _ _ t (by simp only [M1];rw [if_neg (by simp;omega)];exact A0) (by omega)) ?_;rintro v' H' c4 ⟨r1,j2,g1,l1,b2,rfl,rfl⟩ hc4;obtain ⟨x1,e1,m1,a1⟩:=E0 og r1 (by (try simp)<;>omega);try simp only [A0E,A0F] at m1
   obtain ⟨x2,e2,m2,a2⟩:=E0 x1 [59] (by (try simp)<;>omega);try simp only [A0E,A0F] at m2
   simp only [go_sem,seval,hmg,A0,A1,ne0,hia,hld,hw1,a1,a2];refine ⟨by and_intros<;>first|rfl|(rw [<- hWL];done)|((repeat rw [A2 (by omega)]);exact hfr _ (by omega)),?_⟩;repeat' ((with_reducible apply wr)<;>try simp only [go_sem,seval])
   exact ⟨_,_,A2p hfr htc (by omega),x2,j2,by rw [e2,e1, <- hog];exact .fir hlt3 g1,by omega,b2,rfl,rfl⟩
 by_cases k15:k=15
 ·subst k15;cases qd;all_goals
   simp only [go_sem,seval,hqd];repeat' ((with_reducible apply wr)<;>try simp only [go_sem,seval,hqd,hw1])
   refine AC.call (U6 L hL w 2 (by decide) (by decide) j hj _ _ t (by rw [B8z (by omega)];exact A0) (by omega)) ?_;rintro v' H' c3 ⟨k3,j1,hlt3,b1,p1,rfl,rfl⟩ hc3;have hmg:∀ (X:Hp) (B:Blk),I5 [c2] X ((M1 X [c2]).upd t B)=X.upd t B:=fun X B=>A7h (by omega);have hia:I1 1 (.slc c2 0 2) (I64 (k3:Int))=some (.ptr c2 k3):=by simp [I1];omega
   have hld:([.str [114,117,110,32],.str [104,97,108,116,32]]:List DV)[k3]? = some (.str (C3k.getD k3 [])):=by
    match k3,hlt3 with
    | 0,_=>rfl
    | 1,_=>rfl
   have hg:=O6 (l:=C3k) (n:=10) (by decide) k3;generalize hog:C3k.getD k3 []=og at hg hld;generalize hWL:([.str [114,117,110,32],.str [104,97,108,116,32]]:List DV)=WL at hld ⊢;have ne0:=M8 t c2 (by omega);simp only [go_sem,seval,hmg,A0,A1,ne0,hia,hld,hw1];refine ⟨by and_intros<;>first|rfl|(rw [<- hWL];done)|((repeat rw [A2 (by omega)]);exact hfr _ (by omega)),?_⟩;refine AC.call (N3 L hL w hw [115,104,111,119] (by decide) 2 (by decide) (by decide) j1 b1 _ _ t (by simp only [M1];rw [if_neg (by simp;omega)];exact A0) (by omega)) ?_;rintro v' H' c4 ⟨r1,j2,g1,l1,b2,rfl,rfl⟩ hc4;obtain ⟨x1,e1,m1,a1⟩:=E0 og r1 (by (try simp)<;>omega);try simp only [A0E,A0F] at m1
   obtain ⟨x2,e2,m2,a2⟩:=E0 x1 [59] (by (try simp)<;>omega);try simp only [A0E,A0F] at m2
   simp only [go_sem,seval,hmg,A0,A1,ne0,hia,hld,hw1,a1,a2];refine ⟨by and_intros<;>first|rfl|(rw [<- hWL];done)|((repeat rw [A2 (by omega)]);exact hfr _ (by omega)),?_⟩;repeat' ((with_reducible apply wr)<;>try simp only [go_sem,seval])
   exact ⟨_,_,A2p hfr htc (by omega),x2,j2,by rw [e2,e1, <- hog];exact .run hlt3 g1,by omega,b2,rfl,rfl⟩
 by_cases k16:k=16
 ·subst k16;cases qd;all_goals
   simp only [go_sem,seval,hqd];repeat' ((with_reducible apply wr)<;>try simp only [go_sem,seval,hqd,hw1])
   refine AC.call (U6 L hL w 4 (by decide) (by decide) j hj _ _ t (by rw [B8z (by omega)];exact A0) (by omega)) ?_;rintro v' H' c3 ⟨k3,j1,hlt3,b1,p1,rfl,rfl⟩ hc3;have hmg:∀ (X:Hp) (B:Blk),I5 [c2] X ((M1 X [c2]).upd t B)=X.upd t B:=fun X B=>A7h (by omega);have hia:I1 1 (.slc c2 0 4) (I64 (k3:Int))=some (.ptr c2 k3):=by simp [I1];omega
   have hld:([.str [103,111],.str [106,97,99,107,112,111,116],.str [97,92,34,98],.str []]:List DV)[k3]? = some (.str (C2a.getD k3 [])):=by
    match k3,hlt3 with
    | 0,_=>rfl
    | 1,_=>rfl
    | 2,_=>rfl
    | 3,_=>rfl
   have hg:=O6 (l:=C2a) (n:=10) (by decide) k3;generalize hog:C2a.getD k3 []=og at hg hld;generalize hWL:([.str [103,111],.str [106,97,99,107,112,111,116],.str [97,92,34,98],.str []]:List DV)=WL at hld ⊢;have ne0:=M8 t c2 (by omega);obtain ⟨x1,e1,m1,a1⟩:=E0 [116,101,120,116,32,34] og (by (try simp)<;>omega);try simp only [A0E,A0F] at m1
   obtain ⟨x2,e2,m2,a2⟩:=E0 x1 [34,44,32] (by (try simp)<;>omega);try simp only [A0E,A0F] at m2
   simp only [go_sem,seval,hmg,A0,A1,ne0,hia,hld,hw1,a1,a2];refine ⟨by and_intros<;>first|rfl|(rw [<- hWL];done)|((repeat rw [A2 (by omega)]);exact hfr _ (by omega)),?_⟩;refine AC.call (Y4 L hL w hw 0 (by decide) j1 b1 _ _ t (by simp only [M1];rw [if_neg (by simp;omega)];exact A0) (by omega)) ?_;rintro v' H' c4 ⟨r1,j2,g1,l1,b2,rfl,rfl⟩ hc4;obtain ⟨x3,e3,m3,a3⟩:=E0 x2 r1 (by (try simp)<;>omega);try simp only [A0E,A0F] at m3
   obtain ⟨x4,e4,m4,a4⟩:=E0 x3 [59] (by (try simp)<;>omega);try simp only [A0E,A0F] at m4
   simp only [go_sem,seval,hmg,A0,A1,ne0,hia,hld,hw1,a1,a2,a3,a4];refine ⟨by and_intros<;>first|rfl|(rw [<- hWL];done)|((repeat rw [A2 (by omega)]);exact hfr _ (by omega)),?_⟩;repeat' ((with_reducible apply wr)<;>try simp only [go_sem,seval])
   exact ⟨_,_,A2p hfr htc (by omega),x4,j2,by rw [e4,e3,e2,e1, <- hog];exact .txt hlt3 g1,by omega,b2,rfl,rfl⟩
 by_cases k18:k=18
 ·subst k18;cases qd;all_goals
   simp only [go_sem,seval,hqd];repeat' ((with_reducible apply wr)<;>try simp only [go_sem,seval,hqd,hw1])
   refine AC.call (N3 L hL w hw [118] (by decide) 3 (by decide) (by decide) j hj _ _ t A0 (by omega)) ?_;rintro v' H' c3 ⟨r1,j1,g1,l1,b1,rfl,rfl⟩ hc3;rw [A1];obtain ⟨x1,e1,m1,a1⟩:=E0 r1 [32,61,32] (by (try simp)<;>omega);try simp only [A0E,A0F] at m1
   simp only [go_sem,seval,a1,hw1];repeat' ((with_reducible apply wr)<;>try simp only [go_sem,seval,a1,hw1])
   refine AC.call (Y4 L hL w hw 2 (by decide) j1 b1 _ _ t A0 (by omega)) ?_;rintro v' H' c4 ⟨r2,j2,g2,l2,b2,rfl,rfl⟩ hc4;rw [A1];obtain ⟨x2,e2,m2,a2⟩:=E0 x1 r2 (by (try simp)<;>omega);try simp only [A0E,A0F] at m2
   obtain ⟨x3,e3,m3,a3⟩:=E0 x2 [59] (by (try simp)<;>omega);try simp only [A0E,A0F] at m3
   simp only [go_sem,seval,a2,a3,hw1];repeat' ((with_reducible apply wr)<;>try simp only [go_sem,seval,a2,a3,hw1])
   exact ⟨_,_,GL.refl _ _,x3,j2,by rw [e3,e2,e1];exact .asg g1 g2,by omega,b2,rfl,rfl⟩
 by_cases k19:k=19
 ·subst k19;cases qd;all_goals
   simp only [go_sem,seval,hqd];repeat' ((with_reducible apply wr)<;>try simp only [go_sem,seval,hqd,hw1])
   refine AC.call (N3 L hL w hw [118] (by decide) 3 (by decide) (by decide) j hj _ _ t A0 (by omega)) ?_;rintro v' H' c3 ⟨r1,j1,g1,l1,b1,rfl,rfl⟩ hc3;rw [A1];obtain ⟨x1,e1,m1,a1⟩:=E0 r1 [32,61,32] (by (try simp)<;>omega);try simp only [A0E,A0F] at m1
   simp only [go_sem,seval,a1,hw1];repeat' ((with_reducible apply wr)<;>try simp only [go_sem,seval,a1,hw1])
   refine AC.call (Y4 L hL w hw 2 (by decide) j1 b1 _ _ t A0 (by omega)) ?_;rintro v' H' c4 ⟨r2,j2,g2,l2,b2,rfl,rfl⟩ hc4;rw [A1];obtain ⟨x2,e2,m2,a2⟩:=E0 x1 r2 (by (try simp)<;>omega);try simp only [A0E,A0F] at m2
   obtain ⟨x3,e3,m3,a3⟩:=E0 x2 [59] (by (try simp)<;>omega);try simp only [A0E,A0F] at m3
   simp only [go_sem,seval,a2,a3,hw1];repeat' ((with_reducible apply wr)<;>try simp only [go_sem,seval,a2,a3,hw1])
   exact ⟨_,_,GL.refl _ _,x3,j2,by rw [e3,e2,e1];exact .asg g1 g2,by omega,b2,rfl,rfl⟩
 by_cases k0:k=0
 ·subst k0;cases qd;all_goals
   simp only [go_sem,seval,hqd];repeat' ((with_reducible apply wr)<;>try simp only [go_sem,seval,hqd,hw1])
   refine AC.call (N3 L hL w hw [118] (by decide) 3 (by decide) (by decide) j hj _ _ t A0 (by omega)) ?_;rintro v' H' c3 ⟨r1,j1,g1,l1,b1,rfl,rfl⟩ hc3;rw [A1];obtain ⟨x1,e1,m1,a1⟩:=E0 r1 [32,61,32] (by (try simp)<;>omega);try simp only [A0E,A0F] at m1
   simp only [go_sem,seval,a1,hw1];repeat' ((with_reducible apply wr)<;>try simp only [go_sem,seval,a1,hw1])
   refine AC.call (Y4 L hL w hw 2 (by decide) j1 b1 _ _ t A0 (by omega)) ?_;rintro v' H' c4 ⟨r2,j2,g2,l2,b2,rfl,rfl⟩ hc4;rw [A1];obtain ⟨x2,e2,m2,a2⟩:=E0 x1 r2 (by (try simp)<;>omega);try simp only [A0E,A0F] at m2
   obtain ⟨x3,e3,m3,a3⟩:=E0 x2 [59] (by (try simp)<;>omega);try simp only [A0E,A0F] at m3
   simp only [go_sem,seval,a2,a3,hw1];repeat' ((with_reducible apply wr)<;>try simp only [go_sem,seval,a2,a3,hw1])
   exact ⟨_,_,GL.refl _ _,x3,j2,by rw [e3,e2,e1];exact .asg g1 g2,by omega,b2,rfl,rfl⟩
 by_cases k3:k=3
 ·subst k3;cases qd
  rotate_left
  ·simp only [go_sem,seval,hqd];repeat' ((with_reducible apply wr)<;>try simp only [go_sem,seval,hqd,hw1])
   refine AC.call (N3 L hL w hw [118] (by decide) 3 (by decide) (by decide) j hj _ _ t A0 (by omega)) ?_;rintro v' H' c3 ⟨r1,j1,g1,l1,b1,rfl,rfl⟩ hc3;rw [A1];obtain ⟨x1,e1,m1,a1⟩:=E0 r1 [32,61,32] (by (try simp)<;>omega);try simp only [A0E,A0F] at m1
   simp only [go_sem,seval,a1,hw1];repeat' ((with_reducible apply wr)<;>try simp only [go_sem,seval,a1,hw1])
   refine AC.call (Y4 L hL w hw 2 (by decide) j1 b1 _ _ t A0 (by omega)) ?_;rintro v' H' c4 ⟨r2,j2,g2,l2,b2,rfl,rfl⟩ hc4;rw [A1];obtain ⟨x2,e2,m2,a2⟩:=E0 x1 r2 (by (try simp)<;>omega);try simp only [A0E,A0F] at m2
   obtain ⟨x3,e3,m3,a3⟩:=E0 x2 [59] (by (try simp)<;>omega);try simp only [A0E,A0F] at m3
   simp only [go_sem,seval,a2,a3,hw1];repeat' ((with_reducible apply wr)<;>try simp only [go_sem,seval,a2,a3,hw1])
   exact ⟨_,_,GL.refl _ _,x3,j2,by rw [e3,e2,e1];exact .asg g1 g2,by omega,b2,rfl,rfl⟩
  have hK':=hK.resolve_left (hqf rfl);simp only [go_sem,seval,hqd];repeat' ((with_reducible apply wr)<;>try simp only [go_sem,seval,hqd,hw1])
  refine AC.call (Y4 L hL w hw 0 (by decide) j hj _ _ t A0 (by omega)) ?_;rintro v' H' c3 ⟨r1,j1,g1,l1,b1,rfl,rfl⟩ hc3;rw [A1];obtain ⟨x1,e1,m1,a1⟩:=E0 [114,101,112,101,97,116,32] r1 (by (try simp)<;>omega);try simp only [A0E,A0F] at m1
  obtain ⟨x2,e2,m2,a2⟩:=E0 x1 [32] (by (try simp)<;>omega);try simp only [A0E,A0F] at m2
  simp only [go_sem,seval,a1,a2,hw1];repeat' ((with_reducible apply wr)<;>try simp only [go_sem,seval,a1,a2,hw1])
  refine AC.call (hK' j1 b1 _ _ t A0 (by omega)) ?_;rintro v' H' c4 ⟨r2,j2,g2,l2,b2,rfl,rfl⟩ hc4;rw [A1];obtain ⟨x3,e3,m3,a3⟩:=E0 x2 r2 (by (try simp)<;>omega);try simp only [A0E,A0F] at m3
  simp only [go_sem,seval,a3,hw1];repeat' ((with_reducible apply wr)<;>try simp only [go_sem,seval,a3,hw1])
  exact ⟨_,_,GL.refl _ _,x3,j2,by rw [e3,e2,e1];exact .rep g1 g2,by omega,b2,rfl,rfl⟩
 by_cases k1:k=1
 ·subst k1;cases qd
  rotate_left
  ·simp only [go_sem,seval,hqd];repeat' ((with_reducible apply wr)<;>try simp only [go_sem,seval,hqd,hw1])
   refine AC.call (N3 L hL w hw [118] (by decide) 3 (by decide) (by decide) j hj _ _ t A0 (by omega)) ?_;rintro v' H' c3 ⟨r1,j1,g1,l1,b1,rfl,rfl⟩ hc3;rw [A1];obtain ⟨x1,e1,m1,a1⟩:=E0 r1 [32,61,32] (by (try simp)<;>omega);try simp only [A0E,A0F] at m1
   simp only [go_sem,seval,a1,hw1];repeat' ((with_reducible apply wr)<;>try simp only [go_sem,seval,a1,hw1])
   refine AC.call (Y4 L hL w hw 2 (by decide) j1 b1 _ _ t A0 (by omega)) ?_;rintro v' H' c4 ⟨r2,j2,g2,l2,b2,rfl,rfl⟩ hc4;rw [A1];obtain ⟨x2,e2,m2,a2⟩:=E0 x1 r2 (by (try simp)<;>omega);try simp only [A0E,A0F] at m2
   obtain ⟨x3,e3,m3,a3⟩:=E0 x2 [59] (by (try simp)<;>omega);try simp only [A0E,A0F] at m3
   simp only [go_sem,seval,a2,a3,hw1];repeat' ((with_reducible apply wr)<;>try simp only [go_sem,seval,a2,a3,hw1])
   exact ⟨_,_,GL.refl _ _,x3,j2,by rw [e3,e2,e1];exact .asg g1 g2,by omega,b2,rfl,rfl⟩
  have hK':=hK.resolve_left (hqf rfl);simp only [go_sem,seval,hqd];repeat' ((with_reducible apply wr)<;>try simp only [go_sem,seval,hqd,hw1])
  refine AC.call (B2j L hL w hw 1 (by decide) j hj _ _ t A0 (by omega)) ?_;rintro v' H' c3 ⟨r1,j1,g1,l1,b1,rfl,rfl⟩ hc3;rw [A1];obtain ⟨x1,e1,m1,a1⟩:=E0 [105,102,32] r1 (by (try simp)<;>omega);try simp only [A0E,A0F] at m1
  obtain ⟨x2,e2,m2,a2⟩:=E0 x1 [32] (by (try simp)<;>omega);try simp only [A0E,A0F] at m2
  simp only [go_sem,seval,a1,a2,hw1];repeat' ((with_reducible apply wr)<;>try simp only [go_sem,seval,a1,a2,hw1])
  refine AC.call (hK' j1 b1 _ _ t A0 (by omega)) ?_;rintro v' H' c4 ⟨r2,j2,g2,l2,b2,rfl,rfl⟩ hc4;rw [A1];obtain ⟨x3,e3,m3,a3⟩:=E0 x2 r2 (by (try simp)<;>omega);try simp only [A0E,A0F] at m3
  simp only [go_sem,seval,a3,hw1];repeat' ((with_reducible apply wr)<;>try simp only [go_sem,seval,a3,hw1])
  refine AC.call (U6 L hL w 3 (by decide) (by decide) j2 b2 _ _ t A0 (by omega)) ?_;rintro v' H' c5 ⟨q,j3,hq,b3,p3,rfl,rfl⟩ hc5;rw [A1];by_cases q1:q=1
  ·subst q1;obtain ⟨x4,e4,m4,a4⟩:=E0 x3 [32,101,108,115,101,32] (by (try simp)<;>omega);try simp only [A0E,A0F] at m4
   simp only [go_sem,seval,a4,hw1];repeat' ((with_reducible apply wr)<;>try simp only [go_sem,seval,a4,hw1])
   refine AC.call (hK' j3 b3 _ _ t A0 (by omega)) ?_;rintro v' H' c6 ⟨r4,j4,g4,l4,b4,rfl,rfl⟩ hc6;rw [A1];obtain ⟨x5,e5,m5,a5⟩:=E0 x4 r4 (by (try simp)<;>omega);try simp only [A0E,A0F] at m5
   simp only [go_sem,seval,a5,hw1];repeat' ((with_reducible apply wr)<;>try simp only [go_sem,seval,a5,hw1])
   exact ⟨_,_,GL.refl _ _,x5,j4,by rw [e5,e4,e3,e2,e1];exact .ifB g1 g2 g4,by omega,b4,rfl,rfl⟩
  by_cases q2:q=2
  ·subst q2;obtain ⟨x4,e4,m4,a4⟩:=E0 x3 [32,101,108,115,101,32,105,102,32] (by (try simp)<;>omega);try simp only [A0E,A0F] at m4
   simp only [go_sem,seval,a4,hw1];repeat' ((with_reducible apply wr)<;>try simp only [go_sem,seval,a4,hw1])
   refine AC.call (B2j L hL w hw 0 (by decide) j3 b3 _ _ t A0 (by omega)) ?_;rintro v' H' c6 ⟨r4,j4,g4,l4,b4,rfl,rfl⟩ hc6;rw [A1];obtain ⟨x5,e5,m5,a5⟩:=E0 x4 r4 (by (try simp)<;>omega);try simp only [A0E,A0F] at m5
   obtain ⟨x6,e6,m6,a6⟩:=E0 x5 [32] (by (try simp)<;>omega);try simp only [A0E,A0F] at m6
   simp only [go_sem,seval,a5,a6,hw1];repeat' ((with_reducible apply wr)<;>try simp only [go_sem,seval,a5,a6,hw1])
   refine AC.call (hK' j4 b4 _ _ t A0 (by omega)) ?_;rintro v' H' c7 ⟨r5,j5,g5,l5,b5,rfl,rfl⟩ hc7;rw [A1];obtain ⟨x7,e7,m7,a7⟩:=E0 x6 r5 (by (try simp)<;>omega);try simp only [A0E,A0F] at m7
   simp only [go_sem,seval,a7,hw1];repeat' ((with_reducible apply wr)<;>try simp only [go_sem,seval,a7,hw1])
   exact ⟨_,_,GL.refl _ _,x7,j5,by rw [e7,e6,e5,e4,e3,e2,e1];exact .ifC g1 g2 g4 g5,by omega,b5,rfl,rfl⟩
  obtain rfl:q=0:=by omega
  simp only [go_sem,seval];repeat' ((with_reducible apply wr)<;>try simp only [go_sem,seval])
  exact ⟨_,_,GL.refl _ _,x3,j3,by rw [e3,e2,e1];exact .ifA g1 g2,by omega,b3,rfl,rfl⟩
 by_cases k2:k=2
 ·subst k2;cases qd
  rotate_left
  ·simp only [go_sem,seval,hqd];repeat' ((with_reducible apply wr)<;>try simp only [go_sem,seval,hqd,hw1])
   refine AC.call (N3 L hL w hw [118] (by decide) 3 (by decide) (by decide) j hj _ _ t A0 (by omega)) ?_;rintro v' H' c3 ⟨r1,j1,g1,l1,b1,rfl,rfl⟩ hc3;rw [A1];obtain ⟨x1,e1,m1,a1⟩:=E0 r1 [32,61,32] (by (try simp)<;>omega);try simp only [A0E,A0F] at m1
   simp only [go_sem,seval,a1,hw1];repeat' ((with_reducible apply wr)<;>try simp only [go_sem,seval,a1,hw1])
   refine AC.call (Y4 L hL w hw 2 (by decide) j1 b1 _ _ t A0 (by omega)) ?_;rintro v' H' c4 ⟨r2,j2,g2,l2,b2,rfl,rfl⟩ hc4;rw [A1];obtain ⟨x2,e2,m2,a2⟩:=E0 x1 r2 (by (try simp)<;>omega);try simp only [A0E,A0F] at m2
   obtain ⟨x3,e3,m3,a3⟩:=E0 x2 [59] (by (try simp)<;>omega);try simp only [A0E,A0F] at m3
   simp only [go_sem,seval,a2,a3,hw1];repeat' ((with_reducible apply wr)<;>try simp only [go_sem,seval,a2,a3,hw1])
   exact ⟨_,_,GL.refl _ _,x3,j2,by rw [e3,e2,e1];exact .asg g1 g2,by omega,b2,rfl,rfl⟩
  have hK':=hK.resolve_left (hqf rfl);simp only [go_sem,seval,hqd];repeat' ((with_reducible apply wr)<;>try simp only [go_sem,seval,hqd,hw1])
  refine AC.call (B2j L hL w hw 1 (by decide) j hj _ _ t A0 (by omega)) ?_;rintro v' H' c3 ⟨r1,j1,g1,l1,b1,rfl,rfl⟩ hc3;rw [A1];obtain ⟨x1,e1,m1,a1⟩:=E0 [105,102,32] r1 (by (try simp)<;>omega);try simp only [A0E,A0F] at m1
  obtain ⟨x2,e2,m2,a2⟩:=E0 x1 [32] (by (try simp)<;>omega);try simp only [A0E,A0F] at m2
  simp only [go_sem,seval,a1,a2,hw1];repeat' ((with_reducible apply wr)<;>try simp only [go_sem,seval,a1,a2,hw1])
  refine AC.call (hK' j1 b1 _ _ t A0 (by omega)) ?_;rintro v' H' c4 ⟨r2,j2,g2,l2,b2,rfl,rfl⟩ hc4;rw [A1];obtain ⟨x3,e3,m3,a3⟩:=E0 x2 r2 (by (try simp)<;>omega);try simp only [A0E,A0F] at m3
  simp only [go_sem,seval,a3,hw1];repeat' ((with_reducible apply wr)<;>try simp only [go_sem,seval,a3,hw1])
  refine AC.call (U6 L hL w 3 (by decide) (by decide) j2 b2 _ _ t A0 (by omega)) ?_;rintro v' H' c5 ⟨q,j3,hq,b3,p3,rfl,rfl⟩ hc5;rw [A1];by_cases q1:q=1
  ·subst q1;obtain ⟨x4,e4,m4,a4⟩:=E0 x3 [32,101,108,115,101,32] (by (try simp)<;>omega);try simp only [A0E,A0F] at m4
   simp only [go_sem,seval,a4,hw1];repeat' ((with_reducible apply wr)<;>try simp only [go_sem,seval,a4,hw1])
   refine AC.call (hK' j3 b3 _ _ t A0 (by omega)) ?_;rintro v' H' c6 ⟨r4,j4,g4,l4,b4,rfl,rfl⟩ hc6;rw [A1];obtain ⟨x5,e5,m5,a5⟩:=E0 x4 r4 (by (try simp)<;>omega);try simp only [A0E,A0F] at m5
   simp only [go_sem,seval,a5,hw1];repeat' ((with_reducible apply wr)<;>try simp only [go_sem,seval,a5,hw1])
   exact ⟨_,_,GL.refl _ _,x5,j4,by rw [e5,e4,e3,e2,e1];exact .ifB g1 g2 g4,by omega,b4,rfl,rfl⟩
  by_cases q2:q=2
  ·subst q2;obtain ⟨x4,e4,m4,a4⟩:=E0 x3 [32,101,108,115,101,32,105,102,32] (by (try simp)<;>omega);try simp only [A0E,A0F] at m4
   simp only [go_sem,seval,a4,hw1];repeat' ((with_reducible apply wr)<;>try simp only [go_sem,seval,a4,hw1])
   refine AC.call (B2j L hL w hw 0 (by decide) j3 b3 _ _ t A0 (by omega)) ?_;rintro v' H' c6 ⟨r4,j4,g4,l4,b4,rfl,rfl⟩ hc6;rw [A1];obtain ⟨x5,e5,m5,a5⟩:=E0 x4 r4 (by (try simp)<;>omega);try simp only [A0E,A0F] at m5
   obtain ⟨x6,e6,m6,a6⟩:=E0 x5 [32] (by (try simp)<;>omega);try simp only [A0E,A0F] at m6
   simp only [go_sem,seval,a5,a6,hw1];repeat' ((with_reducible apply wr)<;>try simp only [go_sem,seval,a5,a6,hw1])
   refine AC.call (hK' j4 b4 _ _ t A0 (by omega)) ?_;rintro v' H' c7 ⟨r5,j5,g5,l5,b5,rfl,rfl⟩ hc7;rw [A1];obtain ⟨x7,e7,m7,a7⟩:=E0 x6 r5 (by (try simp)<;>omega);try simp only [A0E,A0F] at m7
   simp only [go_sem,seval,a7,hw1];repeat' ((with_reducible apply wr)<;>try simp only [go_sem,seval,a7,hw1])
   exact ⟨_,_,GL.refl _ _,x7,j5,by rw [e7,e6,e5,e4,e3,e2,e1];exact .ifC g1 g2 g4 g5,by omega,b5,rfl,rfl⟩
  obtain rfl:q=0:=by omega
  simp only [go_sem,seval];repeat' ((with_reducible apply wr)<;>try simp only [go_sem,seval])
  exact ⟨_,_,GL.refl _ _,x3,j3,by rw [e3,e2,e1];exact .ifA g1 g2,by omega,b3,rfl,rfl⟩
 omega
end Go.Proofs.YtnmkkggfgdfmeaaGreatDoor
end

/-
  HELPERS of the claim: part 10 of its texts.
-/
import Derived.Test.YthlpinppaclofaaGreatDoorProg
import Derived.Test.YthlpinppaclofaaGreatDoorSywi
noncomputable section
set_option maxHeartbeats 4000000
set_option maxRecDepth 100000
set_option linter.unusedSimpArgs false
set_option linter.unusedVariables false
namespace Go.Proofs.YthlpinppaclofaaGreatDoor
open Go.Eng (IC IOper DReg IFn B4)
open Go.Sym Go.Pb
theorem C8y {ρ ρ':Ren} {id id' o n:Nat} {v:Value} (h1 : ρ.nm id = ρ'.nm id') (h:VRel ρ (.slc id o n) v):VRel ρ' (.slc id' o n) v:=by
 cases h with|slc _ _ _ c t h hc hm hr hp=>exact .slc id' o n c t (h1▸h) hc hm hr hp
def OwL (f:Nat) (args:List DV) (l:List (List UInt8)):Prop:=∀ (H:Hp) (c:Nat),AC Tryz.prog f args H c (fun v H' c'=>v=.slc c 0 l.length/\H'=H.upd c ⟨1,true,l.map DV.str⟩/\c'=c+1)
theorem OwL.of {f:Nat} {args:List DV} {l:List (List UInt8)} (na:DV.nlL args=true) (h:AC Tryz.prog f args nil 0 (fun v H' _ => ∃ id,v=.slc id 0 l.length/\H'=nil.upd id ⟨1,true,l.map DV.str⟩)):OwL f args l:=fun H c =>
 AC.own (V:=fun id=>.slc id 0 l.length) h na (fun d hd=>by obtain ⟨x, -,rfl⟩:=A1K.1 hd;rfl) (fun ρ ρ' id id' v h1 _ h3=>C8y h1 h3) H c
theorem R6 {H H':Hp} {id n:Nat} {b:Blk} (hb:H id=some b) (h:∀ j,j≠id->H' j=none\/H' j=H j) (hi:H' id=some b):GL H [.slc id 0 n] H' [.slc id 0 n] :=
 GL.less fun j=>by
  by_cases e:j=id
  ·subst e;right;rw [hi,hb]
  ·exact h j e
theorem c_pr1 (k v:Int) (n:List UInt8) (a:List Ex) (p:Int) (x:Ex) (i:Nat) (hx:a[i]? = some x) (hi:i<=1) (l:List (List UInt8)) (hP:OwL 65 [x.v] l) (hl:l.length<=100000000) (h1:1<=l.length)
  (H:Hp) (c t:Nat) (ht:H t=some ⟨0,true,[I64 k,I64 v,.str n,K6 a,I64 p]⟩) (htc:t<c) :
  AC Tryz.prog 110 [I64 i,.ptr t 0] H c (fun r H' c' => ∃ id,c<=id/\id<c'/\r=.slc id 0 (wrL k x.kind i l).length/\H'=H.upd id ⟨1,true,(wrL k x.kind i l).map DV.str⟩):=by
 have hw:PC Tryz.prog 111 [.agg [I64 k,I64 v,.str n,K6 a,I64 p],I64 i] (.bool (A0l k x.kind i)):=by
  have:=c_wrapped (.mk k v n a p) x i hx hi;rw [Ex.v_w] at this;exact this
 have hxm:(a.map Ex.v)[i]? = some x.v:=by rw [A0V,hx];rfl
 rw [Ex.v_w] at hP hxm;refine AC.bodyT A6 rfl (A0A rfl) fun hfr=>?_;repeat' ((with_reducible first|refine wr ?_|refine k_cu ?_ ?_|refine wb2 ?_ ?_<;>(intro hb;try simp only [hb])|fail)<;>try simp only [go_sem,seval,ht,hxm,Ex.v_w])
 refine AC.call (hP H c) ?_;rintro _ _ _ ⟨rfl,rfl,rfl⟩ -;have ht':(H.upd c ⟨1,true,l.map DV.str⟩) t=some ⟨0,true,[I64 k,I64 v,.str n,K6 a,I64 p]⟩:=by rw [A2 (by omega)];exact ht
 have ne0:=O7 c (c+1) (c+2) (c+3) (c+4) (by omega);obtain ⟨R,hR⟩:∃ R,R=wrL k x.kind i l:=⟨_,rfl⟩;rw [<- hR];unfold wrL at hR;cases hb:A0l k x.kind i with
 | false =>
  rw [hb] at hw hR;rw [if_neg A1T] at hR;simp only [go_sem,seval,ht',ne0];repeat' ((with_reducible first|refine wr ?_|refine cpc hw ?_|refine k_cu ?_ ?_|refine wb2 ?_ ?_<;>(intro hb;try simp only [hb])|fail)<;>try simp only [go_sem,seval,ht',ne0])
  subst hR;exact ⟨_,_,GL.refl _ _,c,A0F _,A2J _,rfl,rfl⟩
 | true =>
  rw [hb] at hw hR;rw [if_pos rfl] at hR;simp only [go_sem,seval,ht',ne0];have tk:List.take l.length (l.map DV.str)=l.map DV.str:=A0L (by simp);repeat' ((with_reducible first|refine wr ?_|refine cpc hw ?_|refine k_cu ?_ ?_|refine wb2 ?_ ?_<;>(intro hb;try simp only [hb])|fail)<;>try simp only [go_sem,seval,ht',ne0,tk])
  refine D2 (E2 (by simp) (by omega) (by omega)) ?_;simp only [go_sem,seval,ne0,A0];repeat' ((with_reducible first|refine wr ?_|refine k_cu ?_ ?_|refine wb2 ?_ ?_<;>(intro hb;try simp only [hb])|fail)<;>try simp only [go_sem,seval,ne0,tk,A0])
  refine D2 (E2 (by simp;omega) (by omega) (by omega)) ?_;simp only [go_sem,seval,ne0,A0];repeat' ((with_reducible first|refine wr ?_|refine k_cu ?_ ?_|refine wb2 ?_ ?_<;>(intro hb;try simp only [hb])|fail)<;>try simp only [go_sem,seval,ne0,tk,A0])
  have hlen:R.length=1+l.length+1:=by rw [hR];simp;omega
  rw [<- hlen];refine ⟨_,H.upd (c+1+1+1+1) ⟨1,true,R.map DV.str⟩,R6 (A0) (fun j hj=>?_) (by rw [A0,hR];simp),c+1+1+1+1,by omega,by omega,rfl,rfl⟩;rw [A2 hj];by_cases hjc:c<=j
  ·exact .inl (hfr j hjc)
  ·right;simp only [Hp.upd,Hp.del];rw [if_neg hj,if_neg (by omega),if_neg (by omega),if_neg (by omega),if_neg (by omega),if_neg (by omega),if_neg (by omega)]
theorem B7g (e:Ex):1<=(txT (exT e)).length/\(txT (exT e)).length<=5 * e.sz:=by
 have:=B0i e;unfold txT;rw [A0H];omega
theorem B2o (k q:Int) (i:Nat) {l:List (List UInt8)} (h:l.length<=100000000):(wrL k q i l).length<=100000002:=by
 unfold wrL;split
 ·simp;omega
 ·omega
theorem c_printed:∀ (m:Nat) (e:Ex),e.sz<m->e.sz<=10000000->(∃ o d,msM e=some (o,d))->OwL 65 [e.v] (txT (exT e)):=by
 intro m
 induction m with
 | zero=>intro e h;omega
 | succ m ih =>
 rintro ⟨k,v,n,a,p⟩ hm hB ⟨o,d,hms⟩;obtain ⟨i1,i2,i3,i4, -,i6⟩:=B9f hms;have hargs:∀ (i:Nat) (x:Ex),a[i]? = some x->OwL 65 [x.v] (txT (exT x)):=fun i x hx=>by
  have hmem:=A0S hx;have hsz:=Ex.sz_arg (e:=.mk k v n a p) hmem;refine ih x (by omega) (by omega) ?_;have hlt:=(A0P.1 hx).1;obtain ⟨d',h1, -⟩:=i6 (by omega);exact B1r h1 x hmem
 have hlv:=c_levS k;have hsg:=c_signOf k;have hlen:∀ (i:Nat) (x:Ex),a[i]? = some x->1<=(txT (exT x)).length/\(txT (exT x)).length<=100000000:=fun i x hx=>by
  have h1:=B7g x;have h2:=Ex.sz_arg (e:=.mk k v n a p) (A0S hx);omega
 refine OwL.of (by simp [DV.nlL,DV.nl,Ex.nl]) ?_;refine AC.bodyT A6 rfl (A0A rfl) fun hfr=>?_;rw [Ex.v_w];dsimp only [Ex.w,Ex.kind,Ex.value,Ex.name,Ex.args,Ex.pos];obtain ⟨R,hR⟩:∃ R,R=txT (exT (.mk k v n a p)):=⟨_,rfl⟩;rw [<- hR];by_cases l6:D7 k=6
 ·have hk:k=10\/k=11:=by
   unfold D7 at l6;repeat' split at l6
   all_goals omega
  have hc:M6 k=1:=by unfold M6;rw [if_pos l6]
  have m6:(D7 k == 6)=true:=by simpa using l6
  obtain ⟨x,rfl⟩:∃ x,a=[x]:=A2O.1 (i2.trans hc);rw [C8x hk] at hR;repeat' ((with_reducible first|refine wr ?_|refine cpc hlv ?_|refine cpc hsg ?_|refine k_cu ?_ ?_|refine wb2 ?_ ?_<;>(intro hb;try simp only [hb])|fail)<;>try simp only [go_sem,seval,m6])
  refine AC.call (c_pr1 k v n [x] p x 0 rfl (by decide) _ (hargs 0 x rfl) (hlen 0 x rfl).2 (hlen 0 x rfl).1 _ _ 0 (by simp only [go_sem,seval]) (by decide)) ?_;rintro _ _ c2 ⟨id,hid,hid2,rfl,rfl⟩ -;have hW:=B2o k x.kind 0 (hlen 0 x rfl).2;generalize wrL k x.kind 0 (txT (exT x))=W at hR hW ⊢;have tk:List.take W.length (W.map DV.str)=W.map DV.str:=A0L (by simp);have ne0:=V2 0 1 id c2 (by omega);simp only [go_sem,seval,ne0,A0,tk];repeat' ((with_reducible first|refine wr ?_|refine k_cu ?_ ?_|refine wb2 ?_ ?_<;>(intro hb;try simp only [hb])|fail)<;>try simp only [go_sem,seval,ne0,A0,tk])
  refine D2 (E2 (by simp) (by omega) (by omega)) ?_;simp only [go_sem,seval,ne0,A0];repeat' ((with_reducible first|refine wr ?_|refine k_cu ?_ ?_|refine wb2 ?_ ?_<;>(intro hb;try simp only [hb])|fail)<;>try simp only [go_sem,seval,ne0,A0])
  have hl:R.length=1+W.length:=by rw [hR];simp;omega
  rw [<- hl];exact ⟨_,nil.upd c2 ⟨1,true,R.map DV.str⟩,R6 A0 (fun j hj=>.inl (by rw [A2 hj];rfl)) (by rw [A0,hR];simp),c2,rfl,rfl⟩
 have m6:(D7 k == 6)=false:=by simpa using l6
 by_cases l5:D7 k<6
 ·have m5:decide (D7 k<6)=true:=by simpa using l5
  have hc:M6 k=2:=by unfold M6;rw [if_neg l6,if_pos l5]
  obtain ⟨x,y,rfl⟩:∃ x y,a=[x,y]:=by
   have:=i2.trans hc
   match a with
   | [x,y]=>exact ⟨x,y,rfl⟩
  rw [C5m l5] at hR;repeat' ((with_reducible first|refine wr ?_|refine cpc hlv ?_|refine cpc hsg ?_|refine k_cu ?_ ?_|refine wb2 ?_ ?_<;>(intro hb;try simp only [hb])|fail)<;>try simp only [go_sem,seval,m6,m5])
  refine AC.call (c_pr1 k v n [x,y] p x 0 rfl (by decide) _ (hargs 0 x rfl) (hlen 0 x rfl).2 (hlen 0 x rfl).1 _ _ 0 (by simp only [go_sem,seval]) (by decide)) ?_;rintro _ _ c2 ⟨id,hid,hid2,rfl,rfl⟩ -;have hW:=B2o k x.kind 0 (hlen 0 x rfl).2;generalize wrL k x.kind 0 (txT (exT x))=W at hR hW ⊢;have hW2:=B2o k y.kind 1 (hlen 1 y rfl).2;have tk:List.take W.length (W.map DV.str)=W.map DV.str:=A0L (by simp);have ne0:=J7 0 id c2 (by omega);simp only [go_sem,seval,ne0,A0,tk];refine ⟨by and_intros<;>(repeat rw [A2 (by omega)])<;>rfl,?_⟩;refine cpc hsg ?_;simp only [go_sem,seval,ne0,A0,tk,m6,m5];refine ⟨by rw [A2 (by omega)];rfl,?_⟩;rw [A2 (show ¬ id=6 by omega),A0];refine N9 (E2 (by simp) (by omega) (by omega)) ?_;simp only [go_sem,seval,ne0,A0,tk,m6,m5];obtain ⟨M,hM⟩:∃ M,M=((((nil.upd 0 ⟨0,true,[I64 k,I64 v,.str n,K6 [x,y],I64 p]⟩).upd id ⟨1,true,W.map DV.str⟩).upd 6 ⟨1,true,[DV.str (A6f k)]⟩).del id).upd c2 ⟨1,true,W.map DV.str++[DV.str (A6f k)]⟩:=⟨_,rfl⟩;rw [<- hM];have hM8:M 8=none:=by rw [hM];simp only [Hp.upd,Hp.del];(repeat rw [if_neg (by omega)]);rfl
  have hM0:M 0=some ⟨0,true,[I64 k,I64 v,.str n,K6 [x,y],I64 p]⟩:=by rw [hM];simp only [Hp.upd,Hp.del];(repeat rw [if_neg (by omega)]);rfl
  have hMc:M c2=some ⟨1,true,W.map DV.str++[DV.str (A6f k)]⟩:=by rw [hM];exact A0
  clear hM;refine ⟨hM8,?_⟩;refine AC.call (c_pr1 k v n [x,y] p y 1 rfl (by decide) _ (hargs 1 y rfl) (hlen 1 y rfl).2 (hlen 1 y rfl).1 _ _ 0 hM0 (by omega)) ?_;rintro _ _ c3 ⟨id2,hid3,hid4,rfl,rfl⟩ -;generalize wrL k y.kind 1 (txT (exT y))=W2 at hR hW2 ⊢;have tk2:List.take W2.length (W2.map DV.str)=W2.map DV.str:=A0L (by simp);have hMc2:(M.upd id2 ⟨1,true,W2.map DV.str⟩) c2=some ⟨1,true,W.map DV.str++[DV.str (A6f k)]⟩:=by rw [A2 (by omega)];exact hMc
  have ne0:=J7 0 id2 c3 (by omega);simp only [go_sem,seval,ne0,A0,tk2,hMc2];refine N9 (E2 (by simp) (by omega) (by omega)) ?_;simp only [go_sem,seval,ne0,A0];repeat' ((with_reducible first|refine wr ?_|refine k_cu ?_ ?_|refine wb2 ?_ ?_<;>(intro hb;try simp only [hb])|fail)<;>try simp only [go_sem,seval,ne0,A0])
  have hl:R.length=W.length+1+W2.length:=by rw [hR];simp;omega
  rw [<- hl];exact ⟨_,nil.upd c3 ⟨1,true,R.map DV.str⟩,R6 A0 (fun j hj=>.inl (by rw [A2 hj];rfl)) (by rw [A0,hR];simp),c3,rfl,rfl⟩
 have m5:decide (D7 k<6)=false:=by simpa using l5
 have l7:D7 k=7:=by have:=B6o k;omega
 have hc:M6 k=0:=by unfold M6;rw [if_neg l6,if_neg l5]
 obtain rfl:a=[]:=A2C (i2.trans hc);rw [C1j l7 i1 i3 i4] at hR;by_cases h1:k=1
 ·subst h1;rw [if_pos rfl] at hR;repeat' ((with_reducible first|refine wr ?_|refine cpc hlv ?_|refine cpc hsg ?_|refine k_cu ?_ ?_|refine wb2 ?_ ?_<;>(intro hb;try simp only [hb])|fail)<;>try simp only [go_sem,seval,m6,m5])
  refine AC.call (B8y (xs:=[Tok.v ⟨3,[],v,0⟩]) (u:=4) (id:=1) (c_Text [⟨3,[],v,0⟩] (by simp) ?_) A0 rfl rfl (P6 [⟨3,[],v,0⟩])) ?_
  ·intro t ht;obtain rfl:=A0Y.1 ht;have hv:0<=v/\v<=2147483647:=by
    unfold A5s at i4;simp at i4;omega
   exact ⟨by simp,by dsimp only;omega,by dsimp only;omega⟩
  rintro _ _ _ ⟨rfl,rfl,rfl⟩ -;rw [show U7 [⟨3,[],v,0⟩]=F9 v by rw [<- A1g];simp [Lib.join,L6]];simp only [go_sem,seval];repeat' ((with_reducible first|refine wr ?_|refine k_cu ?_ ?_|refine wb2 ?_ ?_<;>(intro hb;try simp only [hb])|fail)<;>try simp only [go_sem,seval])
  exact ⟨_,nil.upd 2 ⟨1,true,R.map DV.str⟩,by rw [hR];exact R6 A0 (fun j hj=>.inl (by rw [A2 hj];rfl)) A0,2,by rw [hR];rfl,rfl⟩
 by_cases h2:k=2
 ·subst h2;rw [if_neg h1,if_pos rfl] at hR;repeat' ((with_reducible first|refine wr ?_|refine cpc hlv ?_|refine cpc hsg ?_|refine k_cu ?_ ?_|refine wb2 ?_ ?_<;>(intro hb;try simp only [hb])|fail)<;>try simp only [go_sem,seval,m6,m5])
  exact ⟨_,nil.upd 1 ⟨1,true,R.map DV.str⟩,by rw [hR];exact R6 A0 (fun j hj=>.inl (by rw [A2 hj];rfl)) A0,1,by rw [hR];rfl,rfl⟩
 rw [if_neg h1,if_neg h2] at hR;have d1:(k == 1)=false:=by simpa using h1
 have d2:(k == 2)=false:=by simpa using h2
 repeat' ((with_reducible first|refine E1 (p:=IW _ _ (pz Tryz.prog 65 (.i (.o (.i (.o (.o .h)))))) _ _) ?_|refine wr ?_|refine cpc hlv ?_|refine cpc hsg ?_|refine k_cu ?_ ?_|refine wb2 ?_ ?_<;>(intro hb;try simp only [hb])|fail)<;>try simp only [go_sem,seval,m6,m5,d1,d2])
 unfold U5;have hr:3<=k/\k<=9:=by
  unfold kOk at i1;simp only [l7,Int.lt_irrefl,decide_false,A3Q,A0G,A0M] at i1;have hk9:k<=9:=Classical.byContradiction fun hc=>by
   have:D7 k<7:=by unfold D7;repeat' split;all_goals omega
   omega
  omega
 obtain ⟨j0,hj0,hj7⟩:∃ j0:Nat,H6[j0]? = some k/\j0<7:=by
  have hk9:k=3\/k=4\/k=5\/k=6\/k=7\/k=8\/k=9:=by omega
  rcases hk9 with rfl|rfl|rfl|rfl|rfl|rfl|rfl
  ·exact ⟨0,rfl,by decide⟩
  ·exact ⟨1,rfl,by decide⟩
  ·exact ⟨4,rfl,by decide⟩
  ·exact ⟨5,rfl,by decide⟩
  ·exact ⟨6,rfl,by decide⟩
  ·exact ⟨2,rfl,by decide⟩
  ·exact ⟨3,rfl,by decide⟩
 obtain ⟨w,hw⟩:∃ w,w=P2 F1 H6 k:=⟨_,rfl⟩;refine B0g c_lvs (σ := Option Nat) (fun o=>[(1,.ptr 0 0),(5,B3 o 1)]) (fun o=>B9 (nil.upd 0 ⟨0,true,[I64 k,I64 v,.str n,K6 [],I64 p]⟩) o ⟨1,true,[.str w]⟩)
  (fun D o c=>1<=c/\(∀ i,o=some i->0<i/\i<c/\∃ j∈D,H6[j]? = some k)/\(o=none->∀ j∈D,H6[j]? ≠ some k)) none (by decide) (fun _=>rfl) ⟨rfl,rfl,trivial⟩ (Sub.refl _) ⟨by decide,(by intro i h;cases h),fun _ j hj=>by cases hj⟩ ?_ ?_
 ·rintro D o c ⟨hc1,ho,hno⟩ hall;rcases o with _|id
  ·exact absurd hj0 (hno rfl j0 (hall j0 hj7))
  obtain ⟨g1,g2, -⟩:=ho id rfl;have hnm:=c_namedS k;rw [<- hw] at hR;have ne0:=V2 0 id c (c+1) (by omega);cases hb:A2d k with
  | true =>
   rw [hb] at hnm hR;rw [if_pos rfl] at hR;repeat' ((with_reducible first|refine wr ?_|refine cpc hnm ?_|refine k_cu ?_ ?_|refine wb2 ?_ ?_<;>(intro hb;try simp only [hb])|fail)<;>try simp only [go_sem,seval,ne0,A0])
   refine D2 (E2 rfl (by decide) (by decide)) ?_;simp only [go_sem,seval,ne0,A0];repeat' ((with_reducible first|refine wr ?_|refine k_cu ?_ ?_|refine wb2 ?_ ?_<;>(intro hb;try simp only [hb])|fail)<;>try simp only [go_sem,seval,ne0,A0])
   exact ⟨_,nil.upd (c+1) ⟨1,true,R.map DV.str⟩,by rw [hR];exact R6 A0 (fun j hj=>.inl (by rw [A2 hj];rfl)) A0,c+1,by rw [hR];rfl,rfl⟩
  | false =>
   rw [hb] at hnm hR;rw [if_neg A1T] at hR;repeat' ((with_reducible first|refine wr ?_|refine cpc hnm ?_|refine k_cu ?_ ?_|refine wb2 ?_ ?_<;>(intro hb;try simp only [hb])|fail)<;>try simp only [go_sem,seval,ne0,A0])
   exact ⟨_,nil.upd id ⟨1,true,R.map DV.str⟩,by rw [hR];exact R6 A0 (fun j hj=>.inl (by rw [A2 hj];rfl)) A0,id,by rw [hR];rfl,rfl⟩
 ·rintro it D o c i kk vv ⟨hc1,ho,hno⟩ hDn hDb hiD hk hv;rw [A0V,A0K] at hk hv;obtain ⟨w',hw',rfl⟩:=hk;obtain ⟨u,hu,rfl⟩:=hv;by_cases hx:u=k
  ·subst hx;obtain rfl:w'=w:=by rw [hw];exact (A5j (by decide) hw' hu).symm
   obtain rfl:o=none:=by
    cases o with
    | none=>rfl
    | some id =>
     obtain ⟨-, -,j,hj,hj2⟩:=ho id rfl;have:i=j:=(List.getElem?_inj (A0P.1 hu).1 (by decide:H6.Nodup)).1 (hu.trans hj2.symm);exact absurd (this▸hj) hiD
   have ne0:=J7 0 c (c+1) (by omega);repeat' ((with_reducible first|refine wr ?_|refine k_cu ?_ ?_|refine wb2 ?_ ?_<;>(intro hb;try simp only [hb])|fail)<;>try simp only [go_sem,seval,ne0,A0])
   refine D2 (A2r (by decide) (by decide) (by decide)) ?_;simp only [go_sem,seval,ne0,A0];repeat' ((with_reducible first|refine wr ?_|refine k_cu ?_ ?_|refine wb2 ?_ ?_<;>(intro hb;try simp only [hb])|fail)<;>try simp only [go_sem,seval,ne0,A0])
   refine ⟨some (c+1),rfl,fun j b hj=>?_,?_⟩
   ·rw [W3] at hj;by_cases e:j=c+1
    ·subst e;rw [A0] at hj ⊢;exact hj
    ·rw [A2 e] at hj ⊢;by_cases e2:j=0
     ·subst e2;rw [A0] at hj;rw [A2 (by omega),A0];exact hj
     ·rw [A2 e2] at hj;cases hj
   ·unfold A7m;exact ⟨by omega,fun i' hi'=>by cases hi';exact ⟨by omega,by omega,i,A0O,hu⟩,fun h=>by cases h⟩
  ·have hx':(u == k)=false:=by simpa using hx
   have h0b:B9 (nil.upd 0 ⟨0,true,[I64 k,I64 v,.str n,K6 [],I64 p]⟩) o ⟨1,true,[.str w]⟩ 0=some ⟨0,true,[I64 k,I64 v,.str n,K6 [],I64 p]⟩:=by
    cases o with
    | none=>exact A0
    | some id=>rw [W3,A2 (by have:=ho id rfl;omega)];exact A0
   repeat' ((with_reducible first|refine wr ?_|refine k_cu ?_ ?_|refine wb2 ?_ ?_<;>(intro hb;try simp only [hb])|fail)<;>try simp only [go_sem,seval,hx',h0b])
   refine ⟨o,rfl,Sub.refl _,?_⟩;unfold A7m;refine ⟨hc1,fun i' hi'=>?_,fun h j hj=>?_⟩
   ·obtain ⟨g1,g2,j,g3,g4⟩:=ho i' hi';exact ⟨g1,g2,j,A0J _ g3,g4⟩
   ·rcases A1M.1 hj with rfl|hj
    ·rw [hu];intro e;cases e;exact hx rfl
    ·exact hno h j hj
theorem A1a (l:List (List UInt8)):A3 (l.map DV.str)=l.map DV.str:=by
 induction l with
 | nil=>rfl
 | cons a l ih=>rw [A0T,A3,A1D];exact congrArg (DV.str a :: ·) ih
theorem B9v {l:List (List UInt8)} {sp:List UInt8} {id cc:Nat} {H:Hp} (hb:H id=some ⟨1,true,l.map DV.str⟩) (h1:l.length<=140737488355328) (h2:(Lib.join l sp).length<=140737488355328) :
  AC Tryz.prog 64 [.slc id 0 l.length,.str sp] H cc (fun v H' c'=>v=.str (Lib.join l sp)/\H'=T2 H (some id)/\c'=cc) :=
 AC.ghost (GL.frzS (id:=id) hb rfl (fun j=>by
  by_cases e:j=id
  ·subst e;exact .inl (by rw [T9,if_pos rfl])
  ·exact .inr ⟨e,by rw [T9,if_neg e]⟩) (.cons _ _ _ _ (J8 (xs:=l.map DV.str) (u:=1) (by simp) (G4 l) ⟨[],by rw [A1a];simp⟩) (.cons _ _ _ _ (.same _) .nil))) ((c_Join l sp h1 h2).at _ cc)
def C8c (e:Ex):List UInt8:=if A5t e=true then U7 (exT e) else []
theorem C4f {e:Ex} (h:A5t e=true):∃ o d,msM e=some (o,d):=by
 unfold A5t at h;split at h
 ·rename_i o d hm;exact ⟨o,d,hm⟩
 ·cases h
theorem c_PFormatE (e:Ex) (hB:e.sz<=100000):PC Tryz.prog 29 [e.v] (.str (C8c e)):=by
 have hx:=C3n e;have hv:=c_ValidExpr e (by omega);refine PC.ofT A6 rfl (A0A rfl) (by simp [DV.nlL,DV.nl,Ex.nl]) rfl ?_;unfold C8c;cases hb:A5t e with
 | false =>
  rw [hb] at hv;rw [if_neg A1T];rw [Ex.v_w] at hv ⊢;repeat' ((with_reducible first|refine wr ?_|refine cpc hv ?_|refine k_cu ?_ ?_|refine wb2 ?_ ?_<;>(intro hb;try simp only [hb])|fail)<;>try simp only [go_sem,seval])
  exact A5 rfl
 | true =>
  have hP:=c_printed _ e (A2J _) (by omega) (C4f hb);rw [hb] at hv;rw [if_pos rfl];rw [Ex.v_w] at hv hP ⊢;repeat' ((with_reducible first|refine wr ?_|refine cpc hv ?_|refine k_cu ?_ ?_|refine wb2 ?_ ?_<;>(intro hb;try simp only [hb])|fail)<;>try simp only [go_sem,seval])
  refine AC.call (hP _ _) ?_;rintro _ _ _ ⟨rfl,rfl,rfl⟩ -;simp only [go_sem,seval];have htl:=A3p hx;have hl:=(B7g e).2;have hle:(exT e).length=(txT (exT e)).length:=by simp [txT]
  have htj:Lib.join (txT (exT e)) [32]=U7 (exT e):=A1g (exT e);refine AC.call (B9v A0 (by omega) (by rw [htj];omega)) ?_;rintro _ _ _ ⟨rfl,rfl,rfl⟩ -;rw [htj];simp only [go_sem,seval];repeat' ((with_reducible first|refine wr ?_|refine k_cu ?_ ?_|refine wb2 ?_ ?_<;>(intro hb;try simp only [hb])|fail)<;>try simp only [go_sem,seval])
  exact ⟨_,GL.refl _ _⟩
end Go.Proofs.YthlpinppaclofaaGreatDoor
set_option linter.unusedSectionVars false
namespace Go.Pb
variable [Go.Sym.Tab]
open Go.Sym
def I5 (P:St->List (List UInt8)) (l:List St):List (List UInt8):=[123] :: (l.flatMap P++[[125]])
abbrev C4z:List UInt8:=[101,108,115,101]
def A7b (P:St->List (List UInt8)):List St->List (List UInt8)
 | []=>[]
 | [s]=>C4z :: (if s.kind=2 then P s else I5 P [s])
 | s :: s2 :: r=>C4z :: I5 P (s :: s2 :: r)
def A4i (P:St->List (List UInt8)) (k:Int) (x y:List St):List (List UInt8):=if (O0 k).thn=true then I5 P x++A7b P y else [[59]]
def agI:Nat->List Ex->List (List UInt8)
 | _,[]=>[]
 | i,e :: l=>(if 0<i then [[44]] else [])++(txT (exT e)++agI (i+1) l)
def txL (k:Int) (t:List UInt8):List (List UInt8):=if (O0 k).text=true then [R5 t,[44]] else []
def hdL (k:Int) (n:List UInt8):List (List UInt8):=if k=1 then [n,[61]] else P2 B6 V7 k :: (if (O0 k).name=true then [n] else [])
def psL (P:St->List (List UInt8)):St->List (List UInt8)
 | .mk k n t a x y p=>hdL k n++(txL k t++(agI 0 a++A4i P k x y))
theorem C1k (x:List UInt8):txT [C9 x]=[x]:=by simp [txT,J1]
theorem H8 (x:List UInt8) (l:List Tok):txT (C9 x :: l)=x :: txT l:=by simp [txT,J1]
theorem M7:txT []=[]:=rfl
theorem Y1:∀ l:List St,A1r l=l.flatMap stT
 | []=>rfl
 | s :: l=>by rw [A1r,Y1 l,A1D]
theorem A4x (l:List St):txT (A1r l)=l.flatMap fun s=>txT (stT s):=by
 rw [Y1,txT,List.map_flatMap];rfl
theorem B2q (l:List St):txT (blT l)=I5 (fun s=>txT (stT s)) l:=by
 rw [blT,E4,E4,A4x,C1k,C1k];rfl
theorem P5 {n:List UInt8} (h:D5 n=true):txT (G5 n)=[n]:=by simp [G5,h,txT,L6]
theorem C1i {t:List UInt8} (h:V4 t=true):txT (A5x t)=[R5 t]:=by
 unfold V4 at h;simp only [A0G,A0M] at h;have h2:¬ (t.all txB=false\/32<t.length):=by
  rintro (h3|h3)
  ·rw [h3] at h;exact absurd h.1 (by decide)
  ·omega
 unfold A5x;rw [if_neg h2];rfl
theorem C1q {k:Int} (h1:2<=k) (h2:k<=19):P2 B6 V7 k=B6.getD (k-2).toNat []:=by
 obtain ⟨j,rfl⟩:∃ j:Nat,k=2+(j:Int):=⟨(k-2).toNat,by omega⟩;have hj:j<18:=by omega
 have:∀ j:Nat,j<18->P2 B6 V7 (2+(j:Int))=B6.getD (2+(j:Int)-2).toNat []:=by decide
 exact this j hj
theorem B7f (e:Ex):agI 0 [e]=txT (exT e):=by simp [agI]
theorem agI2 (e f:Ex):agI 0 [e,f]=txT (exT e)++[44] :: txT (exT f):=by simp [agI]
theorem C9x {s:St} {d:Nat} (h:A3l d s=true):psL (fun s=>txT (stT s)) s=txT (stT s):=by
 obtain ⟨k,n,t,a,x,y,p⟩:=s;unfold A3l at h;simp only [A0G,A0M,A1L] at h;obtain ⟨⟨⟨⟨⟨k1,k2⟩,⟨ha, -⟩⟩,⟨hn,ht⟩⟩,⟨hx,hy⟩⟩, -⟩:=h;rw [psL];obtain ⟨P,hP⟩:∃ P:St->List (List UInt8),P=fun s=>txT (stT s):=⟨_,rfl⟩;rw [<- hP];have hb:I5 P x=[123] :: (txT (A1r x)++[[125]]):=by rw [A4x,hP];rfl
 by_cases c1:k=1
 ·subst c1;obtain ⟨e,rfl⟩:∃ e,a=[e]:=A2O.1 ha;have hn':D5 n=true:=hn;show [n,[61]]++([]++(agI 0 [e]++[[59]]))=_;rw [stT,if_pos rfl,E4,E4,E4,P5 hn',C1k,C1k,B7f];simp [agT]
 have hkey:=C1q (k:=k) (by omega) k2;rw [stT,if_neg c1,if_neg (by omega)];dsimp only;rw [<- hkey];unfold hdL;rw [if_neg c1];by_cases c2:k=2
 ·subst c2;obtain ⟨e,rfl⟩:∃ e,a=[e]:=A2O.1 ha;show [P2 B6 V7 2]++([]++(agI 0 [e]++(I5 P x++A7b P y)))=_;rw [if_pos (.inl rfl),B7f,hb]
  match y with
  | []=>simp [E4,H8,M7,A7b,agT]
  | [s] =>
   have hbs:I5 P [s]=[123] :: (txT (stT s)++[[125]]):=by simp [I5,hP]
   rw [A7b,hbs];dsimp only;by_cases h2:s.kind=2
   ·rw [if_pos h2,if_pos h2];simp [E4,H8,M7,agT,hP]
   ·rw [if_neg h2,if_neg h2];simp [E4,H8,M7,agT]
  | s :: s2 :: r =>
   have hbs:I5 P (s :: s2 :: r)=[123] :: (txT (A1r (s :: s2 :: r))++[[125]]):=by rw [A4x,hP];rfl
   rw [A7b,hbs];simp [E4,H8,M7,agT]
 by_cases c3:k=3
 ·subst c3;obtain ⟨e,rfl⟩:∃ e,a=[e]:=A2O.1 ha;obtain rfl:y=[]:=by cases y with|nil=>rfl|cons a l=>exact absurd (show false=true from hy) (by decide)
  show [P2 B6 V7 3]++([]++(agI 0 [e]++(I5 P x++A7b P [])))=_;rw [if_pos (.inr rfl),B7f,hb];simp [E4,H8,M7,A7b,agT]
 rw [if_neg (by omega:¬ (k=2\/k=3))];by_cases c4:k=4
 ·subst c4;obtain ⟨e,rfl⟩:∃ e,a=[e]:=A2O.1 ha;show [P2 B6 V7 4]++([]++(agI 0 [e]++[[59]]))=_;rw [if_pos rfl,B7f];simp [E4,H8,M7,agT]
 rw [if_neg c4];by_cases c18:k=18
 ·subst c18;obtain ⟨e,rfl⟩:∃ e,a=[e]:=A2O.1 ha;have ht':V4 t=true:=ht;show [P2 B6 V7 18]++([R5 t,[44]]++(agI 0 [e]++[[59]]))=_;rw [if_pos rfl,B7f];simp [E4,H8,M7,agT,C1i ht']
 rw [if_neg c18];by_cases c8:k=8\/k=10
 ·have hs:O0 k=⟨true,false,1,false,false⟩:=by rcases c8 with rfl|rfl<;>rfl
  rw [hs] at ha hn;obtain ⟨e,rfl⟩:∃ e,a=[e]:=A2O.1 ha;have hn':D5 n=true:=hn;unfold txL A4i;rw [hs,if_pos c8,B7f];simp [E4,H8,M7,agT,P5 hn']
 rw [if_neg c8];by_cases c9:k=9
 ·subst c9;obtain ⟨e,f,rfl⟩:∃ e f,a=[e,f]:=by
   match a,ha with
   | [e,f],_=>exact ⟨e,f,rfl⟩
  have hn':D5 n=true:=hn;show [P2 B6 V7 9,n]++([]++(agI 0 [e,f]++[[59]]))=_;rw [if_pos rfl,agI2];simp [E4,H8,M7,agT,P5 hn']
 rw [if_neg c9];by_cases c19:k=19
 ·subst c19;obtain rfl:a=[]:=A2C ha;show [P2 B6 V7 19]++([]++(agI 0 []++[[59]]))=_;rw [if_pos rfl];simp [E4,H8,M7,agI]
 rw [if_neg c19];have hs:O0 k=⟨true,false,0,false,false⟩:=by
  unfold O0;rw [if_neg (by omega),if_neg c9,if_neg c2,if_neg c3,if_neg c4,if_neg c18,if_neg c19]
 rw [hs] at ha hn;obtain rfl:a=[]:=A2C ha;have hn':D5 n=true:=hn;unfold txL A4i;rw [hs];simp [E4,H8,M7,agI,P5 hn']
end Go.Pb
namespace Go.Pb
variable [Go.Sym.Tab]
open Go.Sym
def lnT (t:List UInt8):List UInt8:=if t=[59]\/t=[123]\/t=[125] then t++[10] else t++[32]
def T8 (l:List (List UInt8)):List UInt8:=(l.map lnT).flatten
def H7 (Q:Tok->Prop) (l:List Tok):Prop:=∀ t∈l,Q t
structure Clo (Q:Tok->Prop):Prop where
 z:H7 Q [S2]
 w:∀ x:List UInt8,x.length<=12->H7 Q [C9 x]
 n:∀ x,H7 Q (G5 x)
 v:∀ x,H7 Q (A3x x)
 t:∀ x,H7 Q (A5x x)
section
variable {Q:Tok->Prop} (C:Clo Q)
include C
theorem H7.app {a b:List Tok} (h1:H7 Q a) (h2:H7 Q b):H7 Q (a++b):=fun t ht=>by
 rcases A1I.1 ht with h|h
 ·exact h1 t h
 ·exact h2 t h
theorem C9r:H7 Q []:=fun t ht=>by cases ht
theorem C6v (i:Nat):H7 Q [C9 (C5.getD i [])]:=C.w _ (by
 by_cases hi:i<13
 ·have:∀ i:Nat,i<13->(C5.getD i []).length<=12:=by decide
  exact this i hi
 ·rw [A0Q,A1G (by show 13<=i;omega)];simp)
theorem B3h {q:Int × List Tok} {m:Int} (h:H7 Q q.2):H7 Q (S7 q m):=by
 unfold S7;split
 ·exact ((C.w _ (by decide)).app C h).app C (C.w _ (by decide))
 ·exact h
theorem C2e {k v:Int} {n:List UInt8} {as1:List (Int × List Tok)} (h:∀ q∈as1,H7 Q q.2):H7 Q (J2 k v n as1):=by
 unfold J2;dsimp only;by_cases k1:k=1
 ·rw [if_pos k1];exact C.v v
 rw [if_neg k1];by_cases k2:k=2
 ·rw [if_pos k2];exact C.n n
 rw [if_neg k2];by_cases k3:k=3
 ·rw [if_pos k3];exact C.w _ (by decide)
 rw [if_neg k3];by_cases k4:k=4
 ·rw [if_pos k4];exact C.w _ (by decide)
 rw [if_neg k4];by_cases k8:k=8
 ·rw [if_pos k8];exact C.w _ (by decide)
 rw [if_neg k8];by_cases k9:k=9
 ·rw [if_pos k9];exact C.w _ (by decide)
 rw [if_neg k9];by_cases k5:k=5
 ·rw [if_pos k5];exact (C.w _ (by decide)).app C (C.n n)
 rw [if_neg k5];by_cases k6:k=6
 ·rw [if_pos k6];exact (C.w _ (by decide)).app C (C.n n)
 rw [if_neg k6];by_cases k7:k=7
 ·rw [if_pos k7];exact (C.w _ (by decide)).app C (C.n n)
 rw [if_neg k7]
 match as1,h with
 | [],h=>exact C.z
 | [q],h =>
  dsimp only;by_cases h6:D7 k=6
  ·rw [if_pos h6];refine H7.app C ?_ (B3h C (h q A0O));by_cases h10:k=10
   ·rw [if_pos h10];exact C.w _ (by decide)
   ·rw [if_neg h10];exact C.w _ (by decide)
  ·rw [if_neg h6];exact C.z
 | [q,r],h =>
  dsimp only;by_cases h6:D7 k<6
  ·rw [if_pos h6];exact ((B3h C (h q A0O)).app C (C6v C _)).app C (B3h C (h r (A0J _ A0O)))
  ·rw [if_neg h6];exact C.z
 | _ :: _ :: _ :: _,h=>exact C.z
theorem C9t:∀ (e:Ex),H7 Q (exT e):=by
 have:∀ (m:Nat) (e:Ex),e.sz<m->H7 Q (exT e):=by
  intro m
  induction m with
  | zero=>intro e h;omega
  | succ m ih =>
   rintro ⟨k,v,n,a,p⟩ hm;rw [A6z];refine C2e C fun q hq=>?_;obtain ⟨x,hx,rfl⟩:=A1K.1 hq;exact ih x (by have:=Ex.sz_arg (e:=.mk k v n a p) hx;omega)
 exact fun e=>this _ e (A2J _)
theorem C9w (l:List Ex) (i:Nat):H7 Q (agT l i):=by
 unfold agT;split
 ·exact C9t C _
 ·exact C.z
theorem A3t {α : Type} {f : α -> List Tok} {l:List α} (h:∀ x∈l,H7 Q (f x)):H7 Q (l.flatMap f):=fun t ht=>by
 obtain ⟨x,hx,ht⟩:=List.mem_flatMap.1 ht;exact h x hx t ht
theorem C6u (i:Nat):H7 Q [C9 (B6.getD i [])]:=C.w _ (by
 by_cases hi:i<18
 ·have:∀ i:Nat,i<18->(B6.getD i []).length<=12:=by decide
  exact this i hi
 ·rw [A0Q,A1G (by show 18<=i;omega)];simp)
set_option maxHeartbeats 4000000 in
theorem C9p:∀ (s:St),H7 Q (stT s):=by
 have:∀ (m:Nat) (s:St),s.sz<m->H7 Q (stT s):=by
  intro m
  induction m with
  | zero=>intro e h;omega
  | succ m ih =>
   rintro ⟨k,n,t,a,x,y,p⟩ hm;rw [St.sz] at hm;have hx:H7 Q (A1r x):=by rw [Y1];exact A3t C fun s hs=>ih s (by have:=St.szs_mem hs;omega)
   have hy:∀ s∈y,H7 Q (stT s):=fun s hs=>ih s (by have:=St.szs_mem hs;omega);have hys:H7 Q (A1r y):=by rw [Y1];exact A3t C hy
   have hel:H7 Q [C9 [101,108,115,101]]:=C.w _ (by decide);have w0:=C6u C (k-2).toNat;have o1:H7 Q [C9 [123]]:=C.w _ (by decide);have o2:H7 Q [C9 [125]]:=C.w _ (by decide);have o3:H7 Q [C9 [59]]:=C.w _ (by decide);have o4:H7 Q [C9 [44]]:=C.w _ (by decide);have o5:H7 Q [C9 [61]]:=C.w _ (by decide);rw [stT];dsimp only;repeat' split
   all_goals repeat' with_reducible first
    | refine H7.app C ?_ ?_
    | assumption
    | exact C.z
    | exact C.n _
    | exact C.t _
    | exact C9w C _ _
    | exact hy _ A0O
 exact fun e=>this _ e (A2J _)
theorem C9v (l:List St):H7 Q (blT l):=by
 rw [blT,Y1];exact ((C.w _ (by decide)).app C (A3t C fun s _=>C9p C s)).app C (C.w _ (by decide))
theorem C9u (d:Dc):H7 Q (dcT d):=by
 have hw:H7 Q [C9 (C6.getD (d.kind-1).toNat [])]:=C.w _ (by
  by_cases hi:(d.kind-1).toNat<8
  ·have:∀ i:Nat,i<8->(C6.getD i []).length<=12:=by decide
   exact this _ hi
  ·rw [A0Q,A1G (by show 8<=_;omega)];simp)
 have o3:H7 Q [C9 [59]]:=C.w _ (by decide);have o4:H7 Q [C9 [45]]:=C.w _ (by decide);unfold dcT;dsimp only;repeat' split
 all_goals repeat' first
  | assumption
  | exact C.z
  | exact C.n _
  | exact C.v _
  | refine H7.app C ?_ ?_
theorem C9s (h:Hd):H7 Q (hdT h):=by
 have hw:H7 Q [C9 (D0.getD (h.trig-1).toNat [])]:=C.w _ (by
  by_cases hi:(h.trig-1).toNat<6
  ·have:∀ i:Nat,i<6->(D0.getD i []).length<=12:=by decide
   exact this _ hi
  ·rw [A0Q,A1G (by show 6<=_;omega)];simp)
 have o3:H7 Q [C9 [111,110]]:=C.w _ (by decide);unfold hdT;refine (H7.app C (o3.app C hw) ?_).app C (C9v C _);split
 ·exact C.n _
 ·exact C9r C
theorem C9q (r:Ru):H7 Q (ruT r):=by
 unfold ruT;split
 ·exact C.z
 ·refine (A3t C fun d _=>C9u C d).app C (A3t C fun m _=>?_);unfold mdT;exact (((((C.w _ (by decide)).app C (C.n _)).app C (C.v _)).app C (C.w _ (by decide))).app C (A3t C fun h _=>C9s C h)).app C (C.w _ (by decide))
end
def B6u (r:Ru):List UInt8:=if A9c r=true then T8 (txT (ruT r)) else []
end Go.Pb
namespace Go.Proofs.YthlpinppaclofaaGreatDoor
open Go.Eng (IC IOper DReg IFn B4)
open Go.Sym Go.Pb
theorem A6p:∀ l:List (List UInt8),Lib.join l []=l.flatten
 | []=>rfl
 | [a]=>by simp [Lib.join]
 | a :: b :: l=>by
  have:=A6p (b :: l);simp only [Lib.join] at this ⊢;rw [A3F, <- this];simp
theorem c_lines (l:List (List UInt8)) (hl:l.length<=1000000000) (hb:∀ t∈l,t.length<=100000):PC Tryz.prog 60 [W0 l] (.str (T8 l)):=by
 refine PC.ofT A6 rfl (A0A rfl) (by simp only [DV.nlL,DV.nl,I1,A1U]) rfl ?_;repeat' ((with_reducible first|refine wr ?_|refine k_cu ?_ ?_|refine wb2 ?_ ?_<;>(intro hb;try simp only [hb])|fail)<;>try simp only [go_sem,seval])
 refine D3 (fun q:Nat × Option Nat=>[(3,B3 q.2 q.1),(6,W0 l),(7,I64 l.length),(8,I64 q.1)]) (fun q=>B9 Sym.nil q.2 ⟨1,true,((l.take q.1).map lnT).map DV.str⟩)
  (fun q cc=>q.1<=l.length/\(q.2=none->q.1=0)/\∀ i,q.2=some i->i<cc) (fun q=>l.length-q.1) (0,none)
  (by simp [C7,tm,Tm.upd,B3]) (Sub.nil _) ⟨by simp,by simp,by simp⟩ ?_
 rintro ⟨k,o⟩ c ⟨hk,hno,ho⟩;simp only at hk hno ho;simp only;have hkl:((l.take k).map lnT).length=k:=by rw [A0H,A0U];omega
 by_cases hlt:k<l.length
 ·have hd:decide ((k:Int)<l.length)=true:=by simpa using hlt
  have hg:=A0C hlt;have hw:IntKind.i64.wrap ((k:Int)+1)=((k+1:Nat):Int):=by rw [w64 (by omega) (by omega)];omega
  have est:((l.take (k+1)).map lnT).map DV.str=((l.take k).map lnT).map DV.str++[DV.str (lnT l[k])]:=by
   rw [A2F,hg,A3W,A1B,A1B];rfl
  have htl:=hb _ (A0W hlt);obtain ⟨t,ht⟩:∃ t,t=l[k]:=⟨_,rfl⟩;rw [<- ht] at hg est htl;have hgm:(l.map DV.str)[k]? = some (.str t):=by rw [A0V,hg];rfl
  obtain ⟨cs,hcs⟩:∃ cs,cs=((l.take k).map lnT).map DV.str:=⟨_,rfl⟩;have hcl:cs.length=k * 1:=by rw [hcs,A0H,hkl,Nat.mul_one]
  rw [<- hcs] at est ⊢;have hno2:o=none->k=0/\cs=[]:=fun e=>⟨hno e,by rw [hcs,hno e];rfl⟩;have ne0:=J7 c (c+1) (c+2) (by omega);have a1:binR .add (.str t) (.str [10])=some (.str (t++[10])):=A9m (by simp [maxLen];omega);have a2:binR .add (.str t) (.str [32])=some (.str (t++[32])):=A9m (by simp [maxLen];omega);repeat' ((with_reducible first|refine wr ?_|refine k_cu ?_ ?_|refine wb2 ?_ ?_<;>(intro hb;try simp only [hb])|fail)<;>try simp only [go_sem,seval,hd,hgm,hw,ne0,a1,a2])
  all_goals
   refine D2 (F4 (cs:=cs) hno2 (fun i hi=>?_) hcl (by omega) (by omega) (by omega)) ?_
   ·have:=ho i hi;rw [A2 (by omega)];exact A9t hi
   simp only [go_sem,seval,ne0,hw];repeat' ((with_reducible first|refine wr ?_|refine k_cu ?_ ?_|refine wb2 ?_ ?_<;>(intro hb;try simp only [hb])|fail)<;>try simp only [go_sem,seval,hd,hw,ne0])
  all_goals exact ⟨(k+1,some (c+1)),⟨rfl,rfl⟩,L8 (by simp only [est];exact congrArg (fun z=>(⟨1,true,cs++[DV.str z]⟩:Blk)) (by unfold lnT;simp_all)),inv ⟨hlt,by simp,fun i hi=>by cases hi;omega⟩,by simp only;omega⟩
 ·have hd:decide ((k:Int)<l.length)=false:=by simpa using hlt
  have hfl:(T8 l).length<=140737488355328:=by
   have:∀ q:List (List UInt8),(∀ t∈q,t.length<=100000)->(T8 q).length<=100001 * q.length:=by
    intro q
    induction q with
    | nil=>intro _;simp [T8]
    | cons a q ih =>
     intro h;have h1:=ih fun t ht=>h t (A0J _ ht);have h2:=h a A0O;have h3:(lnT a).length=a.length+1:=by unfold lnT;split<;>simp
     unfold T8 at h1 ⊢;rw [A0T,A3F,A0D,A0B,h3];omega
   have:=this l hb;omega
  have hj:=c_Join (l.map lnT) [] (by rw [A0H];omega) (by rw [A6p];exact hfl);rw [A6p] at hj;obtain rfl:k=l.length:=by omega
  rw [A3I] at hkl ⊢;rcases o with _|id
  ·have hk0:=hno rfl;have h00:l=[]:=A2C (by omega);repeat' ((with_reducible first|refine wr ?_|refine k_cu ?_ ?_|refine wb2 ?_ ?_<;>(intro hb;try simp only [hb])|fail)<;>try simp only [go_sem,seval,hd])
   refine AC.call (hj.give (H0:=Sym.nil) ⟨fun _ h=>h,fun ρ w vs h1 h2=>⟨ρ,rfl,h1,?_,Ext.refl _ _ _⟩⟩) ?_
   ·rw [h00];exact ⟨h2.1,fun i x y hx hy=>by
     match i with
     | 0=>cases hx;exact (h2.2 0 _ y rfl hy).snil_lst
     | 1=>cases hx;exact h2.2 1 _ y rfl hy
     | _+2=>cases hx⟩
   ·rintro v H' c' ⟨rfl,rfl,rfl⟩ -;simp only [go_sem,seval];repeat' ((with_reducible first|refine wr ?_|refine k_cu ?_ ?_|refine wb2 ?_ ?_<;>(intro hb;try simp only [hb])|fail)<;>try simp only [go_sem,seval])
    exact A5 rfl
  ·repeat' ((with_reducible first|refine wr ?_|refine k_cu ?_ ?_|refine wb2 ?_ ?_<;>(intro hb;try simp only [hb])|fail)<;>try simp only [go_sem,seval,hd])
   refine AC.call (hj.give (H0:=Sym.nil) (GL.one (id:=id) A0 rfl (.cons _ _ _ _ (J8 (u:=1) (by rw [A0H,hkl]) (G4 _) ⟨[],by rw [A1a];simp⟩) (.cons _ _ _ _ (.same _) .nil)))) ?_;rintro v H' c' ⟨rfl,rfl,rfl⟩ -;simp only [go_sem,seval];repeat' ((with_reducible first|refine wr ?_|refine k_cu ?_ ?_|refine wb2 ?_ ?_<;>(intro hb;try simp only [hb])|fail)<;>try simp only [go_sem,seval])
   exact A5 rfl
end Go.Proofs.YthlpinppaclofaaGreatDoor
set_option maxHeartbeats 8000000
namespace Go.Proofs.YthlpinppaclofaaGreatDoor
open Go.Eng (IC IOper DReg IFn B4)
open Go.Sym Go.Pb
end Go.Proofs.YthlpinppaclofaaGreatDoor
namespace Go.Pb
open Go.Sym
def Shp.v (s:Shp):DV:=.agg [.bool s.name,.bool s.text,I64 s.args,.bool s.thn,.bool s.els]
end Go.Pb
namespace Go.Proofs.YthlpinppaclofaaGreatDoor
open Go.Eng (IC IOper DReg IFn B4)
open Go.Sym Go.Pb
def B9t (k:Int):Bool:=decide (1<=k) && decide (k<=19)
theorem c_shapeOf (k:Int):PC Tryz.prog 153 [I64 k] (.tup [(O0 k).v,.bool (B9t k)]):=by
 refine PC.ofT A6 rfl (A0A rfl) (by simp [DV.nlL,DV.nl]) rfl ?_;repeat' ((with_reducible first|refine wr ?_|refine k_cu ?_ ?_|refine wb2 ?_ ?_<;>(intro hb;try simp only [hb])|fail)<;>try simp only [go_sem,seval])
 all_goals refine A5 ?_
 all_goals simp_all [O0,B9t,Shp.v,tm,Tm.upd]
 all_goals omega
theorem c_isText (s:List UInt8) (hs:s.length<=1000000000):PC Tryz.prog 180 [.str s] (.bool (V4 s)):=by
 refine PC.ofT A6 rfl (A0A rfl) (by simp [DV.nlL,DV.nl]) (by simp [DV.nlL,DV.nl]) ?_;repeat' ((with_reducible first|refine wr ?_|refine k_cu ?_ ?_|refine wb2 ?_ ?_<;>(intro hb;try simp only [hb])|fail)<;>try simp only [go_sem,seval])
 refine D3 (fun k:Nat=>[(0,.str s),(3,I64 k)]) (fun _=>Sym.nil) (fun k _=>k<=s.length/\(s.take k).all txB=true) (fun k=>s.length-k) 0 (by simp [C7,tm,Tm.upd]) (Sub.refl _) ⟨A0Z _,rfl⟩ ?_;rintro k cc ⟨hk,he⟩;by_cases hlt:k<s.length
 ·have hd:decide ((k:Int)<s.length)=true:=by simpa using hlt
  have hg:=A0C hlt;have hw:=w64 (n:=(k:Int)+1) (by omega) (by omega);generalize s[k]=x at hg;have hx:txB x=(decide (32<=x.toNat) && decide (x.toNat<=126)):=rfl;repeat' ((with_reducible first|refine wr ?_|refine k_cu ?_ ?_|refine wb2 ?_ ?_<;>(intro hb;try simp only [hb])|fail)<;>try simp only [go_sem,seval,hd,hg,hw])
  ·refine A5 (congrArg DV.bool ?_);have:=A7j txB s k _ hg (by simp_all<;>omega);simp [V4,this]
  ·refine A5 (congrArg DV.bool ?_);have:=A7j txB s k _ hg (by simp_all<;>omega);simp [V4,this]
  ·exact ⟨k+1,rfl,Sub.refl _,inv ⟨by omega,by rw [A9a txB s k _ hg,he];simp_all<;>omega⟩,by omega⟩
 have hd:decide ((k:Int)<s.length)=false:=by simpa using hlt
 have hall:=B2l txB s k (by omega) he;repeat' ((with_reducible first|refine wr ?_|refine k_cu ?_ ?_|refine wb2 ?_ ?_<;>(intro hb;try simp only [hb])|fail)<;>try simp only [go_sem,seval,hd])
 refine A5 (congrArg DV.bool ?_);simp [V4,hall];omega
theorem c_validDecl (d:Dc) (hB:d.name.length<=1000000000):PC Tryz.prog 51 [d.v] (.bool (A7n d)):=by
 refine PC.ofT A6 rfl (A0A rfl) (by simp [DV.nlL,DV.nl]) (by simp [DV.nlL,DV.nl]) ?_;have hn:=c_IsName d.name hB;repeat' ((with_reducible first|refine wr ?_|refine cpc hn ?_|refine k_cu ?_ ?_|refine wb2 ?_ ?_<;>(intro hb;try simp only [hb])|fail)<;>try simp only [go_sem,seval])
 all_goals (refine A5 (congrArg DV.bool ?_);simp_all [A7n]<;>omega)
theorem c_vS1 (e:Ex) (hB:e.sz<=100000000):PC Tryz.prog 179 [e.v] (.bool (!A5t e)):=by
 refine PC.ofT A6 rfl (A0A rfl) (by simp [DV.nlL,DV.nl]) (by simp [DV.nlL,DV.nl]) ?_;have h:=c_ValidExpr e hB;rw [Ex.v_w] at h ⊢;repeat' ((with_reducible first|refine wr ?_|refine cpc h ?_|refine k_cu ?_ ?_|refine wb2 ?_ ?_<;>(intro hb;try simp only [hb])|fail)<;>try simp only [go_sem,seval])
 exact A5 rfl
theorem C5i (d:Nat) (s:Pb.St):A3l d s=(B9t s.kind && (s.args.length == (O0 s.kind).args && s.args.all A5t) &&
   ((if (O0 s.kind).name=true then D5 s.name else s.name == []) && (if (O0 s.kind).text=true then V4 s.text else s.text == [])) &&
   (((O0 s.kind).thn || s.thn.isEmpty) && ((O0 s.kind).els || s.els.isEmpty)) && (A2m s.thn (d+1) && A2m s.els (d+1))):=by
 cases s with|mk k n t a x y p=>rw [A3l];rfl
theorem B0l {α : Type} (g : α -> Bool) (l:List α):l.any (fun x => !g x) = !l.all g:=by
 induction l with
 | nil=>rfl
 | cons x l ih=>rw [List.any_cons,A3P,ih,Bool.not_and]
theorem c_vSt (s:Pb.St) (d:Nat) (hd:d<=1000000000) (hB:s.sz<=100000000) (hX:PC Tryz.prog 93 [F8 s.thn,I64 (d+1:Nat)] (.bool (A2m s.thn (d+1)))) (hY:PC Tryz.prog 93 [F8 s.els,I64 (d+1:Nat)] (.bool (A2m s.els (d+1)))) :
  PC Tryz.prog 148 [s.v,I64 d] (.bool (A3l d s)):=by
 rw [C5i];have hsa:Ex.szs s.args<s.sz:=by cases s with|mk k n t a x y p=>rw [Pb.St.sz];show Ex.szs a<_;omega
 have hal:=Ex.szs_len s.args;have hxl:=Pb.St.szs_len s.thn;have hyl:=Pb.St.szs_len s.els;have hxs:=s.sz_thn;have hys:=s.sz_els;have hnl:=s.sz_name;have htl:=s.sz_text;have hn:=c_IsName s.name (by omega);have ht:=c_isText s.text (by omega);have hsh:=c_shapeOf s.kind;have hca:=c_CF_ex (f:=179) (a:=[]) (cs:=[]) (g:=fun e => !A5t e) s.args (by omega) rfl rfl (fun x hx=>c_vS1 x (by have:=Ex.szs_mem hx;omega));rw [B0l] at hca;have hw:=w64 (n:=(d:Int)+1) (by omega) (by omega);refine PC.ofT A6 rfl (A0A rfl) (by rw [Pb.St.v_w];simp [DV.nlL,DV.nl,A2x,Z8]) rfl ?_;cases s with|mk k n t a x y p =>
 dsimp only [Pb.St.kind,Pb.St.name,Pb.St.text,Pb.St.args,Pb.St.thn,Pb.St.els,Pb.St.pos] at *;have hX:PC Tryz.prog 93 [F8 x,I64 ((d:Int)+1)] (.bool (A2m x (d+1))):=hX;have hY:PC Tryz.prog 93 [F8 y,I64 ((d:Int)+1)] (.bool (A2m y (d+1))):=hY;have ev:(Pb.St.mk k n t a x y p).v=.agg [I64 k,.str n,.str t,K6 a,F8 x,F8 y,I64 p]:=Pb.St.v_w _;rw [ev];generalize A2m x (d+1)=bx at *;generalize A2m y (d+1)=bY at *;generalize B9t k=kb at *;obtain ⟨nb,tb,ar,xb,yb,hs⟩:∃ nb tb ar xb yb,O0 k=⟨nb,tb,ar,xb,yb⟩:=⟨_,_,_,_,_,rfl⟩;simp only [hs,Shp.v] at hsh ⊢;have kA:∀ (cc:Nat) (nm tx:Bool),IW Tryz.prog 86 (pz Tryz.prog 148 (.i (.i (.o (.i .h))))) ⟨tm [(1,I64 d),(2,.ptr 0 0),(5,.ptr 1 0),(7,.bool nm),(8,.bool tx)],(Sym.nil.upd 0 ⟨0,true,[I64 k,.str n,.str t,K6 a,F8 x,F8 y,I64 p]⟩).upd 1 ⟨0,true,[.bool nb,.bool tb,I64 ar,.bool xb,.bool yb]⟩,cc⟩ (rt [.tmp 4] fun v H' c => ∃ H2,GL H' [v] H2 [.bool ((nm && tx) && ((xb || x.isEmpty) && (yb || y.isEmpty)) && (bx && bY))]):=by
  intro cc nm tx;have ex:x.isEmpty = !decide ((x.length:Int)>0):=by cases x<;>simp
  have ey:y.isEmpty = !decide ((y.length:Int)>0):=by cases y<;>simp
  rw [ex,ey];cases nm with
  | false =>
   repeat' ((with_reducible first|refine wr ?_|refine k_cu ?_ ?_|refine wb2 ?_ ?_<;>(intro hb;try simp only [hb])|fail)<;>try simp only [go_sem,seval])
   exact A5 (by simp)
  | true =>
  cases tx with
  | false =>
   repeat' ((with_reducible first|refine wr ?_|refine k_cu ?_ ?_|refine wb2 ?_ ?_<;>(intro hb;try simp only [hb])|fail)<;>try simp only [go_sem,seval])
   exact A5 (by simp)
  | true =>
  generalize hlx:decide ((x.length:Int)>0)=lx at *;generalize hly:decide ((y.length:Int)>0)=ly at *;cases bx<;>cases bY<;>cases xb<;>cases lx<;>cases yb<;>cases ly;all_goals (repeat' ((with_reducible first|refine wr ?_|refine cpc hX ?_|refine cpc hY ?_|refine k_cu ?_ ?_|refine wb2 ?_ ?_<;>(intro hb;try simp only [hb])|fail)<;>try simp only [go_sem,seval,hlx,hly,hw,A0H]))
  all_goals exact A5 rfl
 have kB:∀ cc:Nat,IW Tryz.prog 86 (pz Tryz.prog 148 (.i (.i (.i .h)))) ⟨tm [(1,I64 d),(2,.ptr 0 0),(5,.ptr 1 0),(7,.bool (n == [])),(8,.bool (t == []))],(Sym.nil.upd 0 ⟨0,true,[I64 k,.str n,.str t,K6 a,F8 x,F8 y,I64 p]⟩).upd 1 ⟨0,true,[.bool nb,.bool tb,I64 ar,.bool xb,.bool yb]⟩,cc⟩ (rt [.tmp 4] fun v H' c => ∃ H2,GL H' [v] H2 [.bool (((if nb=true then D5 n else n == []) && (if tb=true then V4 t else t == [])) && ((xb || x.isEmpty) && (yb || y.isEmpty)) && (bx && bY))]):=by
  intro cc;cases nb<;>cases tb;all_goals (repeat' ((with_reducible first|refine E1 (p:=IW _ _ (pz Tryz.prog 148 (.i (.i (.o (.i .h))))) _ _) ?_|refine wr ?_|refine cpc hn ?_|refine cpc ht ?_|refine k_cu ?_ ?_|refine wb2 ?_ ?_<;>(intro hb;try simp only [hb])|fail)<;>try simp only [go_sem,seval]))
  all_goals (refine IW.stage ?_ (kA _ _ _);simp [C7,tm,Tm.upd])
 cases kb with
 | false =>
  repeat' ((with_reducible first|refine wr ?_|refine cpc hsh ?_|refine k_cu ?_ ?_|refine wb2 ?_ ?_<;>(intro hb;try simp only [hb])|fail)<;>try simp only [go_sem,seval])
  exact A5 (by simp)
 | true =>
 by_cases hal2:a.length=ar
 ·have d0:((a.length:Int) != (ar:Int))=false:=by simp [hal2]
  cases hall:a.all A5t with
  | false =>
   rw [hall] at hca;repeat' ((with_reducible first|refine wr ?_|refine cpc hsh ?_|refine cpc hca ?_|refine k_cu ?_ ?_|refine wb2 ?_ ?_<;>(intro hb;try simp only [hb])|fail)<;>try simp only [go_sem,seval,d0,A0H])
   exact A5 (by simp)
  | true =>
   rw [hall] at hca;have e1:(a.length == ar)=true:=by simpa using hal2
   rw [e1];simp only [A2D];repeat' ((with_reducible first|refine E1 (p:=IW _ _ (pz Tryz.prog 148 (.i (.i (.i .h)))) _ _) ?_|refine wr ?_|refine cpc hsh ?_|refine cpc hca ?_|refine k_cu ?_ ?_|refine wb2 ?_ ?_<;>(intro hb;try simp only [hb])|fail)<;>try simp only [go_sem,seval,d0,A0H,A1])
   refine IW.stage (L:=[(1,I64 d),(2,.ptr 0 0),(5,.ptr 1 0),(7,.bool (n == [])),(8,.bool (t == []))]) ?_ (kB _);simp [C7,tm,Tm.upd]
 ·have d0:((a.length:Int) != (ar:Int))=true:=by simp;omega
  repeat' ((with_reducible first|refine wr ?_|refine cpc hsh ?_|refine k_cu ?_ ?_|refine wb2 ?_ ?_<;>(intro hb;try simp only [hb])|fail)<;>try simp only [go_sem,seval,d0,A0H])
  exact A5 (by simp;omega)
theorem c_vB1 (s:Pb.St) (d:Nat) (h:PC Tryz.prog 148 [s.v,I64 d] (.bool (A3l d s))):PC Tryz.prog 147 [s.v,.fptr [I64 d]] (.bool (!A3l d s)):=by
 rw [Pb.St.v_w] at h ⊢;refine PC.ofT A6 rfl (A0A rfl) (by simp [DV.nlL,DV.nl]) (by simp [DV.nlL,DV.nl]) ?_;repeat' ((with_reducible first|refine wr ?_|refine cpc h ?_|refine k_cu ?_ ?_|refine wb2 ?_ ?_<;>(intro hb;try simp only [hb])|fail)<;>try simp only [go_sem,seval])
 exact A5 rfl
theorem A7w (d:Nat):∀ l:List Pb.St,A2l d l=l.all (A3l d)
 | []=>by rw [A2l];rfl
 | s :: l=>by rw [A2l,A7w d l];rfl
theorem c_validBlock:∀ (m:Nat) (l:List Pb.St) (d:Nat),Pb.St.szs l<m->Pb.St.szs l<=100000000->d+Pb.St.szs l<=1000000000->PC Tryz.prog 93 [F8 l,I64 d] (.bool (A2m l d)):=by
 intro m
 induction m with
 | zero=>intro l d h;omega
 | succ m ih =>
 intro l d hm hB hd;have hl:=Pb.St.szs_len l;have hcf:=c_CF_st (f:=147) (a:=[]) (cs:=[.fptr [I64 d]]) (g:=fun s => !A3l d s) l (by omega) rfl rfl (fun s hs=>by
  have h1:=Pb.St.szs_mem hs;have h2:=s.sz_thn;have h3:=s.sz_els;exact c_vB1 s d (c_vSt s d (by omega) (by omega) (ih _ _ (by omega) (by omega) (by omega)) (ih _ _ (by omega) (by omega) (by omega))))
 rw [B0l, <- A7w] at hcf;refine PC.ofT A6 rfl (A0A rfl) (by simp [DV.nlL,DV.nl,Z8]) rfl ?_;have el:l.isEmpty = !decide ((l.length:Int)>0):=by cases l<;>simp
 have e64:decide (l.length<=64) = !decide ((l.length:Int)>64):=by rw [<- decide_not];exact decide_eq_decide.2 (by omega)
 have e8:decide (d<=8) = !decide ((d:Int)>8):=by rw [<- decide_not];exact decide_eq_decide.2 (by omega)
 unfold A2m;rw [el,e64,e8];repeat' ((first|(with_reducible first|refine wr ?_|refine k_cu ?_ ?_)|(with_reducible refine wb2 ?_ ?_<;>(intro hb;try simp only [hb]))|(refine AC.call (hcf.lend rfl (GL.one (id:=0) (b:=⟨0,true,[I64 d]⟩) rfl rfl (.cons _ _ _ _ (.same _) (.cons _ _ _ _ (.func _ _ _ _ _ .nil (.cons _ _ _ _ (.ptr 0 _ (A0Z _) rfl) .nil)) .nil)))) ?_<;>rintro v H' c' ⟨rfl,rfl,rfl⟩ hcc)|fail)<;>try simp only [go_sem,seval,A0H])
 all_goals (refine A5 (congrArg DV.bool ?_);simp_all)
theorem c_validHd (h:Hd) (hB:Pb.St.szs h.body<=100000000):PC Tryz.prog 93 [F8 h.body,I64 1] (.bool (A2m h.body 1)) :=
 c_validBlock _ h.body 1 (A2J _) hB (by omega)
theorem D0y (h:Hd):h.v=.agg [I64 h.trig,.str h.name,F8 h.body,I64 h.pos]:=rfl
theorem c_validMode (d:Md) (hB:d.sz<=100000000):PC Tryz.prog 54 [d.v] (.bool (A1q d)):=by
 have hsz:d.sz=1+d.name.length+(d.hds.map Hd.sz).sum:=rfl;have hhl:d.hds.length<=(d.hds.map Hd.sz).sum:=P7 fun x _=>by show 1<=1+_+_;omega
 have hn:=c_IsName d.name (by omega);refine PC.ofT A6 rfl (A0A rfl) (by simp [Md.v,DV.nlL,DV.nl,B5h]) rfl ?_;have ev:d.v=.agg [.str d.name,I64 d.prio,A4a d.hds,I64 d.pos]:=rfl;rw [ev];cases hnm:D5 d.name with
 | false =>
  rw [hnm] at hn;repeat' ((with_reducible first|refine wr ?_|refine cpc hn ?_|refine k_cu ?_ ?_|refine wb2 ?_ ?_<;>(intro hb;try simp only [hb])|fail)<;>try simp only [go_sem,seval])
  exact A5 (by simp [A1q,hnm])
 | true =>
 rw [hnm] at hn;by_cases p0:d.prio<0
 ·have q0:decide (d.prio<0)=true:=by simpa using p0
  repeat' ((with_reducible first|refine wr ?_|refine cpc hn ?_|refine k_cu ?_ ?_|refine wb2 ?_ ?_<;>(intro hb;try simp only [hb])|fail)<;>try simp only [go_sem,seval,q0])
  exact A5 (by simp [A1q,hnm];omega)
 have q0:decide (d.prio<0)=false:=by simpa using p0
 by_cases p1:d.prio>2147483647
 ·have q1:decide (d.prio>2147483647)=true:=by simpa using p1
  repeat' ((with_reducible first|refine wr ?_|refine cpc hn ?_|refine k_cu ?_ ?_|refine wb2 ?_ ?_<;>(intro hb;try simp only [hb])|fail)<;>try simp only [go_sem,seval,q0,q1])
  exact A5 (by simp [A1q,hnm];omega)
 have q1:decide (d.prio>2147483647)=false:=by simpa using p1
 by_cases p2:d.hds.length>32
 ·have q2:decide ((d.hds.length:Int)>32)=true:=by simp;omega
  repeat' ((with_reducible first|refine wr ?_|refine cpc hn ?_|refine k_cu ?_ ?_|refine wb2 ?_ ?_<;>(intro hb;try simp only [hb])|fail)<;>try simp only [go_sem,seval,q0,q1,q2,A0H])
  exact A5 (by simp [A1q,hnm];omega)
 have q2:decide ((d.hds.length:Int)>32)=false:=by simp;omega
 have er:A1q d=d.hds.all A3m:=by
  unfold A1q;rw [hnm,show decide (0<=d.prio)=true by simp;omega,show decide (d.prio<=2147483647)=true by simp;omega,show decide (d.hds.length<=32)=true by simp;omega];rfl
 rw [er];repeat' ((with_reducible first|refine wr ?_|refine cpc hn ?_|refine k_cu ?_ ?_|refine wb2 ?_ ?_<;>(intro hb;try simp only [hb])|fail)<;>try simp only [go_sem,seval,q0,q1,q2,A0H])
 refine D3 (fun k:Nat=>[(27,A4a d.hds),(28,I64 d.hds.length),(29,I64 k)]) (fun _=>Sym.nil) (fun k _=>k<=d.hds.length/\(d.hds.take k).all A3m=true) (fun k=>d.hds.length-k) 0 (by simp [C7,tm,Tm.upd]) (Sub.nil _) ⟨A0Z _,rfl⟩ ?_;rintro k cc ⟨hk,he⟩;by_cases hlt:k<d.hds.length
 ·have hd:decide ((k:Int)<d.hds.length)=true:=by simpa using hlt
  have hg:=A0C hlt;have hw:=w64 (n:=(k:Int)+1) (by omega) (by omega);have hs:d.hds[k].sz<=(d.hds.map Hd.sz).sum:=P0 (A0W hlt);generalize d.hds[k]=h at hg hs;have hhs:h.sz=1+h.name.length+Pb.St.szs h.body:=rfl;have hn2:=c_IsName h.name (by omega);have hb2:=c_validHd h (by omega);have hf:=A7j A3m d.hds k _ hg;have ht:=A9a A3m d.hds k _ hg;have eh:A3m h=(decide (1<=h.trig) && decide (h.trig<=6) && (if 3<=h.trig then D5 h.name else h.name == []) && A2m h.body 1):=rfl;by_cases t3:3<=h.trig
  ·have u3:decide (h.trig≥3)=true:=by simpa using t3
   rw [if_pos t3] at eh;repeat' ((with_reducible first|refine wr ?_|refine cpc hn2 ?_|refine cpc hb2 ?_|refine k_cu ?_ ?_|refine wb2 ?_ ?_<;>(intro hb;try simp only [hb])|fail)<;>try simp only [go_sem,seval,hd,hg,hw,u3,D0y,A0,A1])
   all_goals first
    | (refine A5 (congrArg DV.bool (hf ?_).symm);rw [eh];clear hf ht eh er;simp_all<;>omega)
    | (refine ⟨k+1,rfl,Sub.nil _,inv ⟨by omega,?_⟩,by omega⟩;rw [ht,he,eh];clear hf ht eh er;simp_all<;>omega)
  ·have u3:decide (h.trig≥3)=false:=by simpa using t3
   rw [if_neg t3] at eh;repeat' ((with_reducible first|refine wr ?_|refine cpc hn2 ?_|refine cpc hb2 ?_|refine k_cu ?_ ?_|refine wb2 ?_ ?_<;>(intro hb;try simp only [hb])|fail)<;>try simp only [go_sem,seval,hd,hg,hw,u3,D0y,A0,A1])
   all_goals first
    | (refine A5 (congrArg DV.bool (hf ?_).symm);rw [eh];clear hf ht eh er;simp_all<;>omega)
    | (refine ⟨k+1,rfl,Sub.nil _,inv ⟨by omega,?_⟩,by omega⟩;rw [ht,he,eh];clear hf ht eh er;simp_all<;>omega)
 have hd:decide ((k:Int)<d.hds.length)=false:=by simpa using hlt
 have hall:=B2l A3m d.hds k (by omega) he;repeat' ((with_reducible first|refine wr ?_|refine k_cu ?_ ?_|refine wb2 ?_ ?_<;>(intro hb;try simp only [hb])|fail)<;>try simp only [go_sem,seval,hd])
 exact A5 (by rw [hall])
theorem c_V1 (d:Dc) (hB:d.name.length<=1000000000):PC Tryz.prog 50 [d.v] (.bool (!A7n d)):=by
 have h:=c_validDecl d hB;have ev:d.v=.agg [I64 d.kind,.str d.name,I64 d.value,I64 d.pos]:=rfl;rw [ev] at h ⊢;refine PC.ofT A6 rfl (A0A rfl) (by simp [DV.nlL,DV.nl]) (by simp [DV.nlL,DV.nl]) ?_;repeat' ((with_reducible first|refine wr ?_|refine cpc h ?_|refine k_cu ?_ ?_|refine wb2 ?_ ?_<;>(intro hb;try simp only [hb])|fail)<;>try simp only [go_sem,seval])
 exact A5 rfl
theorem c_V2 (d:Md) (hB:d.sz<=100000000):PC Tryz.prog 53 [d.v] (.bool (!A1q d)):=by
 have h:=c_validMode d hB;have ev:d.v=.agg [.str d.name,I64 d.prio,A4a d.hds,I64 d.pos]:=rfl;rw [ev] at h ⊢;refine PC.ofT A6 rfl (A0A rfl) (by simp [DV.nlL,DV.nl]) (by simp [DV.nlL,DV.nl]) ?_;repeat' ((with_reducible first|refine wr ?_|refine cpc h ?_|refine k_cu ?_ ?_|refine wb2 ?_ ?_<;>(intro hb;try simp only [hb])|fail)<;>try simp only [go_sem,seval])
 exact A5 rfl
theorem c_Valid (r:Ru) (hB:r.sz<=100000000):PC Tryz.prog 23 [r.v] (.bool (A9c r)):=by
 obtain ⟨D,M⟩:=r;have hDs:(D.map Dc.sz).sum+(M.map Md.sz).sum<=100000000:=hB;have hDl:D.length<=(D.map Dc.sz).sum:=P7 fun x _=>by show 1<=1+_;omega
 have hMl:M.length<=(M.map Md.sz).sum:=P7 fun x _=>by show 1<=1+_+_;omega
 have h1:=c_CF_dc (f:=50) (a:=[]) (cs:=[]) (g:=fun e => !A7n e) D (by omega) rfl rfl (fun x hx=>c_V1 x (by
  have:x.sz<=(D.map Dc.sz).sum:=P0 hx;have e:x.sz=1+x.name.length:=rfl;omega))
 have h2:=c_CF_md (f:=53) (a:=[]) (cs:=[]) (g:=fun e => !A1q e) M (by omega) rfl rfl (fun x hx=>c_V2 x (by
  have:x.sz<=(M.map Md.sz).sum:=P0 hx;omega))
 rw [B0l] at h1 h2;refine PC.ofT A6 rfl (A0A rfl) (by simp [Ru.v,DV.nlL,DV.nl,A0a,Z9]) rfl ?_;dsimp only [Ru.v];unfold A9c;dsimp only;have e1:decide (D.length<=128) = !decide ((D.length:Int)>128):=by rw [<- decide_not];exact decide_eq_decide.2 (by omega)
 have e2:decide (M.length<=16) = !decide ((M.length:Int)>16):=by rw [<- decide_not];exact decide_eq_decide.2 (by omega)
 rw [e1,e2];generalize D.all A7n=bD at *;generalize M.all A1q=bM at *;repeat' ((with_reducible first|refine wr ?_|refine cpc h1 ?_|refine cpc h2 ?_|refine k_cu ?_ ?_|refine wb2 ?_ ?_<;>(intro hb;try simp only [hb])|fail)<;>try simp only [go_sem,seval,A0H])
 all_goals (refine A5 (congrArg DV.bool ?_);simp_all)
end Go.Proofs.YthlpinppaclofaaGreatDoor
set_option maxHeartbeats 4000000
namespace Go.Proofs.YthlpinppaclofaaGreatDoor
open Go.Eng (IC IOper DReg IFn B4)
open Go.Sym Go.Pb
theorem c_pblk (P:Pb.St->List (List UInt8)) (l:List Pb.St) (hl:l.length<=4000000) (hP:∀ s∈l,OwL 102 [s.v] (P s)) (hb:(l.flatMap P).length<=1000000000):OwL 59 [F8 l] (I5 P l):=by
 refine OwL.of (by simp [DV.nlL,DV.nl,Z8]) ?_;refine AC.bodyT A6 rfl (A0A rfl) fun hfr=>?_;repeat' ((with_reducible first|refine wr ?_|refine k_cu ?_ ?_|refine wb2 ?_ ?_<;>(intro hb;try simp only [hb])|fail)<;>try simp only [go_sem,seval])
 refine A0d (fun q:Nat × Nat=>[(3,.slc q.2 0 (1+((l.take q.1).flatMap P).length)),(7,F8 l),(8,I64 l.length),(9,I64 q.1)]) (fun q=>nil.upd q.2 ⟨1,true,([123] :: (l.take q.1).flatMap P).map DV.str⟩)
  (fun q cc=>q.1<=l.length/\q.2<cc) (fun q=>l.length-q.1) (0,0) (fun b=>⟨rfl,rfl,rfl,rfl,trivial⟩) (by simp [C7,tm,Tm.upd]) (by simp;exact Sub.refl _) ⟨by simp,by simp⟩ ?_
 rintro ⟨k,id⟩ c ⟨hk,hid⟩;simp only at hk hid;simp only;have hle:((l.take k).flatMap P).length<=(l.flatMap P).length:=by
  have:=congrArg List.length (congrArg (List.flatMap P) (A3N k l));rw [A3U,A0D] at this;omega
 obtain ⟨A,hA⟩:∃ A,A=(l.take k).flatMap P:=⟨_,rfl⟩;rw [<- hA] at hle ⊢;by_cases hlt:k<l.length
 ·have hd:decide ((k:Int)<l.length)=true:=by simpa using hlt
  have hg:=A0C hlt;have hw:IntKind.i64.wrap ((k:Int)+1)=((k+1:Nat):Int):=by rw [w64 (by omega) (by omega)];omega
  have est:(l.take (k+1)).flatMap P=A++P l[k]:=by
   rw [A2F,hg,A3W,A3U,hA];simp
  have hc:=hP _ (A0W hlt);have hle2:(A++P l[k]).length<=(l.flatMap P).length:=by
   have:=congrArg List.length (congrArg (List.flatMap P) (A3N (k+1) l));rw [A3U,A0D,est] at this;omega
  obtain ⟨s,hs⟩:∃ s,s=l[k]:=⟨_,rfl⟩;rw [<- hs] at hg est hc hle2;have hgm:(l.map Pb.St.v)[k]? = some s.v:=by rw [A0V,hg];rfl
  rw [Pb.St.v_w] at hgm hc;have ne0:=J7 id c (c+1) (by omega);repeat' ((with_reducible first|refine wr ?_|refine k_cu ?_ ?_|refine wb2 ?_ ?_<;>(intro hb;try simp only [hb])|fail)<;>try simp only [go_sem,seval,hd,hgm,hw,ne0,A0])
  refine AC.call (hc _ _) ?_;rintro _ _ _ ⟨rfl,rfl,rfl⟩ -;have tk:List.take (P s).length ((P s).map DV.str)=(P s).map DV.str:=A0L (by simp);rw [A0D] at hle2;have ne0:=V2 id c (c+1) (c+1+1) (by omega);simp only [go_sem,seval,ne0,A0,tk];repeat' ((with_reducible first|refine wr ?_|refine k_cu ?_ ?_|refine wb2 ?_ ?_<;>(intro hb;try simp only [hb])|fail)<;>try simp only [go_sem,seval,ne0,A0,tk])
  refine D2 (E2 (by simp;omega) (by omega) (by omega)) ?_;simp only [go_sem,seval,ne0,A0];repeat' ((with_reducible first|refine wr ?_|refine k_cu ?_ ?_|refine wb2 ?_ ?_<;>(intro hb;try simp only [hb])|fail)<;>try simp only [go_sem,seval,hw,ne0,A0])
  have e1:1+A.length+(P s).length=1+((l.take (k+1)).flatMap P).length:=by rw [est,A0D];omega
  refine ⟨(k+1,c+1+1),⟨by rw [e1],rfl⟩,GL.less fun j=>?_,inv ⟨hlt,by simp only;omega⟩,by simp only;omega⟩;by_cases e:j=c+1+1
  ·subst e;right;rw [A0,A0];simp only [est,A1B]
  ·left;rw [A2 e];rfl
 ·have hd:decide ((k:Int)<l.length)=false:=by simpa using hlt
  obtain rfl:k=l.length:=by omega
  rw [A3I] at hA;have ne0:=J7 id c (c+1) (by omega);repeat' ((with_reducible first|refine wr ?_|refine k_cu ?_ ?_|refine wb2 ?_ ?_<;>(intro hb;try simp only [hb])|fail)<;>try simp only [go_sem,seval,hd,ne0,A0])
  refine D2 (E2 (by simp;omega) (by omega) (by omega)) ?_;simp only [go_sem,seval,ne0,A0];repeat' ((with_reducible first|refine wr ?_|refine k_cu ?_ ?_|refine wb2 ?_ ?_<;>(intro hb;try simp only [hb])|fail)<;>try simp only [go_sem,seval,hd,ne0,A0])
  have e1:(I5 P l).length=1+A.length+1:=by rw [I5, <- hA];simp;omega
  rw [<- e1];exact ⟨_,nil.upd (c+1) ⟨1,true,(I5 P l).map DV.str⟩,R6 A0 (fun j hj=>.inl (by rw [A2 hj];rfl)) (by rw [A0,I5, <- hA];simp),c+1,rfl,rfl⟩
abbrev B1k (k:Int) (n t:List UInt8) (a:List Ex) (x y:List Pb.St) (p:Int):Blk:=⟨0,true,[I64 k,.str n,.str t,K6 a,F8 x,F8 y,I64 p]⟩
abbrev B3i (q:Shp):Blk:=⟨0,true,[.bool q.name,.bool q.text,I64 q.args,.bool q.thn,.bool q.els]⟩
theorem c_psE (k:Int) (n t:List UInt8) (a:List Ex) (x y:List Pb.St) (p:Int) (P:Pb.St->List (List UInt8)) (hY:OwL 59 [F8 y] (I5 P y))
  (hS:∀ s,y=[s]->OwL 102 [s.v] (P s)) (hb2:(I5 P y).length<=1000000000) (hb3:∀ s,y=[s]->(P s).length<=1000000000)
  (l R:List (List UInt8)) (id c:Nat) (hid:1<=id) (hc:id<c) (hl:l.length<=10000000000) (hR:R=l++A7b P y) :
  IW Tryz.prog 107 (pz Tryz.prog 102 (.o (.i (.o (.i (.i .h)))))) ⟨(tm [(1,.ptr 0 0),(3,.slc id 0 l.length)]),((nil.upd 0 (B1k k n t a x y p)).upd id ⟨1,true,l.map DV.str⟩),c⟩ (rt [.tmp 2] fun v H' c' => ∃ v2 H2,GL H' [v] H2 [v2]/\∃ id,v2=.slc id 0 R.length/\H2=nil.upd id ⟨1,true,R.map DV.str⟩):=by
 have ne0:=J7 0 id c (by omega)
 match y with
 | [] =>
  rw [A7b,A3D] at hR;subst hR;repeat' ((with_reducible first|refine wr ?_|refine k_cu ?_ ?_|refine wb2 ?_ ?_<;>(intro hb;try simp only [hb])|fail)<;>try simp only [go_sem,seval,ne0,A0,A0E,A2G,A0H])
  exact ⟨_,nil.upd id ⟨1,true,R.map DV.str⟩,R6 A0 (fun j hj=>.inl (by rw [A2 hj];rfl)) A0,id,rfl,rfl⟩
 | [s] =>
  have hS':=hS s rfl;rw [Pb.St.v_w] at hS';rw [A7b] at hR;by_cases hk2:s.kind=2
  ·have d2:(s.kind == 2)=true:=by simpa using hk2
   repeat' ((with_reducible first|refine wr ?_|refine k_cu ?_ ?_|refine wb2 ?_ ?_<;>(intro hb;try simp only [hb])|fail)<;>try simp only [go_sem,seval,ne0,A0,d2,Pb.St.v_w])
   rw [A2 (show ¬ id=c+1 by omega),A0];refine N9 (E2 (by simp) (by omega) (by omega)) ?_;rw [if_pos hk2] at hR;simp only [go_sem,seval,ne0,A0,Pb.St.v_w];obtain ⟨M,hM⟩:∃ M,M=((((nil.upd 0 (B1k k n t a x [s] p)).upd id ⟨1,true,l.map DV.str⟩).upd (c+1) ⟨1,true,[.str [101,108,115,101]]⟩).del id).upd (c+10) ⟨1,true,l.map DV.str++[.str [101,108,115,101]]⟩:=⟨_,rfl⟩;rw [<- hM];have hMn:∀ i,i≠0->i≠c+1->i≠c+10->M i=none:=fun i h0 h1 h2=>by
    rw [hM,A2 h2];simp only [Hp.del];split
    ·rfl
    ·rename_i h3;rw [A2 h1,A2 h3,A2 h0];rfl
   have hMl:M (c+10)=some ⟨1,true,l.map DV.str++[.str [101,108,115,101]]⟩:=by rw [hM];exact A0
   clear hM;refine ⟨by and_intros<;>exact hMn _ (by omega) (by omega) (by omega),?_⟩;refine AC.call (hS' M (c+10+1)) ?_;rintro _ _ _ ⟨rfl,rfl,rfl⟩ -;obtain ⟨W,hW⟩:∃ W,W=P s:=⟨_,rfl⟩;rw [<- hW] at hR ⊢;have hWl:W.length<=1000000000:=hW▸hb3 s rfl;have tk:List.take W.length (W.map DV.str)=W.map DV.str:=A0L (by simp);have hMl2:(M.upd (c+10+1) ⟨1,true,W.map DV.str⟩) (c+10)=some ⟨1,true,l.map DV.str++[.str [101,108,115,101]]⟩:=by rw [A2 (by omega)];exact hMl
   simp only [go_sem,seval,ne0,A0,tk,hMl2];refine N9 (E2 (by simp) (by omega) (by omega)) ?_;simp only [go_sem,seval,ne0,A0];repeat' ((with_reducible first|refine wr ?_|refine k_cu ?_ ?_|refine wb2 ?_ ?_<;>(intro hb;try simp only [hb])|fail)<;>try simp only [go_sem,seval,ne0,A0])
   have e1:R.length=l.length+1+W.length:=by rw [hR];simp;omega
   rw [<- e1];exact ⟨_,nil.upd (c+10+1+1) ⟨1,true,R.map DV.str⟩,R6 A0 (fun j hj=>.inl (by rw [A2 hj];rfl)) (by rw [A0,hR];simp),c+10+1+1,rfl,rfl⟩
  ·have d2:(s.kind == 2)=false:=by simpa using hk2
   repeat' ((with_reducible first|refine wr ?_|refine k_cu ?_ ?_|refine wb2 ?_ ?_<;>(intro hb;try simp only [hb])|fail)<;>try simp only [go_sem,seval,ne0,A0,d2,Pb.St.v_w])
   rw [A2 (show ¬ id=c+1 by omega),A0];refine N9 (E2 (by simp) (by omega) (by omega)) ?_;rw [if_neg hk2] at hR;simp only [go_sem,seval,ne0,A0];obtain ⟨M,hM⟩:∃ M,M=((((nil.upd 0 (B1k k n t a x [s] p)).upd id ⟨1,true,l.map DV.str⟩).upd (c+1) ⟨1,true,[.str [101,108,115,101]]⟩).del id).upd (c+8) ⟨1,true,l.map DV.str++[.str [101,108,115,101]]⟩:=⟨_,rfl⟩;rw [<- hM];have hMn:∀ i,i≠0->i≠c+1->i≠c+8->M i=none:=fun i h0 h1 h2=>by
    rw [hM,A2 h2];simp only [Hp.del];split
    ·rfl
    ·rename_i h3;rw [A2 h1,A2 h3,A2 h0];rfl
   have hMl:M (c+8)=some ⟨1,true,l.map DV.str++[.str [101,108,115,101]]⟩:=by rw [hM];exact A0
   clear hM;refine ⟨by and_intros<;>exact hMn _ (by omega) (by omega) (by omega),?_⟩;refine AC.call (hY M (c+8+1)) ?_;rintro _ _ _ ⟨rfl,rfl,rfl⟩ -;obtain ⟨W,hW⟩:∃ W,W=I5 P [s]:=⟨_,rfl⟩;rw [<- hW] at hR ⊢;have hWl:W.length<=1000000000:=hW▸hb2;have tk:List.take W.length (W.map DV.str)=W.map DV.str:=A0L (by simp);have hMl2:(M.upd (c+8+1) ⟨1,true,W.map DV.str⟩) (c+8)=some ⟨1,true,l.map DV.str++[.str [101,108,115,101]]⟩:=by rw [A2 (by omega)];exact hMl
   simp only [go_sem,seval,ne0,A0,tk,hMl2];refine N9 (E2 (by simp) (by omega) (by omega)) ?_;simp only [go_sem,seval,ne0,A0];repeat' ((with_reducible first|refine wr ?_|refine k_cu ?_ ?_|refine wb2 ?_ ?_<;>(intro hb;try simp only [hb])|fail)<;>try simp only [go_sem,seval,ne0,A0])
   have e1:R.length=l.length+1+W.length:=by rw [hR];simp;omega
   rw [<- e1];exact ⟨_,nil.upd (c+8+1+1) ⟨1,true,R.map DV.str⟩,R6 A0 (fun j hj=>.inl (by rw [A2 hj];rfl)) (by rw [A0,hR];simp),c+8+1+1,rfl,rfl⟩
 | s :: s2 :: r =>
  obtain ⟨A,hA⟩:∃ A,A=s :: s2 :: r:=⟨_,rfl⟩;have n1:((A.length:Int) == 1)=false:=by rw [hA];simp;omega
  have n0:decide ((A.length:Int)>0)=true:=by rw [hA];simp;omega
  rw [A7b] at hR;rw [<- hA] at hR hY hb2 ⊢;repeat' ((with_reducible first|refine wr ?_|refine k_cu ?_ ?_|refine wb2 ?_ ?_<;>(intro hb;try simp only [hb])|fail)<;>try simp only [go_sem,seval,ne0,A0,n1,n0])
  rw [A2 (show ¬ id=c+1 by omega),A0];refine N9 (E2 (by simp) (by omega) (by omega)) ?_;simp only [go_sem,seval,ne0,A0];obtain ⟨M,hM⟩:∃ M,M=((((nil.upd 0 (B1k k n t a x A p)).upd id ⟨1,true,l.map DV.str⟩).upd (c+1) ⟨1,true,[.str [101,108,115,101]]⟩).del id).upd (c+8) ⟨1,true,l.map DV.str++[.str [101,108,115,101]]⟩:=⟨_,rfl⟩;rw [<- hM];have hMn:∀ i,i≠0->i≠c+1->i≠c+8->M i=none:=fun i h0 h1 h2=>by
   rw [hM,A2 h2];simp only [Hp.del];split
   ·rfl
   ·rename_i h3;rw [A2 h1,A2 h3,A2 h0];rfl
  have hMl:M (c+8)=some ⟨1,true,l.map DV.str++[.str [101,108,115,101]]⟩:=by rw [hM];exact A0
  clear hM;refine ⟨by and_intros<;>exact hMn _ (by omega) (by omega) (by omega),?_⟩;refine AC.call (hY M (c+8+1)) ?_;rintro _ _ _ ⟨rfl,rfl,rfl⟩ -;obtain ⟨W,hW⟩:∃ W,W=I5 P A:=⟨_,rfl⟩;rw [<- hW] at hR ⊢;have hWl:W.length<=1000000000:=hW▸hb2;have tk:List.take W.length (W.map DV.str)=W.map DV.str:=A0L (by simp);have hMl2:(M.upd (c+8+1) ⟨1,true,W.map DV.str⟩) (c+8)=some ⟨1,true,l.map DV.str++[.str [101,108,115,101]]⟩:=by rw [A2 (by omega)];exact hMl
  simp only [go_sem,seval,ne0,A0,tk,hMl2];refine N9 (E2 (by simp) (by omega) (by omega)) ?_;simp only [go_sem,seval,ne0,A0];repeat' ((with_reducible first|refine wr ?_|refine k_cu ?_ ?_|refine wb2 ?_ ?_<;>(intro hb;try simp only [hb])|fail)<;>try simp only [go_sem,seval,ne0,A0])
  have e1:R.length=l.length+1+W.length:=by rw [hR];simp;omega
  rw [<- e1];exact ⟨_,nil.upd (c+8+1+1) ⟨1,true,R.map DV.str⟩,R6 A0 (fun j hj=>.inl (by rw [A2 hj];rfl)) (by rw [A0,hR];simp),c+8+1+1,rfl,rfl⟩
theorem c_psD (k:Int) (n t:List UInt8) (a:List Ex) (x y:List Pb.St) (p:Int) (P:Pb.St->List (List UInt8)) (hX:OwL 59 [F8 x] (I5 P x)) (hY:OwL 59 [F8 y] (I5 P y))
  (hS:∀ s,y=[s]->OwL 102 [s.v] (P s)) (hb1:(I5 P x).length<=1000000000) (hb2:(I5 P y).length<=1000000000) (hb3:∀ s,y=[s]->(P s).length<=1000000000)
  (l R:List (List UInt8)) (id c:Nat) (hid:2<=id) (hc:id<c) (hl:l.length<=1000000000) (hR:R=l++A4i P k x y) :
  IW Tryz.prog 107 (pz Tryz.prog 102 (.o (.o (.o (.o (.i .h)))))) ⟨(tm [(1,.ptr 0 0),(3,.slc id 0 l.length),(4,.ptr 1 0)]),(((nil.upd 0 (B1k k n t a x y p)).upd 1 (B3i (O0 k))).upd id ⟨1,true,l.map DV.str⟩),c⟩ (rt [.tmp 2] fun v H' c' => ∃ v2 H2,GL H' [v] H2 [v2]/\∃ id,v2=.slc id 0 R.length/\H2=nil.upd id ⟨1,true,R.map DV.str⟩):=by
 unfold A4i at hR;have tk1:List.take (I5 P x).length ((I5 P x).map DV.str)=(I5 P x).map DV.str:=A0L (by simp);have ne0:=O7 0 1 id c (c+1) (by omega);cases hth:(O0 k).thn with
 | false =>
  rw [hth] at hR;rw [if_neg A1T] at hR;repeat' ((with_reducible first|refine wr ?_|refine k_cu ?_ ?_|refine wb2 ?_ ?_<;>(intro hb;try simp only [hb])|fail)<;>try simp only [go_sem,seval,hth,ne0,A0])
  refine D2 (E2 (by simp) (by omega) (by omega)) ?_;simp only [go_sem,seval,ne0,A0];repeat' ((with_reducible first|refine wr ?_|refine k_cu ?_ ?_|refine wb2 ?_ ?_<;>(intro hb;try simp only [hb])|fail)<;>try simp only [go_sem,seval,ne0,A0])
  have e1:R.length=l.length+1:=by rw [hR];simp
  rw [<- e1];exact ⟨_,nil.upd (c+1) ⟨1,true,R.map DV.str⟩,R6 A0 (fun j hj=>.inl (by rw [A2 hj];rfl)) (by rw [A0,hR];simp),c+1,rfl,rfl⟩
 | true =>
  rw [hth] at hR;rw [if_pos rfl] at hR;repeat' ((with_reducible first|refine wr ?_|refine k_cu ?_ ?_|refine wb2 ?_ ?_<;>(intro hb;try simp only [hb])|fail)<;>try simp only [go_sem,seval,hth,ne0,A0])
  refine AC.call (hX _ _) ?_;rintro _ _ _ ⟨rfl,rfl,rfl⟩ -;simp only [go_sem,seval,ne0,A0,tk1];refine D2 (E2 (by simp) (by omega) (by omega)) ?_;simp only [go_sem,seval,ne0,A0];have e1:l.length+(I5 P x).length=(l++I5 P x).length:=by simp
  rw [e1];refine IW.weaken (S3 (l:=[(1,.ptr 0 0),(3,.slc (c+1) 0 (l++I5 P x).length)]) ⟨rfl,rfl,trivial⟩) ?_ (c_psE k n t a x y p P hY hS hb2 hb3 (l++I5 P x) R (c+1) _ (by omega) (by omega) (by simp;omega) (by rw [hR,A1E]));intro j b hj;by_cases e:j=c+1
  ·subst e;rw [A0] at hj ⊢;rw [<- hj,A1B]
  ·rw [A2 e] at hj ⊢;by_cases e0:j=0
   ·subst e0;rw [A0] at hj;rw [<- hj];simp only [Hp.del];rw [if_neg (by omega),A2 (by omega),A2 (by omega),A2 (by omega),A0]
   ·rw [A2 e0] at hj;cases hj
theorem c_psC (k:Int) (n t:List UInt8) (a:List Ex) (x y:List Pb.St) (p:Int) (P:Pb.St->List (List UInt8)) (hX:OwL 59 [F8 x] (I5 P x)) (hY:OwL 59 [F8 y] (I5 P y))
  (hS:∀ s,y=[s]->OwL 102 [s.v] (P s)) (hb1:(I5 P x).length<=1000000000) (hb2:(I5 P y).length<=1000000000) (hb3:∀ s,y=[s]->(P s).length<=1000000000)
  (hE:∀ e∈a,OwL 65 [e.v] (txT (exT e))) (ha:a.length<=1000)
  (l R:List (List UInt8)) (id c:Nat) (hid:2<=id) (hc:id<c) (hRl:R.length<=1000000000) (hR:R=l++(agI 0 a++A4i P k x y)) :
  IW Tryz.prog 107 (pz Tryz.prog 102 (.i (.o (.o (.i .h))))) ⟨(tm [(1,.ptr 0 0),(3,.slc id 0 l.length),(4,.ptr 1 0)]),(((nil.upd 0 (B1k k n t a x y p)).upd 1 (B3i (O0 k))).upd id ⟨1,true,l.map DV.str⟩),c⟩ (rt [.tmp 2] fun v H' c' => ∃ v2 H2,GL H' [v] H2 [v2]/\∃ id,v2=.slc id 0 R.length/\H2=nil.upd id ⟨1,true,R.map DV.str⟩):=by
 have ne0:=V2 0 1 id c (by omega);repeat' ((with_reducible first|refine wr ?_|refine k_cu ?_ ?_|refine wb2 ?_ ?_<;>(intro hb;try simp only [hb])|fail)<;>try simp only [go_sem,seval,ne0,A0])
 refine A0d (fun q:Nat × Nat × List (List UInt8)=>[(1,.ptr 0 0),(3,.slc q.2.1 0 q.2.2.length),(4,.ptr 1 0),(44,K6 a),(45,I64 a.length),(46,I64 q.1)]) (fun q=>((nil.upd 0 (B1k k n t a x y p)).upd 1 (B3i (O0 k))).upd q.2.1 ⟨1,true,q.2.2.map DV.str⟩)
  (fun q cc=>q.1<=a.length/\2<=q.2.1/\q.2.1<cc/\R=q.2.2++(agI q.1 (a.drop q.1)++A4i P k x y)) (fun q=>a.length-q.1) (0,id,l) (fun b=>⟨rfl,rfl,rfl,rfl,rfl,rfl,trivial⟩) (by simp [C7,tm,Tm.upd]) (Sub.refl _) ⟨A0Z _,hid,hc,hR⟩ ?_
 clear ne0 hR hc hid;rintro ⟨i,id,cur⟩ c ⟨hi,hid,hc,hR⟩;simp only at hi hid hc hR;simp only;by_cases hlt:i<a.length
 ·have hd:decide ((i:Int)<a.length)=true:=by simpa using hlt
  have hg:=A0C hlt;have hw:IntKind.i64.wrap ((i:Int)+1)=((i+1:Nat):Int):=by rw [w64 (by omega) (by omega)];omega
  have hP:=hE _ (A0W hlt);rw [A1R hlt,agI] at hR;obtain ⟨e,he⟩:∃ e,e=a[i]:=⟨_,rfl⟩;rw [<- he] at hg hP hR;have hgm:(a.map Ex.v)[i]? = some e.v:=by rw [A0V,hg];rfl
  rw [Ex.v_w] at hP hgm;have hle:cur.length+(txT (exT e)).length+1<=2000000000:=by
   have:=congrArg List.length hR;simp only [A0D] at this;omega
  have tk:List.take (txT (exT e)).length ((txT (exT e)).map DV.str)=(txT (exT e)).map DV.str:=A0L (by simp);have ne0:=D0a 0 1 id c (c+1) (c+1+1) (c+1+1+1) (by omega);by_cases h0:0<i
  ·have hp:decide ((i:Int)>0)=true:=by simpa using h0
   rw [if_pos h0] at hR;repeat' ((with_reducible first|refine wr ?_|refine k_cu ?_ ?_|refine wb2 ?_ ?_<;>(intro hb;try simp only [hb])|fail)<;>try simp only [go_sem,seval,ne0,A0,hd,hgm,hp,hw])
   refine D2 (E2 (by simp) (by omega) (by omega)) ?_;simp only [go_sem,seval,ne0,A0];repeat' ((with_reducible first|refine wr ?_|refine k_cu ?_ ?_|refine wb2 ?_ ?_<;>(intro hb;try simp only [hb])|fail)<;>try simp only [go_sem,seval,ne0,A0,hw])
   refine AC.call (hP _ _) ?_;rintro _ _ _ ⟨rfl,rfl,rfl⟩ -;simp only [go_sem,seval,ne0,A0,tk];refine D2 (E2 (by simp) (by omega) (by omega)) ?_;simp only [go_sem,seval,ne0,A0];repeat' ((with_reducible first|refine wr ?_|refine k_cu ?_ ?_|refine wb2 ?_ ?_<;>(intro hb;try simp only [hb])|fail)<;>try simp only [go_sem,seval,ne0,A0,hw])
   have e1:cur.length+1+(txT (exT e)).length=(cur++([44] :: txT (exT e))).length:=by simp;try omega
   rw [e1];refine ⟨(i+1,c+1+1+1+1,cur++([44] :: txT (exT e))),⟨rfl,rfl⟩,GL.less fun j=>?_,inv ⟨hlt,by simp only;omega,by simp only;omega,by simp only;rw [hR];simp⟩,by simp only;omega⟩;by_cases e:j=c+1+1+1+1
   ·subst e;right;rw [A0,A0];simp
   ·by_cases e2:j=0\/j=1
    ·right;rcases e2 with rfl|rfl<;>(rw [A2 e,A2 e];simp only [Hp.upd,Hp.del,ne0,if_true,if_false])
    ·left;rw [A2 e,A2 (by omega),A2 (by omega)];rfl
  ·have hp:decide ((i:Int)>0)=false:=by simpa using h0
   rw [if_neg h0] at hR;repeat' ((with_reducible first|refine wr ?_|refine k_cu ?_ ?_|refine wb2 ?_ ?_<;>(intro hb;try simp only [hb])|fail)<;>try simp only [go_sem,seval,ne0,A0,hd,hgm,hp,hw])
   refine AC.call (hP _ _) ?_;rintro _ _ _ ⟨rfl,rfl,rfl⟩ -;simp only [go_sem,seval,ne0,A0,tk];refine D2 (E2 (by simp) (by omega) (by omega)) ?_;simp only [go_sem,seval,ne0,A0];repeat' ((with_reducible first|refine wr ?_|refine k_cu ?_ ?_|refine wb2 ?_ ?_<;>(intro hb;try simp only [hb])|fail)<;>try simp only [go_sem,seval,ne0,A0,hw])
   have e1:cur.length+(txT (exT e)).length=(cur++txT (exT e)).length:=by simp;try omega
   rw [e1];refine ⟨(i+1,c+1+1,cur++txT (exT e)),⟨rfl,rfl⟩,GL.less fun j=>?_,inv ⟨hlt,by simp only;omega,by simp only;omega,by simp only;rw [hR];simp⟩,by simp only;omega⟩;by_cases e:j=c+1+1
   ·subst e;right;rw [A0,A0];simp
   ·by_cases e2:j=0\/j=1
    ·right;rcases e2 with rfl|rfl<;>(rw [A2 e,A2 e];simp only [Hp.upd,Hp.del,ne0,if_true,if_false])
    ·left;rw [A2 e,A2 (by omega),A2 (by omega)];rfl
 ·have hd:decide ((i:Int)<a.length)=false:=by simpa using hlt
  rw [A2K (by omega),agI,A2H] at hR;repeat' ((with_reducible first|refine E1 (p:=IW _ _ (pz Tryz.prog 102 (.o (.o (.o (.o (.i .h)))))) _ _) ?_|refine wr ?_|refine k_cu ?_ ?_|refine wb2 ?_ ?_<;>(intro hb;try simp only [hb])|fail)<;>try simp only [go_sem,seval,hd])
  unfold U5;exact IW.weaken (S3 (l:=[(1,.ptr 0 0),(3,.slc id 0 cur.length),(4,.ptr 1 0)]) ⟨rfl,rfl,rfl,trivial⟩) (Sub.refl _) (c_psD k n t a x y p P hX hY hS hb1 hb2 hb3 cur R id c hid hc (by have:=congrArg List.length hR;simp only [A0D] at this;omega) hR)
theorem c_psB (k:Int) (n t:List UInt8) (a:List Ex) (x y:List Pb.St) (p:Int) (P:Pb.St->List (List UInt8)) (hX:OwL 59 [F8 x] (I5 P x)) (hY:OwL 59 [F8 y] (I5 P y))
  (hS:∀ s,y=[s]->OwL 102 [s.v] (P s)) (hb1:(I5 P x).length<=1000000000) (hb2:(I5 P y).length<=1000000000) (hb3:∀ s,y=[s]->(P s).length<=1000000000)
  (hE:∀ e∈a,OwL 65 [e.v] (txT (exT e))) (ha:a.length<=1000) (ht:t.length<=1000)
  (l R:List (List UInt8)) (id c:Nat) (hid:2<=id) (hc:id<c) (hRl:R.length<=1000000000) (hR:R=l++(txL k t++(agI 0 a++A4i P k x y))) :
  IW Tryz.prog 107 (pz Tryz.prog 102 (.i (.i (.o (.o .h))))) ⟨(tm [(1,.ptr 0 0),(3,.slc id 0 l.length),(4,.ptr 1 0)]),(((nil.upd 0 (B1k k n t a x y p)).upd 1 (B3i (O0 k))).upd id ⟨1,true,l.map DV.str⟩),c⟩ (rt [.tmp 2] fun v H' c' => ∃ v2 H2,GL H' [v] H2 [v2]/\∃ id,v2=.slc id 0 R.length/\H2=nil.upd id ⟨1,true,R.map DV.str⟩):=by
 have hq:=c_Quote t (by omega);have hl:l.length<=1000000000:=by
  have:=congrArg List.length hR;simp only [A0D] at this;omega
 unfold txL at hR;have ne0:=O7 0 1 id c (c+1) (by omega);cases htx:(O0 k).text with
 | false =>
  rw [htx,if_neg A1T,A2H] at hR;repeat' ((with_reducible first|refine E1 (p:=IW _ _ (pz Tryz.prog 102 (.i (.o (.o (.i .h))))) _ _) ?_|refine wr ?_|refine k_cu ?_ ?_|refine wb2 ?_ ?_<;>(intro hb;try simp only [hb])|fail)<;>try simp only [go_sem,seval,ne0,A0,htx])
  unfold U5;exact IW.weaken (S3 (l:=[(1,.ptr 0 0),(3,.slc id 0 l.length),(4,.ptr 1 0)]) ⟨rfl,rfl,rfl,trivial⟩) (Sub.refl _) (c_psC k n t a x y p P hX hY hS hb1 hb2 hb3 hE ha l R id c hid hc hRl hR)
 | true =>
  rw [htx,if_pos rfl] at hR;repeat' ((with_reducible first|refine E1 (p:=IW _ _ (pz Tryz.prog 102 (.i (.o (.o (.i .h))))) _ _) ?_|refine wr ?_|refine cpc hq ?_|refine k_cu ?_ ?_|refine wb2 ?_ ?_<;>(intro hb;try simp only [hb])|fail)<;>try simp only [go_sem,seval,ne0,A0,htx])
  refine D2 (E2 (by simp) (by omega) (by omega)) ?_;simp only [go_sem,seval,ne0,A0];repeat' ((with_reducible first|refine E1 (p:=IW _ _ (pz Tryz.prog 102 (.i (.o (.o (.i .h))))) _ _) ?_|refine wr ?_|refine k_cu ?_ ?_|refine wb2 ?_ ?_<;>(intro hb;try simp only [hb])|fail)<;>try simp only [go_sem,seval,ne0,A0])
  unfold U5;have e1:l.length+2=(l++[R5 t,[44]]).length:=by simp
  rw [e1];refine IW.weaken (S3 (l:=[(1,.ptr 0 0),(3,.slc (c+1) 0 (l++[R5 t,[44]]).length),(4,.ptr 1 0)]) ⟨rfl,rfl,rfl,trivial⟩) ?_ (c_psC k n t a x y p P hX hY hS hb1 hb2 hb3 hE ha (l++[R5 t,[44]]) R (c+1) _ (by omega) (by omega) hRl (by rw [hR];simp));intro j b hj;by_cases e:j=c+1
  ·subst e;rw [A0] at hj ⊢;rw [<- hj];simp
  ·rw [A2 e] at hj ⊢;by_cases e2:j=0\/j=1
   ·rw [<- hj];rcases e2 with rfl|rfl<;>simp only [Hp.upd,Hp.del,ne0,if_true,if_false]
   ·rw [A2 (by omega),A2 (by omega)] at hj;cases hj
theorem c_psA (k:Int) (n t:List UInt8) (a:List Ex) (x y:List Pb.St) (p:Int) (P:Pb.St->List (List UInt8)) (hX:OwL 59 [F8 x] (I5 P x)) (hY:OwL 59 [F8 y] (I5 P y))
  (hS:∀ s,y=[s]->OwL 102 [s.v] (P s)) (hb1:(I5 P x).length<=1000000000) (hb2:(I5 P y).length<=1000000000) (hb3:∀ s,y=[s]->(P s).length<=1000000000)
  (hE:∀ e∈a,OwL 65 [e.v] (txT (exT e))) (ha:a.length<=1000) (ht:t.length<=1000) (hRl:(psL P (.mk k n t a x y p)).length<=1000000000) :
  OwL 102 [(Pb.St.mk k n t a x y p).v] (psL P (.mk k n t a x y p)):=by
 have hsh:PC Tryz.prog 153 [I64 k] (.tup [.agg [.bool (O0 k).name,.bool (O0 k).text,I64 (O0 k).args,.bool (O0 k).thn,.bool (O0 k).els],.bool (B9t k)]):=c_shapeOf k;have hwd:=c_wordOf k;refine OwL.of (by simp [DV.nlL,DV.nl,St.nl]) ?_;refine AC.bodyT A6 rfl (A0A rfl) fun hfr=>?_;rw [Pb.St.v_w];dsimp only [Pb.St.w,Pb.St.kind,Pb.St.name,Pb.St.text,Pb.St.args,Pb.St.thn,Pb.St.els,Pb.St.pos];obtain ⟨R,hR⟩:∃ R,R=psL P (.mk k n t a x y p):=⟨_,rfl⟩;rw [<- hR] at hRl ⊢;rw [psL] at hR;unfold hdL at hR;by_cases h1:k=1
 ·have d1:(k == 1)=true:=by simpa using h1
  rw [if_pos h1] at hR;repeat' ((with_reducible first|refine E1 (p:=IW _ _ (pz Tryz.prog 102 (.i (.i (.o (.o .h))))) _ _) ?_|refine wr ?_|refine cpc hsh ?_|refine cpc hwd ?_|refine k_cu ?_ ?_|refine wb2 ?_ ?_<;>(intro hb;try simp only [hb])|fail)<;>try simp only [go_sem,seval,d1])
  refine D2 (A2r (by decide) (by decide) (by decide)) ?_;simp only [go_sem,seval,A0];repeat' ((with_reducible first|refine E1 (p:=IW _ _ (pz Tryz.prog 102 (.i (.i (.o (.o .h))))) _ _) ?_|refine wr ?_|refine k_cu ?_ ?_|refine wb2 ?_ ?_<;>(intro hb;try simp only [hb])|fail)<;>try simp only [go_sem,seval])
  unfold U5;refine IW.weaken (S3 (l:=[(1,.ptr 0 0),(3,.slc 3 0 ([n,[61]]).length),(4,.ptr 1 0)]) ⟨rfl,rfl,rfl,trivial⟩) ?_ (c_psB k n t a x y p P hX hY hS hb1 hb2 hb3 hE ha ht ([n,[61]]) R 3 _ (by decide) (by decide) hRl hR);intro j b hj;by_cases e:j=3
  ·subst e;rw [A0] at hj ⊢;exact hj
  ·rw [A2 e] at hj ⊢;by_cases e2:j=0\/j=1
   ·rw [<- hj];rcases e2 with rfl|rfl<;>first|rfl|(unfold B3i;rw [hnm];rfl)
   ·rw [A2 (by omega),A2 (by omega)] at hj;cases hj
 ·have d1:(k == 1)=false:=by simpa using h1
  rw [if_neg h1] at hR;repeat' ((with_reducible first|refine E1 (p:=IW _ _ (pz Tryz.prog 102 (.i (.i (.o (.o .h))))) _ _) ?_|refine wr ?_|refine cpc hsh ?_|refine cpc hwd ?_|refine k_cu ?_ ?_|refine wb2 ?_ ?_<;>(intro hb;try simp only [hb])|fail)<;>try simp only [go_sem,seval,d1])
  refine D2 (A2r (by decide) (by decide) (by decide)) ?_;simp only [go_sem,seval,A0];cases hnm:(O0 k).name with
  | false =>
   rw [hnm,if_neg A1T] at hR;repeat' ((with_reducible first|refine E1 (p:=IW _ _ (pz Tryz.prog 102 (.i (.i (.o (.o .h))))) _ _) ?_|refine wr ?_|refine k_cu ?_ ?_|refine wb2 ?_ ?_<;>(intro hb;try simp only [hb])|fail)<;>try simp only [go_sem,seval,hnm,A0])
   unfold U5;refine IW.weaken (S3 (l:=[(1,.ptr 0 0),(3,.slc 3 0 ([P2 B6 V7 k]).length),(4,.ptr 1 0)]) ⟨rfl,rfl,rfl,trivial⟩) ?_ (c_psB k n t a x y p P hX hY hS hb1 hb2 hb3 hE ha ht ([P2 B6 V7 k]) R 3 _ (by decide) (by decide) hRl hR);intro j b hj;by_cases e:j=3
   ·subst e;rw [A0] at hj ⊢;exact hj
   ·rw [A2 e] at hj ⊢;by_cases e2:j=0\/j=1
    ·rw [<- hj];rcases e2 with rfl|rfl<;>first|rfl|(unfold B3i;rw [hnm];rfl)
    ·rw [A2 (by omega),A2 (by omega)] at hj;cases hj
  | true =>
   rw [hnm,if_pos rfl] at hR;repeat' ((with_reducible first|refine E1 (p:=IW _ _ (pz Tryz.prog 102 (.i (.i (.o (.o .h))))) _ _) ?_|refine wr ?_|refine k_cu ?_ ?_|refine wb2 ?_ ?_<;>(intro hb;try simp only [hb])|fail)<;>try simp only [go_sem,seval,hnm,A0])
   refine D2 (E2 rfl (by decide) (by decide)) ?_;simp only [go_sem,seval,A0];repeat' ((with_reducible first|refine E1 (p:=IW _ _ (pz Tryz.prog 102 (.i (.i (.o (.o .h))))) _ _) ?_|refine wr ?_|refine k_cu ?_ ?_|refine wb2 ?_ ?_<;>(intro hb;try simp only [hb])|fail)<;>try simp only [go_sem,seval])
   unfold U5;refine IW.weaken (S3 (l:=[(1,.ptr 0 0),(3,.slc 5 0 ([P2 B6 V7 k,n]).length),(4,.ptr 1 0)]) ⟨rfl,rfl,rfl,trivial⟩) ?_ (c_psB k n t a x y p P hX hY hS hb1 hb2 hb3 hE ha ht ([P2 B6 V7 k,n]) R 5 _ (by decide) (by decide) hRl hR);intro j b hj;by_cases e:j=5
   ·subst e;rw [A0] at hj ⊢;exact hj
   ·rw [A2 e] at hj ⊢;by_cases e2:j=0\/j=1
    ·rw [<- hj];rcases e2 with rfl|rfl<;>first|rfl|(unfold B3i;rw [hnm];rfl)
    ·rw [A2 (by omega),A2 (by omega)] at hj;cases hj
theorem A1f {d:Nat}:∀ {l:List Pb.St},A2l d l=true->∀ s∈l,A3l d s=true
 | [],_,s,hs=>by cases hs
 | a :: l,h,s,hs=>by
  rw [A2l,A0G] at h;rcases A1M.1 hs with rfl|hs
  ·exact h.1
  ·exact A1f h.2 s hs
theorem c_pblkT (l:List Pb.St) (hl:l.length<=4000000) (hP:∀ s∈l,OwL 102 [s.v] (txT (stT s))) (hB:Pb.St.szs l<=4000000):OwL 59 [F8 l] (txT (blT l)):=by
 rw [B2q];refine c_pblk _ l hl hP ?_;rw [<- A4x];have:=A0u l;unfold txT;rw [A0H];omega
theorem c_prStmt:∀ (m:Nat) (s:Pb.St) (d:Nat),s.sz<m->s.sz<=4000000->A3l d s=true->OwL 102 [s.v] (txT (stT s)):=by
 intro m
 induction m with
 | zero=>intro s d h;omega
 | succ m ih =>
 intro s d hm hB hv;have hps:=C9x hv;have hlen:=(A5c s).2;obtain ⟨k,n,t,a,x,y,p⟩:=s;have hv2:=hv;unfold A3l at hv2;simp only [A0G,A0M,A1L] at hv2;obtain ⟨⟨⟨⟨⟨k1,k2⟩,⟨ha,hE⟩⟩,⟨hn,ht⟩⟩,⟨hx,hy⟩⟩,⟨⟨⟨hx1,hx2⟩,hx3⟩,⟨⟨hy1,hy2⟩,hy3⟩⟩⟩:=hv2;have hsz:Pb.St.szs x+Pb.St.szs y+Ex.szs a+t.length<(Pb.St.mk k n t a x y p).sz:=by rw [Pb.St.sz];omega
 have hPx:∀ s∈x,OwL 102 [s.v] (txT (stT s)):=fun s hs=>ih s (d+1) (by have:=Pb.St.szs_mem hs;omega) (by have:=Pb.St.szs_mem hs;omega) (A1f hx3 s hs);have hPy:∀ s∈y,OwL 102 [s.v] (txT (stT s)):=fun s hs=>ih s (d+1) (by have:=Pb.St.szs_mem hs;omega) (by have:=Pb.St.szs_mem hs;omega) (A1f hy3 s hs);have hX:=c_pblkT x (by omega) hPx (by omega);have hY:=c_pblkT y (by omega) hPy (by omega);rw [B2q] at hX hY;have bl:∀ l:List Pb.St,Pb.St.szs l<=4000000->(I5 (fun s=>txT (stT s)) l).length<=1000000000:=fun l h=>by
  rw [<- B2q];have:=(B0j l).2;unfold txT;rw [A0H];omega
 have har:a.length<=1000:=by
  rw [ha];unfold O0;repeat' split
  all_goals decide
 have htl:t.length<=1000:=by
  by_cases hc:(O0 k).text=true
  ·rw [if_pos hc] at ht;unfold V4 at ht;simp only [A0G,A0M] at ht;omega
  ·rw [if_neg hc] at ht;rw [A1L.1 ht];simp
 rw [<- hps];refine c_psA k n t a x y p _ hX hY (fun s hs=>hPy s (by rw [hs];simp)) (bl x (by omega)) (bl y (by omega)) (fun s hs=>?_) (fun e he=>?_) har htl (by rw [hps];unfold txT;rw [A0H];omega)
 ·have:=(A5c s).2;unfold txT;rw [A0H];have h2:=Pb.St.szs_mem (l:=y) (x:=s) (by rw [hs];simp);omega
 ·exact c_printed _ e (A2J _) (by have:=Ex.szs_mem he;omega) (C4f (A0R.1 hE e he))
end Go.Proofs.YthlpinppaclofaaGreatDoor
namespace Go.Pb
variable [Go.Sym.Tab]
open Go.Sym
def dcL (d:Dc):List (List UInt8):=[C6.getD (d.kind-1).toNat [],d.name]++((if d.kind<7 then (if d.value<0 then [[45]] else [])++[F9 (if d.value<0 then -d.value else d.value)] else [])++[[59]])
theorem B2p {v:Int} (h1:0<=v) (h2:v<=2147483647):txT (A3x v)=[F9 v]:=by
 unfold A3x;rw [if_neg (by omega)];rfl
theorem D1y {d:Dc} (h:A7n d=true):txT (dcT d)=dcL d:=by
 unfold A7n at h;simp only [A0G,A0M] at h;obtain ⟨⟨⟨⟨k1,k2⟩,hn⟩,v1⟩,v2⟩:=h;unfold dcT dcL;rw [if_neg (by omega)];dsimp only;by_cases h6:6<d.kind
 ·rw [if_pos h6,if_neg (show ¬ d.kind<7 by omega)];simp [E4,H8,M7,P5 hn]
 ·rw [if_neg h6,if_pos (show d.kind<7 by omega)];have v2':d.value<=2147483647:=by split at v2<;>omega
  by_cases hv:d.value<0
  ·have hk:d.kind=6:=by split at v1<;>omega
   have v1' : -2147483647<=d.value:=by rw [if_pos hk] at v1;exact v1
   rw [if_pos (show d.value<0 /\ -2147483647<=d.value/\d.kind=6 from ⟨hv,v1',hk⟩),if_pos hv,if_pos hv];simp [E4,H8,M7,P5 hn,B2p (v := -d.value) (by omega) (by omega)]
  ·rw [if_neg (show ¬ (d.value<0 /\ -2147483647<=d.value/\d.kind=6) from fun hc=>hv hc.1),if_neg hv,if_neg hv];simp [E4,H8,M7,P5 hn,B2p (v:=d.value) (by omega) v2']
def B4a (h:Hd):List (List UInt8):=[[111,110],D0.getD (h.trig-1).toNat []]++((if 3<=h.trig then [h.name] else [])++txT (blT h.body))
theorem D0z {h:Hd} (hv:A3m h=true):txT (hdT h)=B4a h:=by
 unfold A3m at hv;simp only [A0G,A0M] at hv;obtain ⟨⟨⟨k1,k2⟩,hn⟩, -⟩:=hv;unfold hdT B4a;by_cases h3:3<=h.trig
 ·rw [if_pos h3] at hn;rw [if_pos (by omega),if_pos h3];simp [E4,H8,M7,P5 hn]
 ·rw [if_neg (by omega),if_neg h3];simp [E4,H8,M7]
def mdL (m:Md):List (List UInt8):=[[109,111,100,101],m.name,F9 m.prio,[123]]++(m.hds.flatMap B4a++[[125]])
theorem A5n {α : Type} {f : α -> List Tok} {g : α -> List (List UInt8)}:∀ {l:List α},(∀ x∈l,txT (f x)=g x)->txT (l.flatMap f)=l.flatMap g
 | [],_=>rfl
 | a :: l,h=>by
  rw [A1D,A1D,E4,h a A0O,A5n fun x hx=>h x (A0J _ hx)]
theorem D0c {m:Md} (hv:A1q m=true):txT (mdT m)=mdL m:=by
 unfold A1q at hv;simp only [A0G,A0M] at hv;obtain ⟨⟨⟨⟨hn,p1⟩,p2⟩, -⟩,hh⟩:=hv;unfold mdT mdL;have hf:=A5n (l:=m.hds) (f:=hdT) (g:=B4a) fun h hm=>D0z (A0R.1 hh h hm);simp [E4,H8,M7,P5 hn,B2p p1 p2,hf]
theorem C8z {r:Ru} (h:A9c r=true):txT (ruT r)=r.decls.flatMap dcL++r.modes.flatMap mdL:=by
 have h0:=h;unfold A9c at h;simp only [A0G,A0M] at h;obtain ⟨⟨-,h1⟩,h2⟩:=h;unfold ruT;rw [if_neg,E4,A5n fun d hd=>D1y (A0R.1 h1 d hd),A5n fun m hm=>D0c (A0R.1 h2 m hm)];intro hb;obtain ⟨m,hm,hb⟩:=List.any_eq_true.1 hb;obtain ⟨g,hg,hb⟩:=List.any_eq_true.1 hb;have h3:=A0R.1 h2 m hm;unfold A1q at h3;simp only [A0G] at h3;have h4:=A0R.1 h3.2 g hg;unfold A3m at h4;simp only [A0G,A0M] at h4;unfold C4v at hb;simp only [A1O,A0M] at hb;omega
def ShT (t:Tok):Prop:=(L6 t).length<=1000
theorem C1t:ShT S2:=by show (L6 S2).length<=1000;rw [show L6 S2=[] from rfl];simp
theorem C8o:Clo ShT:=⟨fun t ht=>by obtain rfl:=A0Y.1 ht;exact C1t,fun x h t ht=>by
  obtain rfl:=A0Y.1 ht;unfold ShT;rw [J1];omega,fun x t ht=>by
  unfold G5 at ht;by_cases h:D5 x=false
  ·rw [if_pos h] at ht;obtain rfl:=A0Y.1 ht;exact C1t
  ·rw [if_neg h] at ht;obtain rfl:=A0Y.1 ht;have h1:D5 x=true:=by cases hx:D5 x with|true=>rfl|false=>exact absurd hx h
   unfold D5 at h1;simp only [A0G,A0M] at h1;show x.length<=1000;omega,fun x t ht=>by
  unfold A3x at ht;split at ht
  ·obtain rfl:=A0Y.1 ht;exact C1t
  ·obtain rfl:=A0Y.1 ht;have:=O9 (n:=x) (by omega) (by omega);show (F9 x).length<=1000;omega,fun x t ht=>by
  unfold A5x at ht;split at ht
  ·obtain rfl:=A0Y.1 ht;exact C1t
  ·rename_i hc;obtain rfl:=A0Y.1 ht;have h2:¬ 32<x.length:=fun h=>hc (.inr h);have:=A8g x;show (R5 x).length<=1000;omega⟩
theorem C5x (r:Ru):∀ t∈txT (ruT r),t.length<=100000:=fun t ht=>by
 obtain ⟨x,hx,rfl⟩:=A1K.1 ht;have:(L6 x).length<=1000:=C9q C8o r x hx;omega
end Go.Pb
namespace Go.Proofs.YthlpinppaclofaaGreatDoor
open Go.Eng (IC IOper DReg IFn B4)
open Go.Sym Go.Pb
theorem c_fmZ (R:List (List UInt8)) (o:Option Nat) (c:Nat) (ho:∀ i,o=some i->i<c) (hn:o=none->R=[]) (hl:R.length<=1000000000) (hb:∀ t∈R,t.length<=100000) :
  IW Tryz.prog 105 (pz Tryz.prog 25 (.o (.o (.o (.i (.i (.o .h))))))) ⟨tm [(3,B3 o R.length)],B9 Sym.nil o ⟨1,true,R.map DV.str⟩,c⟩ (rt [.tmp 2] fun v H' _ => ∃ H2,GL H' [v] H2 [.str (T8 R)]):=by
 have hL:=c_lines R hl hb;rcases o with _|id
 ·obtain rfl:=hn rfl;repeat' ((with_reducible first|refine wr ?_|refine k_cu ?_ ?_|refine wb2 ?_ ?_<;>(intro hb;try simp only [hb])|fail)<;>try simp only [go_sem,seval])
  refine AC.call (hL.give (H0:=Sym.nil) ⟨fun _ h=>h,fun ρ w vs h1 h2=>⟨ρ,rfl,h1,?_,Ext.refl _ _ _⟩⟩) ?_
  ·exact ⟨h2.1,fun i x y hx hy=>by
    match i with
    | 0=>cases hx;exact (h2.2 0 _ y rfl hy).snil_lst
    | _+1=>cases hx⟩
  ·rintro v H' c' ⟨rfl,rfl,rfl⟩ -;simp only [go_sem,seval];repeat' ((with_reducible first|refine wr ?_|refine k_cu ?_ ?_|refine wb2 ?_ ?_<;>(intro hb;try simp only [hb])|fail)<;>try simp only [go_sem,seval])
   exact A5 rfl
 ·repeat' ((with_reducible first|refine wr ?_|refine k_cu ?_ ?_|refine wb2 ?_ ?_<;>(intro hb;try simp only [hb])|fail)<;>try simp only [go_sem,seval])
  refine AC.call (hL.give (H0:=Sym.nil) (GL.one (id:=id) A0 rfl (.cons _ _ _ _ (J8 (u:=1) (by rw [A0H]) (G4 _) ⟨[],by rw [A1a];simp⟩) .nil))) ?_;rintro v H' c' ⟨rfl,rfl,rfl⟩ -;simp only [go_sem,seval];repeat' ((with_reducible first|refine wr ?_|refine k_cu ?_ ?_|refine wb2 ?_ ?_<;>(intro hb;try simp only [hb])|fail)<;>try simp only [go_sem,seval])
  exact A5 rfl
abbrev A9l (ds:List Dc) (ms:List Md):Blk:=⟨0,true,[K7 ds,A0p ms]⟩
theorem Z3 {M:Hp} {x y z c:Nat} {a b B0 Bc:Blk} (h0:M 0=some B0) (hc:M c=some Bc) (h1:0<c) (h2:c<x) (h3:x<y) (h4:y<z) :
  (((M.upd y a).del x).upd z b) 0=some B0/\(((M.upd y a).del x).upd z b) c=some Bc/\(((M.upd y a).del x).upd z b) z=some b:=by
 refine ⟨?_,?_,A0⟩
 ·rw [A2 (by omega)];simp only [Hp.del];rw [if_neg (by omega),A2 (by omega)];exact h0
 ·rw [A2 (by omega)];simp only [Hp.del];rw [if_neg (by omega),A2 (by omega)];exact hc
theorem c_fmD (ds:List Dc) (ms:List Md) (R rest:List (List UInt8)) (hds:ds.length<=1000) (hv:∀ d∈ds,A7n d=true) (hRl:R.length<=1000000000)
  (next:∀ (o:Option Nat) (cur:List (List UInt8)) (c:Nat),(∀ i,o=some i->0<i/\i<c)->(o=none->cur=[])->1<=c->R=cur++rest ->
   IW Tryz.prog 105 (pz Tryz.prog 25 (.o (.o (.i (.i (.o .h)))))) ⟨tm [(1,.ptr 0 0),(3,B3 o cur.length)],B9 (nil.upd 0 (A9l ds ms)) o ⟨1,true,cur.map DV.str⟩,c⟩ (rt [.tmp 2] fun v H' _ => ∃ H2,GL H' [v] H2 [.str (T8 R)]))
  (hR:R=ds.flatMap dcL++rest) :
  IW Tryz.prog 105 (pz Tryz.prog 25 (.i (.o (.i .h)))) ⟨tm [(1,.ptr 0 0),(3,.snil)],nil.upd 0 (A9l ds ms),1⟩ (rt [.tmp 2] fun v H' _ => ∃ H2,GL H' [v] H2 [.str (T8 R)]):=by
 repeat' ((with_reducible first|refine wr ?_|refine k_cu ?_ ?_|refine wb2 ?_ ?_<;>(intro hb;try simp only [hb])|fail)<;>try simp only [go_sem,seval,A0])
 refine A0d (fun q:Nat × Option Nat × List (List UInt8)=>[(1,.ptr 0 0),(3,B3 q.2.1 q.2.2.length),(14,K7 ds),(15,I64 ds.length),(16,I64 q.1)]) (fun q=>B9 (nil.upd 0 (A9l ds ms)) q.2.1 ⟨1,true,q.2.2.map DV.str⟩)
  (fun q cc=>q.1<=ds.length/\(∀ i,q.2.1=some i->0<i/\i<cc)/\(q.2.1=none->q.2.2=[])/\1<=cc/\R=q.2.2++((ds.drop q.1).flatMap dcL++rest)) (fun q=>ds.length-q.1) (0,none,[]) (fun b=>⟨rfl,rfl,rfl,rfl,rfl,trivial⟩) (by simp [C7,tm,Tm.upd,B3]) (Sub.refl _) ⟨A0Z _,by simp,by simp,by decide,hR⟩ ?_
 clear hR;rintro ⟨i,o,cur⟩ c ⟨hi,ho,hn,hc,hR⟩;simp only at hi ho hn hc hR;simp only;by_cases hlt:i<ds.length
 ·have hd:decide ((i:Int)<ds.length)=true:=by simpa using hlt
  have hg:=A0C hlt;have hw:IntKind.i64.wrap ((i:Int)+1)=((i+1:Nat):Int):=by rw [w64 (by omega) (by omega)];omega
  have hvd:=hv _ (A0W hlt);rw [A1R hlt,A1D] at hR;obtain ⟨d,hd0⟩:∃ d,d=ds[i]:=⟨_,rfl⟩;rw [<- hd0] at hg hvd hR;have hgm:(ds.map Dc.v)[i]? = some d.v:=by rw [A0V,hg];rfl
  unfold A7n at hvd;simp only [A0G,A0M] at hvd;obtain ⟨⟨⟨⟨k1,k2⟩,hnm⟩,v1⟩,v2⟩:=hvd;obtain ⟨j,hj⟩:∃ j:Nat,d.kind=1+(j:Int):=⟨(d.kind-1).toNat,by omega⟩;have hwj:IntKind.i64.wrap (d.kind-1)=(j:Int):=by rw [w64 (by omega) (by omega)];omega
  have hjn:(d.kind-1).toNat=j:=by omega
  have hgj:(C6.map DV.str)[j]? = some (.str (C6.getD j [])):=by
   rw [A0V,A0Q,A0C (show j<C6.length from (by show j<8;omega))];rfl
  rw [dcL,hjn] at hR;generalize C6.getD j []=kw at hgj hR;repeat' ((with_reducible first|refine wr ?_|refine cpc c_pdecls ?_|refine k_cu ?_ ?_|refine wb2 ?_ ?_<;>(intro hb;try simp only [hb])|fail)<;>try simp only [go_sem,seval,A0,hd,hgm,hw])
  obtain ⟨M,hM⟩:∃ M,M=((B9 (nil.upd 0 (A9l ds ms)) o ⟨1,true,cur.map DV.str⟩).upd c ⟨0,true,[I64 0,.str [],I64 0,I64 0]⟩).upd c ⟨0,true,[I64 d.kind,.str d.name,I64 d.value,I64 d.pos]⟩:=⟨_,rfl⟩;rw [<- hM];have hMn:∀ j,c<j->M j=none:=fun j hj=>by
   rw [hM,A2 (by omega),A2 (by omega)];cases o with
   | none=>rw [C4m,A2 (by omega)];rfl
   | some id=>have:=ho id rfl;rw [W3,A2 (by omega),A2 (by omega)];rfl
  have hMc:M c=some ⟨0,true,[I64 d.kind,.str d.name,I64 d.value,I64 d.pos]⟩:=by rw [hM];exact A0
  have hM0:M 0=some (A9l ds ms):=by
   rw [hM,A2 (by omega),A2 (by omega)];cases o with
   | none=>exact A0
   | some id=>have:=ho id rfl;rw [W3,A2 (by omega)];exact A0
  have hMo:∀ id,o=some id->M id=some ⟨1,true,cur.map DV.str⟩:=fun id hid=>by
   subst hid;have:=ho id rfl;rw [hM,A2 (by omega),A2 (by omega),W3];exact A0
  clear hM;refine ⟨by and_intros<;>exact hMn _ (by omega),?_⟩;simp only [go_sem,seval,hMc,hwj,hgj];have hcl:cur.length<=1000000000:=by
   have:=congrArg List.length hR;simp only [A0D] at this;omega
  refine N9 (F4 (cs:=cur.map DV.str) (fun e=>by rw [hn e];simp) (fun id hid=>by have:=ho id hid;rw [A2 (by omega)];exact hMo id hid) (by simp) (by omega) (by omega) (by omega)) ?_;obtain ⟨x,hx⟩:∃ x,x=c+1+12:=⟨_,rfl⟩;rw [<- hx];obtain ⟨M2,hM2⟩:∃ M2,M2=(T2 (M.upd (c+1+9) ⟨1,true,[.str kw,.str d.name]⟩) o).upd x ⟨1,true,cur.map DV.str++[.str kw,.str d.name]⟩:=⟨_,rfl⟩;rw [<- hM2];have e0:M2 0=some (A9l ds ms):=by
   rw [hM2,A2 (by omega)];cases o with
   | none=>show (M.upd _ _) 0=_;rw [A2 (by omega)];exact hM0
   | some id=>have:=ho id rfl;rw [T9,if_neg (by omega),A2 (by omega)];exact hM0
  have ec:M2 c=some ⟨0,true,[I64 d.kind,.str d.name,I64 d.value,I64 d.pos]⟩:=by
   rw [hM2,A2 (by omega)];cases o with
   | none=>show (M.upd _ _) c=_;rw [A2 (by omega)];exact hMc
   | some id=>have:=ho id rfl;rw [T9,if_neg (by omega),A2 (by omega)];exact hMc
  have el:M2 x=some ⟨1,true,(cur++[kw,d.name]).map DV.str⟩:=by rw [hM2,A0];simp
  clear hM2;have hxc:c<x:=by omega
  clear hx;obtain ⟨l2,hl2⟩:∃ l2,l2=cur++[kw,d.name]:=⟨_,rfl⟩;rw [<- hl2] at el;have hln:cur.length+2=l2.length:=by rw [hl2];simp
  rw [hln];have hl2l:l2.length<=1000000002:=by omega
  have ne0:=O7 0 c x (x+1) (x+1+1) (by omega);by_cases h7:d.kind<7
  ·have d7:decide (d.kind<7)=true:=by simpa using h7
   rw [if_pos h7] at hR;simp only [go_sem,seval,ec,el];by_cases hng:d.value<0
   ·have dn:decide (d.value<0)=true:=by simpa using hng
    have hwn:IntKind.i64.wrap (0-d.value) = -d.value:=by rw [w64 (by omega) (by split at v1<;>omega)];omega
    have hmx:(if -d.value>d.value then -d.value else d.value) = -d.value:=by rw [if_pos (by omega)]
    rw [if_pos hng,if_pos hng] at hR;repeat' ((with_reducible first|refine wr ?_|refine k_cu ?_ ?_|refine wb2 ?_ ?_<;>(intro hb;try simp only [hb])|fail)<;>try simp only [go_sem,seval,ne0,A0,e0,ec,el,d7,hw,dn,hwn,hmx])
    refine D2 (E2 (by simp) (by omega) (by omega)) ?_;simp only [go_sem,seval,ne0,A0];obtain ⟨f0,fc,f2⟩:=Z3 (y:=x+1) (z:=x+1+1) (x:=x) (a:=⟨1,true,[.str [45]]⟩) (b:=⟨1,true,l2.map DV.str++[.str [45]]⟩) e0 ec (by omega) (by omega) (by omega) (by omega);obtain ⟨M3,hM3⟩:∃ M3,M3=((M2.upd (x+1) ⟨1,true,[.str [45]]⟩).del x).upd (x+1+1) ⟨1,true,l2.map DV.str++[.str [45]]⟩:=⟨_,rfl⟩;rw [<- hM3] at f0 fc f2 ⊢;clear hM3 e0 ec;obtain ⟨l3,hl3⟩:∃ l3,l3=l2++[[45]]:=⟨_,rfl⟩;have el3:M3 (x+1+1)=some ⟨1,true,l3.map DV.str⟩:=by rw [f2,hl3];simp
    clear f2;have e0:=f0;have ec:=fc;clear f0 fc;have hl3n:l2.length+1=l3.length:=by rw [hl3];simp
    rw [hl3n];obtain ⟨x3,hx3⟩:∃ x3,x3=x+1+1:=⟨_,rfl⟩;rw [<- hx3] at el3 ⊢;have ne0:=O7 0 c x3 (x3+1) (x3+1+1) (by omega);repeat' ((with_reducible first|refine wr ?_|refine k_cu ?_ ?_|refine wb2 ?_ ?_<;>(intro hb;try simp only [hb])|fail)<;>try simp only [go_sem,seval,ne0,A0,e0,ec,el3,d7,hw,dn,hwn,hmx])
    refine cpc (c_Itoa (-d.value) (by omega) (by split at v1<;>omega)) ?_;simp only [go_sem,seval,ne0,A0,el3];repeat' ((with_reducible first|refine wr ?_|refine k_cu ?_ ?_|refine wb2 ?_ ?_<;>(intro hb;try simp only [hb])|fail)<;>try simp only [go_sem,seval,ne0,A0,e0,ec,el3,d7,hw])
    refine D2 (E2 (by simp) (by omega) (by omega)) ?_;simp only [go_sem,seval,ne0,A0];obtain ⟨f0,fc,f2⟩:=Z3 (y:=x3+1) (z:=x3+1+1) (x:=x3) (a:=⟨1,true,[.str (F9 (-d.value))]⟩) (b:=⟨1,true,l3.map DV.str++[.str (F9 (-d.value))]⟩) e0 ec (by omega) (by omega) (by omega) (by omega);obtain ⟨M4,hM4⟩:∃ M4,M4=((M3.upd (x3+1) ⟨1,true,[.str (F9 (-d.value))]⟩).del x3).upd (x3+1+1) ⟨1,true,l3.map DV.str++[.str (F9 (-d.value))]⟩:=⟨_,rfl⟩;rw [<- hM4] at f0 fc f2 ⊢;clear hM4 e0 ec;obtain ⟨l4,hl4⟩:∃ l4,l4=l3++[(F9 (-d.value))]:=⟨_,rfl⟩;have el4:M4 (x3+1+1)=some ⟨1,true,l4.map DV.str⟩:=by rw [f2,hl4];simp
    clear f2;have e0:=f0;have ec:=fc;clear f0 fc;have hl4n:l3.length+1=l4.length:=by rw [hl4];simp
    rw [hl4n];obtain ⟨x4,hx4⟩:∃ x4,x4=x3+1+1:=⟨_,rfl⟩;rw [<- hx4] at el4 ⊢;have ne0:=O7 0 c x4 (x4+1) (x4+1+1) (by omega);repeat' ((with_reducible first|refine wr ?_|refine k_cu ?_ ?_|refine wb2 ?_ ?_<;>(intro hb;try simp only [hb])|fail)<;>try simp only [go_sem,seval,ne0,A0,e0,ec,el4,d7,hw])
    refine D2 (E2 (by simp) (by omega) (by omega)) ?_;simp only [go_sem,seval,ne0,A0];repeat' ((with_reducible first|refine wr ?_|refine k_cu ?_ ?_|refine wb2 ?_ ?_<;>(intro hb;try simp only [hb])|fail)<;>try simp only [go_sem,seval,ne0,A0,hw])
    have e1:l4.length+1=(l4++[[59]]).length:=by simp
    rw [e1];obtain ⟨f0, -,f2⟩:=Z3 (y:=x4+1) (z:=x4+1+1) (x:=x4) (a:=⟨1,true,[.str [59]]⟩) (b:=⟨1,true,l4.map DV.str++[.str [59]]⟩) e0 ec (by omega) (by omega) (by omega) (by omega);refine ⟨(i+1,some (x4+1+1),l4++[[59]]),⟨rfl,rfl⟩,GL.less' fun j b hj=>?_,inv ⟨hlt,(fun i h=>by cases h;omega),(fun h=>by cases h),by omega,by simp only;rw [hR,hl4,hl3,hl2];simp⟩,by simp only;omega⟩;simp only [W3] at hj;by_cases e:j=x4+1+1
    ·subst e;rw [A0] at hj;rw [f2, <- hj];simp
    ·rw [A2 e] at hj;by_cases e2:j=0
     ·subst e2;rw [A0] at hj;rw [f0, <- hj]
     ·rw [A2 e2] at hj;cases hj
   ·have dn:decide (d.value<0)=false:=by simpa using hng
    have hwn:IntKind.i64.wrap (0-d.value) = -d.value:=by rw [w64 (by split at v2<;>omega) (by omega)];omega
    have hmx:(if -d.value>d.value then -d.value else d.value)=d.value:=by
     by_cases h0 : -d.value>d.value
     ·omega
     ·rw [if_neg h0]
    rw [if_neg hng,if_neg hng] at hR;repeat' ((with_reducible first|refine wr ?_|refine k_cu ?_ ?_|refine wb2 ?_ ?_<;>(intro hb;try simp only [hb])|fail)<;>try simp only [go_sem,seval,ne0,A0,e0,ec,el,d7,hw,dn,hwn,hmx])
    refine cpc (c_Itoa d.value (by omega) (by split at v2<;>omega)) ?_;simp only [go_sem,seval,ne0,A0,el];repeat' ((with_reducible first|refine wr ?_|refine k_cu ?_ ?_|refine wb2 ?_ ?_<;>(intro hb;try simp only [hb])|fail)<;>try simp only [go_sem,seval,ne0,A0,e0,ec,el,d7,hw])
    refine D2 (E2 (by simp) (by omega) (by omega)) ?_;simp only [go_sem,seval,ne0,A0];obtain ⟨f0,fc,f2⟩:=Z3 (y:=x+1) (z:=x+1+1) (x:=x) (a:=⟨1,true,[.str (F9 d.value)]⟩) (b:=⟨1,true,l2.map DV.str++[.str (F9 d.value)]⟩) e0 ec (by omega) (by omega) (by omega) (by omega);obtain ⟨M4,hM4⟩:∃ M4,M4=((M2.upd (x+1) ⟨1,true,[.str (F9 d.value)]⟩).del x).upd (x+1+1) ⟨1,true,l2.map DV.str++[.str (F9 d.value)]⟩:=⟨_,rfl⟩;rw [<- hM4] at f0 fc f2 ⊢;clear hM4 e0 ec;obtain ⟨l4,hl4⟩:∃ l4,l4=l2++[(F9 d.value)]:=⟨_,rfl⟩;have el4:M4 (x+1+1)=some ⟨1,true,l4.map DV.str⟩:=by rw [f2,hl4];simp
    clear f2;have e0:=f0;have ec:=fc;clear f0 fc;have hl4n:l2.length+1=l4.length:=by rw [hl4];simp
    rw [hl4n];obtain ⟨x4,hx4⟩:∃ x4,x4=x+1+1:=⟨_,rfl⟩;rw [<- hx4] at el4 ⊢;have ne0:=O7 0 c x4 (x4+1) (x4+1+1) (by omega);repeat' ((with_reducible first|refine wr ?_|refine k_cu ?_ ?_|refine wb2 ?_ ?_<;>(intro hb;try simp only [hb])|fail)<;>try simp only [go_sem,seval,ne0,A0,e0,ec,el4,d7,hw])
    refine D2 (E2 (by simp) (by omega) (by omega)) ?_;simp only [go_sem,seval,ne0,A0];repeat' ((with_reducible first|refine wr ?_|refine k_cu ?_ ?_|refine wb2 ?_ ?_<;>(intro hb;try simp only [hb])|fail)<;>try simp only [go_sem,seval,ne0,A0,hw])
    have e1:l4.length+1=(l4++[[59]]).length:=by simp
    rw [e1];obtain ⟨f0, -,f2⟩:=Z3 (y:=x4+1) (z:=x4+1+1) (x:=x4) (a:=⟨1,true,[.str [59]]⟩) (b:=⟨1,true,l4.map DV.str++[.str [59]]⟩) e0 ec (by omega) (by omega) (by omega) (by omega);refine ⟨(i+1,some (x4+1+1),l4++[[59]]),⟨rfl,rfl⟩,GL.less' fun j b hj=>?_,inv ⟨hlt,(fun i h=>by cases h;omega),(fun h=>by cases h),by omega,by simp only;rw [hR,hl4,hl2];simp⟩,by simp only;omega⟩;simp only [W3] at hj;by_cases e:j=x4+1+1
    ·subst e;rw [A0] at hj;rw [f2, <- hj];simp
    ·rw [A2 e] at hj;by_cases e2:j=0
     ·subst e2;rw [A0] at hj;rw [f0, <- hj]
     ·rw [A2 e2] at hj;cases hj
  ·have d7:decide (d.kind<7)=false:=by simpa using h7
   rw [if_neg h7] at hR;simp only [go_sem,seval,ec,el];repeat' ((with_reducible first|refine wr ?_|refine k_cu ?_ ?_|refine wb2 ?_ ?_<;>(intro hb;try simp only [hb])|fail)<;>try simp only [go_sem,seval,ne0,A0,e0,ec,el,d7,hw])
   refine D2 (E2 (by simp) (by omega) (by omega)) ?_;simp only [go_sem,seval,ne0,A0];repeat' ((with_reducible first|refine wr ?_|refine k_cu ?_ ?_|refine wb2 ?_ ?_<;>(intro hb;try simp only [hb])|fail)<;>try simp only [go_sem,seval,ne0,A0,hw])
   have e1:l2.length+1=(l2++[[59]]).length:=by simp
   rw [e1];obtain ⟨f0, -,f2⟩:=Z3 (y:=x+1) (z:=x+1+1) (x:=x) (a:=⟨1,true,[.str [59]]⟩) (b:=⟨1,true,l2.map DV.str++[.str [59]]⟩) e0 ec (by omega) (by omega) (by omega) (by omega);refine ⟨(i+1,some (x+1+1),l2++[[59]]),⟨rfl,rfl⟩,GL.less' fun j b hj=>?_,inv ⟨hlt,(fun i h=>by cases h;omega),(fun h=>by cases h),by omega,by simp only;rw [hR,hl2];simp⟩,by simp only;omega⟩;simp only [W3] at hj;by_cases e:j=x+1+1
   ·subst e;rw [A0] at hj;rw [f2, <- hj];simp
   ·rw [A2 e] at hj;by_cases e2:j=0
    ·subst e2;rw [A0] at hj;rw [f0, <- hj]
    ·rw [A2 e2] at hj;cases hj
 ·have hd:decide ((i:Int)<ds.length)=false:=by simpa using hlt
  rw [A2K (by omega),List.flatMap_nil,A2H] at hR;repeat' ((with_reducible first|refine E1 (p:=IW _ _ (pz Tryz.prog 25 (.o (.o (.i (.i (.o .h)))))) _ _) ?_|refine wr ?_|refine k_cu ?_ ?_|refine wb2 ?_ ?_<;>(intro hb;try simp only [hb])|fail)<;>try simp only [go_sem,seval,hd])
  unfold U5;exact IW.weaken (S3 (l:=[(1,.ptr 0 0),(3,B3 o cur.length)]) ⟨rfl,rfl,trivial⟩) (Sub.refl _) (next o cur c ho hn hc hR)
abbrev C6x (m:Md):Blk:=⟨0,true,[.str m.name,I64 m.prio,A4a m.hds,I64 m.pos]⟩
theorem A8z {M:Hp} {x y z c:Nat} {a b Bc:Blk} (hc:M c=some Bc) (h2:¬ c=x) (h3:¬ c=y) (h4:¬ c=z) :
  (((M.upd y a).del x).upd z b) c=some Bc/\(((M.upd y a).del x).upd z b) z=some b:=by
 refine ⟨?_,A0⟩;rw [A2 h4];simp only [Hp.del];rw [if_neg h2,A2 h3];exact hc
theorem c_fmH (m:Md) (Q:Exit->Go.Sym.St->Prop) (a55 a56 a57:DV) (R rest:List (List UInt8)) (hh:m.hds.length<=1000) (hv:∀ h∈m.hds,A3m h=true) (hS:∀ h∈m.hds,Pb.St.szs h.body<=4000000) (hRl:R.length<=1000000000)
  (l:List (List UInt8)) (id b c:Nat) (hid:id<c) (hb:b<c) (hne:¬ b=id) (hR:R=l++(m.hds.flatMap B4a++rest))
  (next:∀ (id:Nat) (cur:List (List UInt8)) (c2:Nat),id<c2->c<=c2->R=cur++rest ->
   IW Tryz.prog 105 (pz Tryz.prog 25 (.o (.i (.i (.o (.i (.o .h))))))) ⟨tm [(3,.slc id 0 cur.length),(55,a55),(56,a56),(57,a57)],nil.upd id ⟨1,true,cur.map DV.str⟩,c2⟩ Q) :
  IW Tryz.prog 105 (pz Tryz.prog 25 (.i (.o (.i (.i (.i .h)))))) ⟨tm [(3,.slc id 0 l.length),(7,.ptr b 0),(55,a55),(56,a56),(57,a57)],(nil.upd b (C6x m)).upd id ⟨1,true,l.map DV.str⟩,c⟩ Q:=by
 have hb0:((nil.upd b (C6x m)).upd id ⟨1,true,l.map DV.str⟩) b=some (C6x m):=by rw [A2 hne];exact A0
 repeat' ((with_reducible first|refine wr ?_|refine k_cu ?_ ?_|refine wb2 ?_ ?_<;>(intro hb;try simp only [hb])|fail)<;>try simp only [go_sem,seval,hb0])
 refine A0d (fun q:Nat × Nat × List (List UInt8)=>[(3,.slc q.2.1 0 q.2.2.length),(55,a55),(56,a56),(57,a57),(70,A4a m.hds),(71,I64 m.hds.length),(72,I64 q.1)]) (fun q=>nil.upd q.2.1 ⟨1,true,q.2.2.map DV.str⟩)
  (fun q cc=>q.1<=m.hds.length/\q.2.1<cc/\c<=cc/\R=q.2.2++((m.hds.drop q.1).flatMap B4a++rest)) (fun q=>m.hds.length-q.1) (0,id,l) (fun b=>⟨rfl,rfl,rfl,rfl,rfl,rfl,rfl,trivial⟩) (by simp [C7,tm,Tm.upd]) (fun j b hj=>by
   by_cases e:j=id
   ·subst e;rw [A0] at hj ⊢;exact hj
   ·rw [A2 e] at hj;cases hj) ⟨A0Z _,hid,A0F _,hR⟩ ?_
 clear hR hid hne hb0;rintro ⟨i,id,cur⟩ c3 ⟨hi,hid,hc3,hR⟩;simp only at hi hid hc3 hR;simp only;by_cases hlt:i<m.hds.length
 ·have hd:decide ((i:Int)<m.hds.length)=true:=by simpa using hlt
  have hg:=A0C hlt;have hw:IntKind.i64.wrap ((i:Int)+1)=((i+1:Nat):Int):=by rw [w64 (by omega) (by omega)];omega
  have hvd:=hv _ (A0W hlt);have hsz:=hS _ (A0W hlt);rw [A1R hlt,A1D] at hR;obtain ⟨h,hh0⟩:∃ h,h=m.hds[i]:=⟨_,rfl⟩;rw [<- hh0] at hg hvd hR hsz;have hgm:(m.hds.map Hd.v)[i]? = some h.v:=by rw [A0V,hg];rfl
  have hbk:=c_pblkT h.body (by have:=Pb.St.szs_len h.body;omega) (fun s hs=>by
   unfold A3m A2m at hvd;simp only [A0G] at hvd;exact c_prStmt _ s 1 (A2J _) (by have:=Pb.St.szs_mem hs;omega) (A1f hvd.2.2 s hs)) hsz
  have hbl:(txT (blT h.body)).length<=1000000000:=by
   have:=(B0j h.body).2;unfold txT;rw [A0H];omega
  unfold A3m at hvd;simp only [A0G,A0M] at hvd;obtain ⟨⟨⟨k1,k2⟩,hnm⟩, -⟩:=hvd;obtain ⟨j,hj⟩:∃ j:Nat,h.trig=1+(j:Int):=⟨(h.trig-1).toNat,by omega⟩;have hwj:IntKind.i64.wrap (h.trig-1)=(j:Int):=by rw [w64 (by omega) (by omega)];omega
  have hjn:(h.trig-1).toNat=j:=by omega
  have hgj:(D0.map DV.str)[j]? = some (.str (D0.getD j [])):=by
   rw [A0V,A0Q,A0C (show j<D0.length from (by show j<6;omega))];rfl
  rw [B4a,hjn] at hR;generalize D0.getD j []=kw at hgj hR;generalize txT (blT h.body)=W at hbk hbl hR;have hcl:cur.length<=1000000000:=by
   have:=congrArg List.length hR;simp only [A0D] at this;omega
  repeat' ((with_reducible first|refine wr ?_|refine cpc c_ptrigs ?_|refine k_cu ?_ ?_|refine wb2 ?_ ?_<;>(intro hb;try simp only [hb])|fail)<;>try simp only [go_sem,seval,A0,hd,hgm,hw])
  obtain ⟨M,hM⟩:∃ M,M=((nil.upd id ⟨1,true,cur.map DV.str⟩).upd c3 ⟨0,true,[I64 0,.str [],.snil,I64 0]⟩).upd c3 ⟨0,true,[I64 h.trig,.str h.name,F8 h.body,I64 h.pos]⟩:=⟨_,rfl⟩;rw [<- hM];have hMn:∀ j,c3<j->M j=none:=fun j hj=>by
   rw [hM,A2 (by omega),A2 (by omega),A2 (by omega)];rfl
  have hMc:M c3=some ⟨0,true,[I64 h.trig,.str h.name,F8 h.body,I64 h.pos]⟩:=by rw [hM];exact A0
  have hMo:M id=some ⟨1,true,cur.map DV.str⟩:=by rw [hM,A2 (by omega),A2 (by omega)];exact A0
  clear hM;refine ⟨by and_intros<;>exact hMn _ (by omega),?_⟩;simp only [go_sem,seval,hMc,hMo,hwj,hgj];rw [A2 (show ¬ id=c3+1+7 by omega),hMo];refine N9 (E2 (by simp) (by omega) (by omega)) ?_;obtain ⟨ec,el⟩:=A8z (M:=M) (x:=id) (y:=c3+1+7) (z:=c3+1+10) (c:=c3) (a:=⟨1,true,[.str [111,110],.str kw]⟩) (b:=⟨1,true,cur.map DV.str++[.str [111,110],.str kw]⟩) hMc (by omega) (by omega) (by omega);obtain ⟨M2,hM2⟩:∃ M2,M2=((M.upd (c3+1+7) ⟨1,true,[.str [111,110],.str kw]⟩).del id).upd (c3+1+10) ⟨1,true,cur.map DV.str++[.str [111,110],.str kw]⟩:=⟨_,rfl⟩;rw [<- hM2] at ec el ⊢;clear hM2;obtain ⟨x,hx⟩:∃ x,x=c3+1+10:=⟨_,rfl⟩;rw [<- hx] at el ⊢;have hxc:c3<x:=by omega
  clear hx;obtain ⟨l2,hl2⟩:∃ l2,l2=cur++[[111,110],kw]:=⟨_,rfl⟩;rw [show cur.map DV.str++[.str [111,110],.str kw]=l2.map DV.str by rw [hl2];simp] at el;have hln:cur.length+2=l2.length:=by rw [hl2];simp
  rw [hln];have hl2l:l2.length<=1000000002:=by omega
  have ne0:=V2 c3 x (x+1) (x+1+1) (by omega);by_cases h3:3<=h.trig
  ·have d3:decide (h.trig≥3)=true:=by simpa using h3
   rw [if_pos h3] at hR;simp only [go_sem,seval,ec,el];repeat' ((with_reducible first|refine wr ?_|refine k_cu ?_ ?_|refine wb2 ?_ ?_<;>(intro hb;try simp only [hb])|fail)<;>try simp only [go_sem,seval,ne0,A0,ec,el,d3,hw])
   refine D2 (E2 (by simp) (by omega) (by omega)) ?_;simp only [go_sem,seval,ne0,A0];obtain ⟨fc,f2⟩:=A8z (M:=M2) (x:=x) (y:=x+1) (z:=x+1+1) (c:=c3) (a:=⟨1,true,[.str h.name]⟩) (b:=⟨1,true,l2.map DV.str++[.str h.name]⟩) ec (by omega) (by omega) (by omega);obtain ⟨M3,hM3⟩:∃ M3,M3=((M2.upd (x+1) ⟨1,true,[.str h.name]⟩).del x).upd (x+1+1) ⟨1,true,l2.map DV.str++[.str h.name]⟩:=⟨_,rfl⟩;rw [<- hM3] at fc f2 ⊢;clear hM3 ec;obtain ⟨l3,hl3⟩:∃ l3,l3=l2++[h.name]:=⟨_,rfl⟩;have el3:M3 (x+1+1)=some ⟨1,true,l3.map DV.str⟩:=by rw [f2,hl3];simp
   clear f2;have hl3n:l2.length+1=l3.length:=by rw [hl3];simp
   rw [hl3n];obtain ⟨x3,hx3⟩:∃ x3,x3=x+1+1:=⟨_,rfl⟩;rw [<- hx3] at el3 ⊢;have ne0:=V2 c3 x3 (x3+1) (x3+1+1) (by omega);repeat' ((with_reducible first|refine wr ?_|refine k_cu ?_ ?_|refine wb2 ?_ ?_<;>(intro hb;try simp only [hb])|fail)<;>try simp only [go_sem,seval,ne0,A0,fc,el3,d3,hw])
   refine AC.call (hbk _ _) ?_;rintro _ _ _ ⟨rfl,rfl,rfl⟩ -;have tk:List.take W.length (W.map DV.str)=W.map DV.str:=A0L (by simp);simp only [go_sem,seval,ne0,A0,tk,el3];refine D2 (E2 (by simp) (by omega) (by omega)) ?_;simp only [go_sem,seval,ne0,A0];repeat' ((with_reducible first|refine wr ?_|refine k_cu ?_ ?_|refine wb2 ?_ ?_<;>(intro hb;try simp only [hb])|fail)<;>try simp only [go_sem,seval,ne0,A0,hw])
   have e1:l3.length+W.length=(l3++W).length:=by simp
   rw [e1];refine ⟨(i+1,x3+1+1,l3++W),⟨rfl,rfl⟩,GL.less' fun j b hj=>?_,inv ⟨hlt,by simp only;omega,by omega,by simp only;rw [hR,hl3,hl2];simp⟩,by simp only;omega⟩;simp only at hj;by_cases e:j=x3+1+1
   ·subst e;rw [A0] at hj ⊢;rw [<- hj];simp
   ·rw [A2 e] at hj;cases hj
  ·have d3:decide (h.trig≥3)=false:=by simpa using h3
   rw [if_neg h3] at hR;simp only [go_sem,seval,ec,el];repeat' ((with_reducible first|refine wr ?_|refine k_cu ?_ ?_|refine wb2 ?_ ?_<;>(intro hb;try simp only [hb])|fail)<;>try simp only [go_sem,seval,ne0,A0,ec,el,d3,hw])
   refine AC.call (hbk _ _) ?_;rintro _ _ _ ⟨rfl,rfl,rfl⟩ -;have tk:List.take W.length (W.map DV.str)=W.map DV.str:=A0L (by simp);simp only [go_sem,seval,ne0,A0,tk,el];refine D2 (E2 (by simp) (by omega) (by omega)) ?_;simp only [go_sem,seval,ne0,A0];repeat' ((with_reducible first|refine wr ?_|refine k_cu ?_ ?_|refine wb2 ?_ ?_<;>(intro hb;try simp only [hb])|fail)<;>try simp only [go_sem,seval,ne0,A0,hw])
   have e1:l2.length+W.length=(l2++W).length:=by simp
   rw [e1];refine ⟨(i+1,x+1+1,l2++W),⟨rfl,rfl⟩,GL.less' fun j b hj=>?_,inv ⟨hlt,by simp only;omega,by omega,by simp only;rw [hR,hl2];simp⟩,by simp only;omega⟩;simp only at hj;by_cases e:j=x+1+1
   ·subst e;rw [A0] at hj ⊢;rw [<- hj];simp
   ·rw [A2 e] at hj;cases hj
 ·have hd:decide ((i:Int)<m.hds.length)=false:=by simpa using hlt
  rw [A2K (by omega),List.flatMap_nil,A2H] at hR;repeat' ((with_reducible first|refine E1 (p:=IW _ _ (pz Tryz.prog 25 (.o (.i (.i (.o (.i (.o .h))))))) _ _) ?_|refine wr ?_|refine k_cu ?_ ?_|refine wb2 ?_ ?_<;>(intro hb;try simp only [hb])|fail)<;>try simp only [go_sem,seval,hd])
  unfold U5;exact IW.weaken (S3 (l:=[(3,.slc id 0 cur.length),(55,a55),(56,a56),(57,a57)]) ⟨rfl,rfl,rfl,rfl,trivial⟩) (Sub.refl _) (next id cur c3 hid hc3 hR)
theorem c_fmM (ds:List Dc) (ms:List Md) (R:List (List UInt8)) (hms:ms.length<=1000) (hv:∀ m∈ms,A1q m=true) (hS:∀ m∈ms, ∀ h∈m.hds,Pb.St.szs h.body<=4000000) (hRl:R.length<=1000000000) (hRb:∀ t∈R,t.length<=100000)
  (o:Option Nat) (l:List (List UInt8)) (c:Nat) (ho:∀ i,o=some i->0<i/\i<c) (hn:o=none->l=[]) (hc:1<=c) (hR:R=l++ms.flatMap mdL) :
  IW Tryz.prog 105 (pz Tryz.prog 25 (.o (.o (.i (.i (.o .h)))))) ⟨tm [(1,.ptr 0 0),(3,B3 o l.length)],B9 (nil.upd 0 (A9l ds ms)) o ⟨1,true,l.map DV.str⟩,c⟩ (rt [.tmp 2] fun v H' _ => ∃ H2,GL H' [v] H2 [.str (T8 R)]):=by
 have h0:(B9 (nil.upd 0 (A9l ds ms)) o ⟨1,true,l.map DV.str⟩) 0=some (A9l ds ms):=by
  cases o with
  | none=>exact A0
  | some id=>have:=ho id rfl;rw [W3,A2 (by omega)];exact A0
 repeat' ((with_reducible first|refine wr ?_|refine k_cu ?_ ?_|refine wb2 ?_ ?_<;>(intro hb;try simp only [hb])|fail)<;>try simp only [go_sem,seval,h0])
 refine A0d (fun q:Nat × Option Nat × List (List UInt8)=>[(3,B3 q.2.1 q.2.2.length),(55,A0p ms),(56,I64 ms.length),(57,I64 q.1)]) (fun q=>B9 Sym.nil q.2.1 ⟨1,true,q.2.2.map DV.str⟩)
  (fun q cc=>q.1<=ms.length/\(∀ i,q.2.1=some i->i<cc)/\(q.2.1=none->q.2.2=[])/\R=q.2.2++(ms.drop q.1).flatMap mdL) (fun q=>ms.length-q.1) (0,o,l) (fun b=>⟨rfl,rfl,rfl,rfl,trivial⟩) (by simp [C7,tm,Tm.upd,B3]) (fun j b hj=>by
   cases o with
   | none=>cases hj
   | some id =>
    simp only [W3] at hj ⊢;by_cases e:j=id
    ·subst e;rw [A0] at hj ⊢;exact hj
    ·rw [A2 e] at hj;cases hj) ⟨A0Z _,fun i h=>(ho i h).2,hn,hR⟩ ?_
 clear hR hn ho h0;rintro ⟨i,o,cur⟩ c3 ⟨hi,ho,hn,hR⟩;simp only at hi ho hn hR;simp only;by_cases hlt:i<ms.length
 ·have hd:decide ((i:Int)<ms.length)=true:=by simpa using hlt
  have hg:=A0C hlt;have hw:IntKind.i64.wrap ((i:Int)+1)=((i+1:Nat):Int):=by rw [w64 (by omega) (by omega)];omega
  have hvd:=hv _ (A0W hlt);have hsz:=hS _ (A0W hlt);rw [A1R hlt,A1D] at hR;obtain ⟨m,hm0⟩:∃ m,m=ms[i]:=⟨_,rfl⟩;rw [<- hm0] at hg hvd hR hsz;have hgm:(ms.map Md.v)[i]? = some m.v:=by rw [A0V,hg];rfl
  unfold A1q at hvd;simp only [A0G,A0M] at hvd;obtain ⟨⟨⟨⟨hnm,p1⟩,p2⟩,hhl⟩,hh⟩:=hvd;have hit:=c_Itoa m.prio (by omega) (by omega);rw [mdL] at hR;have hcl:cur.length<=1000000000:=by
   have:=congrArg List.length hR;simp only [A0D] at this;omega
  repeat' ((with_reducible first|refine wr ?_|refine cpc hit ?_|refine k_cu ?_ ?_|refine wb2 ?_ ?_<;>(intro hb;try simp only [hb])|fail)<;>try simp only [go_sem,seval,A0,hd,hgm,hw])
  obtain ⟨M,hM⟩:∃ M,M=((B9 Sym.nil o ⟨1,true,cur.map DV.str⟩).upd c3 ⟨0,true,[.str [],I64 0,.snil,I64 0]⟩).upd c3 ⟨0,true,[.str m.name,I64 m.prio,A4a m.hds,I64 m.pos]⟩:=⟨_,rfl⟩;rw [<- hM];have hMn:∀ j,c3<j->M j=none:=fun j hj=>by
   rw [hM,A2 (by omega),A2 (by omega)];cases o with
   | none=>rfl
   | some id=>have:=ho id rfl;rw [W3,A2 (by omega)];rfl
  have hMc:M c3=some ⟨0,true,[.str m.name,I64 m.prio,A4a m.hds,I64 m.pos]⟩:=by rw [hM];exact A0
  have hMo:∀ id,o=some id->M id=some ⟨1,true,cur.map DV.str⟩:=fun id hid=>by
   subst hid;have:=ho id rfl;rw [hM,A2 (by omega),A2 (by omega),W3];exact A0
  clear hM;refine ⟨by and_intros<;>exact hMn _ (by omega),?_⟩;refine N9 (F4 (cs:=cur.map DV.str) (fun e=>by rw [hn e];simp) (fun id hid=>by have:=ho id hid;rw [A2 (by omega)];exact hMo id hid) (by simp) (by omega) (by omega) (by omega)) ?_;simp only [go_sem,seval];repeat' ((with_reducible first|refine E1 (p:=IW _ _ (pz Tryz.prog 25 (.i (.o (.i (.i (.i .h)))))) _ _) ?_|refine wr ?_|refine k_cu ?_ ?_|refine wb2 ?_ ?_<;>(intro hb;try simp only [hb])|fail)<;>try simp only [go_sem,seval,A0])
  unfold U5;have e4:cur.length+4=(cur++[[109,111,100,101],m.name,F9 m.prio,[123]]).length:=by simp
  rw [e4];refine IW.weaken (S3 (l:=[(3,.slc (c3+1+9) 0 (cur++[[109,111,100,101],m.name,F9 m.prio,[123]]).length),(7,.ptr c3 0),(55,A0p ms),(56,I64 ms.length),(57,I64 i)]) ⟨rfl,rfl,rfl,rfl,rfl,trivial⟩) ?_ (c_fmH m _ _ _ _ R ([[125]]++(ms.drop (i+1)).flatMap mdL) (by omega) (fun h hm=>A0R.1 hh h hm) hsz hRl (cur++[[109,111,100,101],m.name,F9 m.prio,[123]]) (c3+1+9) c3 _ (by omega) (by omega) (by omega) (by rw [hR];simp) ?_)
  ·intro j b hj;by_cases e:j=c3+1+9
   ·subst e;rw [A0] at hj ⊢;rw [<- hj];simp
   ·rw [A2 e] at hj ⊢;by_cases e2:j=c3
    ·subst e2;rw [A0] at hj;rw [<- hj];cases o with
     | none=>show (M.upd _ _) _=_;rw [A2 (by omega)];exact hMc
     | some id=>have:=ho id rfl;rw [T9,if_neg (by omega),A2 (by omega)];exact hMc
    ·rw [A2 e2] at hj;cases hj
  ·intro id cur2 c4 hid hc4 hR2;have hl2:cur2.length<=1000000000:=by
    have:=congrArg List.length hR2;simp only [A0D] at this;omega
   have ne0:=J7 id c4 (c4+1) (by omega);repeat' ((with_reducible first|refine wr ?_|refine k_cu ?_ ?_|refine wb2 ?_ ?_<;>(intro hb;try simp only [hb])|fail)<;>try simp only [go_sem,seval,ne0,A0,hw])
   refine D2 (E2 (by simp) (by omega) (by omega)) ?_;simp only [go_sem,seval,ne0,A0];repeat' ((with_reducible first|refine wr ?_|refine k_cu ?_ ?_|refine wb2 ?_ ?_<;>(intro hb;try simp only [hb])|fail)<;>try simp only [go_sem,seval,ne0,A0,hw])
   have e1:cur2.length+1=(cur2++[[125]]).length:=by simp
   rw [e1];refine ⟨(i+1,some (c4+1),cur2++[[125]]),⟨rfl,rfl⟩,GL.less' fun j b hj=>?_,inv ⟨hlt,(fun i h=>by cases h;omega),(fun h=>by cases h),by simp only;rw [hR2];simp⟩,by simp only;omega⟩;simp only [W3] at hj;by_cases e:j=c4+1
   ·subst e;rw [A0] at hj ⊢;rw [<- hj];simp
   ·rw [A2 e] at hj;cases hj
 ·have hd:decide ((i:Int)<ms.length)=false:=by simpa using hlt
  rw [A2K (by omega),List.flatMap_nil,A3D] at hR;subst hR;repeat' ((with_reducible first|refine E1 (p:=IW _ _ (pz Tryz.prog 25 (.o (.o (.o (.i (.i (.o .h))))))) _ _) ?_|refine wr ?_|refine k_cu ?_ ?_|refine wb2 ?_ ?_<;>(intro hb;try simp only [hb])|fail)<;>try simp only [go_sem,seval,hd])
  unfold U5;exact IW.weaken (S3 (l:=[(3,B3 o R.length)]) ⟨rfl,trivial⟩) (Sub.refl _) (c_fmZ R o c3 ho hn hRl hRb)
theorem c_PFormat (r:Ru) (hB:r.sz<=3000000):PC Tryz.prog 25 [r.v] (.str (B6u r)):=by
 have hv:=c_Valid r (by omega);refine PC.ofT A6 rfl (A0A rfl) (by simp [DV.nlL,DV.nl,A0a,Z9]) rfl ?_;unfold B6u;cases hb:A9c r with
 | false =>
  rw [hb] at hv;rw [if_neg A1T];repeat' ((with_reducible first|refine wr ?_|refine cpc hv ?_|refine k_cu ?_ ?_|refine wb2 ?_ ?_<;>(intro hb;try simp only [hb])|fail)<;>try simp only [go_sem,seval])
  exact A5 rfl
 | true =>
  rw [hb] at hv;rw [if_pos rfl];have hR:=C8z hb;have hsh:=C5x r;have hl:=(C1y r).1;have hlen:(txT (ruT r)).length<=1000000000:=by unfold txT;rw [A0H];omega
  generalize txT (ruT r)=R at hR hsh hlen ⊢;unfold A9c at hb;simp only [A0G,A0M] at hb;obtain ⟨⟨⟨hd,hm⟩,h1⟩,h2⟩:=hb;have hbod:∀ m∈r.modes, ∀ h∈m.hds,Pb.St.szs h.body<=4000000:=fun m hm h hh=>by
   have e1:h.sz<=(m.hds.map Hd.sz).sum:=P0 hh;have e2:m.sz<=(r.modes.map Md.sz).sum:=P0 hm;have e3:h.sz=1+h.name.length+Pb.St.szs h.body:=rfl;have e4:m.sz=1+m.name.length+(m.hds.map Hd.sz).sum:=rfl;have e5:r.sz=(r.decls.map Dc.sz).sum+(r.modes.map Md.sz).sum:=rfl;omega
  repeat' ((with_reducible first|refine E1 (p:=IW _ _ (pz Tryz.prog 25 (.i (.o (.i .h)))) _ _) ?_|refine wr ?_|refine cpc hv ?_|refine k_cu ?_ ?_|refine wb2 ?_ ?_<;>(intro hb;try simp only [hb])|fail)<;>try simp only [go_sem,seval])
  unfold U5;refine IW.weaken (S3 (l:=[(1,.ptr 0 0),(3,.snil)]) ⟨rfl,rfl,trivial⟩) (Sub.refl _) ?_;exact c_fmD r.decls r.modes R (r.modes.flatMap mdL) (by omega) (fun d hd=>A0R.1 h1 d hd) hlen (fun o cur c ho hn hc hR2=>c_fmM r.decls r.modes R (by omega) (fun m hm=>A0R.1 h2 m hm) hbod hlen hsh o cur c ho hn hc hR2) hR
open Go.Sym
abbrev x13:XT Tryz.prog 13:=mkF (by unfold B4;conv=>lhs;reduce;simp only [seval,u8n]) (fun h=>by conv=>lhs;cbv)
instance t13:FT Tryz.prog 13 x13.d:=x13.ft
abbrev x41:XT Tryz.prog 41:=mkF (by unfold B4;conv=>lhs;reduce;simp only [seval,u8n]) (fun h=>by conv=>lhs;cbv)
instance t41:FT Tryz.prog 41 x41.d:=x41.ft
abbrev x46:XT Tryz.prog 46:=mkF (by unfold B4;conv=>lhs;reduce;simp only [seval,u8n]) (fun h=>by conv=>lhs;cbv)
instance t46:FT Tryz.prog 46 x46.d:=x46.ft
abbrev x20:XT Tryz.prog 20:=mkF (by unfold B4;conv=>lhs;reduce;simp only [seval,u8n]) (fun h=>by conv=>lhs;cbv)
instance t20:FT Tryz.prog 20 x20.d:=x20.ft
abbrev x21:XT Tryz.prog 21:=mkF (by unfold B4;conv=>lhs;reduce;simp only [seval,u8n]) (fun h=>by conv=>lhs;cbv)
instance t21:FT Tryz.prog 21 x21.d:=x21.ft
abbrev x131:XT Tryz.prog 131:=mkF (by unfold B4;conv=>lhs;reduce;simp only [seval,u8n]) (fun h=>by conv=>lhs;cbv)
instance t131:FT Tryz.prog 131 x131.d:=x131.ft
abbrev x81:XT Tryz.prog 81:=mkF (by unfold B4;conv=>lhs;reduce;simp only [seval,u8n]) (fun h=>by conv=>lhs;cbv)
instance t81:FT Tryz.prog 81 x81.d:=x81.ft
abbrev x43:XT Tryz.prog 43:=mkF (by unfold B4;conv=>lhs;reduce;simp only [seval,u8n]) (fun h=>by conv=>lhs;cbv)
instance t43:FT Tryz.prog 43 x43.d:=x43.ft
abbrev x16:XT Tryz.prog 16:=mkF (by unfold B4;conv=>lhs;reduce;simp only [seval,u8n]) (fun h=>by conv=>lhs;cbv)
instance t16:FT Tryz.prog 16 x16.d:=x16.ft
abbrev x17:XT Tryz.prog 17:=mkF (by unfold B4;conv=>lhs;reduce;simp only [seval,u8n]) (fun h=>by conv=>lhs;cbv)
instance t17:FT Tryz.prog 17 x17.d:=x17.ft
abbrev x12:XT Tryz.prog 12:=mkF (by unfold B4;conv=>lhs;reduce;simp only [seval,u8n]) (fun h=>by conv=>lhs;cbv)
instance t12:FT Tryz.prog 12 x12.d:=x12.ft
abbrev x14:XT Tryz.prog 14:=mkF (by unfold B4;conv=>lhs;reduce;simp only [seval,u8n]) (fun h=>by conv=>lhs;cbv)
instance t14:FT Tryz.prog 14 x14.d:=x14.ft
abbrev x3:XT Tryz.prog 3:=mkF (by unfold B4;conv=>lhs;reduce;simp only [seval,u8n]) (fun h=>by conv=>lhs;cbv)
instance t3:FT Tryz.prog 3 x3.d:=x3.ft
abbrev x4:XT Tryz.prog 4:=mkF (by unfold B4;conv=>lhs;reduce;simp only [seval,u8n]) (fun h=>by conv=>lhs;cbv)
instance t4:FT Tryz.prog 4 x4.d:=x4.ft
end Go.Proofs.YthlpinppaclofaaGreatDoor
namespace Go.Pb
variable [Go.Sym.Tab]
open Go.Sym
def nxK (L:List UInt8) (n i:Nat):Nat × Nat:=if h:i<L.length then ((L[i]).toNat % n,i+1) else (0,i)
def A0h:List (List UInt8):=[[115,119,48],[99,111,105,108,48],[108,97,109,112,48],[118,48],[116,109,48],[101,118,48],[109,111,100,101,48],[110,111,110,101],[115,110,100,48],[115,104,111,119,48]]
def nmK (L:List UInt8) (w:Nat) (p:List UInt8) (n i:Nat):List UInt8 × Nat :=
 let a:=nxK L w i
 if 0<w/\a.1+1=w then
  let b:=nxK L 10 a.2
  (A0h.getD b.1 [],b.2)
 else
  let b:=nxK L n (if 0<w then a.2 else i)
  (p++F9 (b.1:Int),b.2)
theorem V1 (L:List UInt8) {n:Nat} (i:Nat) (h:0<n):(nxK L n i).1<n:=by
 unfold nxK;split
 ·exact Nat.mod_lt _ h
 ·exact h
abbrev Mk:=List UInt8 × Nat
def D2d:List (List UInt8):=[[50,49,52,55,52,56,51,54,52,55],[49,48,48,48,48,48,48],[54,53,53,51,54],[49,48,48,48,48,48]]
def B7e:List (List UInt8):=[[43],[45],[42],[47],[37]]
def C0r:List (List UInt8):=[[60],[60,61],[62],[62,61],[61,61],[33,61]]
def bl0 (L:List UInt8) (w i:Nat):Mk :=
 let k:=nxK L 5 i
 if k.1=0 then ([116,114,117,101],k.2)
 else if k.1=1 then ([102,97,108,115,101],k.2)
 else if k.1=2 then let a:=nmK L w [109,111,100,101] 3 k.2;([97,99,116,105,118,101,32]++a.1,a.2)
 else let a:=nmK L w [115,119] 4 k.2;([99,108,111,115,101,100,32]++a.1,a.2)
def in1 (L:List UInt8) (w i:Nat):Mk :=
 let k:=nxK L 7 i
 if k.1=0\/k.1=1 then nmK L w [118] 3 k.2
 else if k.1=2 then ([112,108,97,121,101,114],k.2)
 else if k.1=3 then ([98,97,108,108],k.2)
 else if k.1=4 then let a:=nmK L w [116,109] 2 k.2;([108,101,102,116,32]++a.1,a.2)
 else if k.1=5 then let j:=nxK L 4 k.2;(D2d.getD j.1 [],j.2)
 else let j:=nxK L 12 k.2;(F9 (j.1:Int),j.2)
def wlK (L:List UInt8) (w:Nat) (f g:Nat->Mk) (i:Nat):Mk :=
 let k:=nxK L (4 * w) i
 if 0<w/\k.1=1 then f k.2 else g (if 0<w then k.2 else i)
def in0 (L:List UInt8) (w:Nat):Nat->Mk:=wlK L w (bl0 L w) (in1 L w)
mutual
def inK (L:List UInt8) (w:Nat):Nat->Nat->Mk
 | 0,i=>in0 L w i
 | d+1,i=>wlK L w (blK L w d) (fun i =>
   let k:=nxK L 5 i
   if k.1=0 then in0 L w k.2
   else if k.1=1 then let a:=in0 L w k.2;([45]++a.1,a.2)
   else
    let a:=inK L w d k.2
    let c:=inK L w d a.2
    let o:=nxK L 5 c.2
    (((((([40]++a.1)++[32])++B7e.getD o.1 [])++[32])++c.1)++[41],o.2)) i
def blK (L:List UInt8) (w:Nat):Nat->Nat->Mk
 | 0,i=>bl0 L w i
 | d+1,i =>
  let k:=nxK L 6 i
  if k.1=0 then let a:=bl0 L w k.2;([33]++a.1,a.2)
  else if k.1=1 then
   let a:=blK L w d k.2
   let c:=blK L w d a.2
   (((([40]++a.1)++[32,38,38,32])++c.1)++[41],c.2)
  else if k.1=2 then
   let a:=blK L w d k.2
   let c:=blK L w d a.2
   (((([40]++a.1)++[32,124,124,32])++c.1)++[41],c.2)
  else
   let a:=inK L w d k.2
   let o:=nxK L 6 a.2
   let c:=inK L w d o.2
   (((a.1++[32])++C0r.getD o.1 [])++[32]++c.1,c.2)
end
end Go.Pb
namespace Go.Pb
variable [Go.Sym.Tab]
open Go.Sym
abbrev T3:=Int × List UInt8 × Int
def st3 (t:Tok):T3:=(t.kind,t.text,t.value)
end Go.Pb
set_option maxHeartbeats 1000000
namespace Go.Pb
variable [Go.Sym.Tab]
open Go.Sym
def kwL:List (List UInt8):=C6++D0++B6++C5++F1++R0++[[41],[59],[44],[61],[123],[125],[101,108,115,101],[109,111,100,101],[111,110]]
structure Clv (Q:Tok->Prop):Prop where
 w:∀ x∈kwL,Q (C9 x)
 n:∀ x,D5 x=true->Q ⟨1,x,0,0⟩
 v:∀ x,0<=x->x<=2147483647->Q ⟨3,[],x,0⟩
 t:∀ x,V4 x=true->Q ⟨4,x,0,0⟩
section
variable {Q:Tok->Prop} (C:Clv Q)
include C
end
end Go.Pb
namespace Go.Pb
variable [Go.Sym.Tab]
open Go.Sym
theorem B9q {l:List (List UInt8)} (h:l≠[]):T8 l≠[]:=by
 cases l with
 | nil=>exact absurd rfl h
 | cons w l =>
  unfold T8 lnT;rw [A0T,A3F];split<;>simp
theorem C5z {r:Ru} (h:r≠⟨[],[]⟩):ruT r≠[]:=by
 unfold ruT;split
 ·simp
 obtain ⟨D,M⟩:=r;dsimp only;intro e;rw [List.append_eq_nil_iff] at e;cases D with
 | cons d D =>
  have h1:=e.1;rw [A1D,List.append_eq_nil_iff] at h1;have h2:=h1.1;unfold dcT at h2;split at h2
  ·cases h2
  ·simp at h2
 | nil =>
  cases M with
  | nil=>exact h rfl
  | cons m M =>
   have h1:=e.2;rw [A1D,List.append_eq_nil_iff] at h1;have h2:=h1.1;unfold mdT at h2;simp at h2
theorem C8b {r:Ru} (hv:A9c r=true) (h:r≠⟨[],[]⟩):B6u r≠[]:=by
 unfold B6u;rw [if_pos hv];refine B9q ?_;unfold txT;intro e;rw [List.map_eq_nil_iff] at e;exact C5z h e
section
variable {L:List Tok} {E:Int}
end
end Go.Pb
namespace Go.Pb
variable [Go.Sym.Tab]
open Go.Sym
def Mo {α : Type} (a b:Option α):Prop:=∀ r,a=some r->b=some r
theorem Mo.refl {α : Type} (a:Option α):Mo a a:=fun _ h=>h
theorem Mo.none {α : Type} (b:Option α):Mo none b:=fun _ h=>by cases h
section
variable (L:List Tok) (E:Int)
theorem ME.all:∀ f:Nat,(∀ n s,Mo (E6 L E f n s) (E6 L E (f+1) n s))/\(∀ n e s,Mo (K5 L E f n e s) (K5 L E (f+1) n e s))/\(∀ s,Mo (K0 L E f s) (K0 L E (f+1) s))
 | 0=>⟨fun _ _=>Mo.none _,fun _ _ _=>Mo.none _,fun _=>Mo.none _⟩
 | f+1=>by
  obtain ⟨hb,hl,hu⟩:=ME.all f;refine ⟨fun n s=>?_,fun n e s=>?_,fun s=>?_⟩
  ·rw [E6,E6];split
   ·exact hu s
   cases h:E6 L E f (n+1) s with
   | none=>exact Mo.none _
   | some q=>rw [hb _ _ _ h];exact hl _ _ _
  ·rw [K5,K5];dsimp only;split
   ·exact Mo.refl _
   cases h:E6 L E f (n+1) (A9 s) with
   | none=>exact Mo.none _
   | some q =>
    rw [hb _ _ _ h];dsimp only;split
    ·exact Mo.refl _
    ·exact hl _ _ _
  ·rw [K0,K0];dsimp only;split
   ·exact Mo.refl _
   split
   ·exact Mo.refl _
   split
   ·cases h:E6 L E f 1 { i:=(B7 L E s (s.par+1) 16 50).i+1,e:=(B7 L E s (s.par+1) 16 50).e,pos:=(B7 L E s (s.par+1) 16 50).pos,ops:=(B7 L E s (s.par+1) 16 50).ops,par:=(B7 L E s (s.par+1) 16 50).par+1 } with
    | none=>exact Mo.none _
    | some q=>rw [hb _ _ _ h];exact Mo.refl _
   ·cases h:K0 L E f { i:=(B7 L E s (s.par+1) 16 50).i+1,e:=(B7 L E s (s.par+1) 16 50).e,pos:=(B7 L E s (s.par+1) 16 50).pos,ops:=(B7 L E s (s.par+1) 16 50).ops,par:=(B7 L E s (s.par+1) 16 50).par+1 } with
    | none=>exact Mo.none _
    | some q=>rw [hu _ _ h];exact Mo.refl _
theorem A0b (f:Nat) (s:Rd):Mo (F2 L E f s) (F2 L E (f+1) s):=(ME.all L E f).1 _ _
theorem C2t (f:Nat) (k p:Int) (s:Rd):Mo (R1 L E f k p s) (R1 L E (f+1) k p s):=by
 unfold R1;split
 ·cases h:F2 L E f s with
  | none=>exact Mo.none _
  | some q=>rw [A0b L E f _ _ h];exact Mo.refl _
 split
 ·cases h:F2 L E f (C3 L E (A7 L E s 4).2 [44]) with
  | none=>exact Mo.none _
  | some q=>rw [A0b L E f _ _ h];exact Mo.refl _
 split
 ·exact Mo.refl _
 dsimp only;split
 ·cases h:F2 L E f (A7 L E s 1).2 with
  | none=>exact Mo.none _
  | some q =>
   rw [A0b L E f _ _ h];dsimp only;split
   ·cases h2:F2 L E f (C3 L E q.2 [44]) with
    | none=>exact Mo.none _
    | some q2=>rw [A0b L E f _ _ h2];exact Mo.refl _
   ·exact Mo.refl _
 ·exact Mo.refl _
theorem MS.all:∀ f:Nat,(∀ d s,Mo (E8 L E f d s) (E8 L E (f+1) d s))/\(∀ d l s,Mo (J3 L E f d l s) (J3 L E (f+1) d l s)) /\
  (∀ d s,Mo (G9 L E f d s) (G9 L E (f+1) d s))/\(∀ d s,Mo (M1 L E f d s) (M1 L E (f+1) d s))
 | 0=>⟨fun _ _=>Mo.none _,fun _ _ _=>Mo.none _,fun _ _=>Mo.none _,fun _ _=>Mo.none _⟩
 | f+1=>by
  obtain ⟨hb,hl,hs,ho⟩:=MS.all f;refine ⟨fun d s=>?_,fun d l s=>?_,fun d s=>?_,fun d s=>?_⟩
  ·rw [E8,E8];exact hl _ _ _
  ·rw [J3,J3];split
   ·split
    ·exact Mo.refl _
    cases h:G9 L E f d (B7 L E s ((l.length:Int)+1) 64 9) with
    | none=>exact Mo.none _
    | some q=>rw [hs _ _ _ h];exact hl _ _ _
   ·exact Mo.refl _
  ·rw [G9,G9];dsimp only;split
   ·exact Mo.refl _
   split
   ·cases h:F2 L E f (C3 L E (A7 L E (B7 L E s d 8 50) 1).2 [61]) with
    | none=>exact Mo.none _
    | some q=>rw [A0b L E f _ _ h];exact Mo.refl _
   split
   ·cases h:F2 L E f (A9 (B7 L E s d 8 50)) with
    | none=>exact Mo.none _
    | some q =>
     rw [A0b L E f _ _ h];dsimp only;cases h2:E8 L E f (d+1) q.2 with
     | none=>exact Mo.none _
     | some q2 =>
      rw [hb _ _ _ h2];dsimp only;split
      ·cases h3:M1 L E f d (A9 q2.2) with
       | none=>exact Mo.none _
       | some q3=>rw [ho _ _ _ h3];exact Mo.refl _
      ·exact Mo.refl _
   ·exact C2t L E f _ _ _
  ·rw [M1,M1];split
   ·cases h:G9 L E f (d+1) s with
    | none=>exact Mo.none _
    | some q=>rw [hs _ _ _ h];exact Mo.refl _
   ·exact hb _ _
theorem B9h:∀ (f:Nat) (l:List Hd) (s:Rd),Mo (M9 L E f l s) (M9 L E (f+1) l s)
 | 0,_,_=>Mo.none _
 | f+1,l,s=>by
  rw [M9,M9];split
  ·split
   ·exact Mo.refl _
   dsimp only;split
   ·exact Mo.refl _
   generalize hk:(if 2<=B5 L E (C3 L E (B7 L E s ((l.length:Int)+1) 32 9) [111,110]) D0 then (A7 L E (A9 (C3 L E (B7 L E s ((l.length:Int)+1) 32 9) [111,110])) 1).2 else A9 (C3 L E (B7 L E s ((l.length:Int)+1) 32 9) [111,110]))=s4;cases h:E8 L E f 1 s4 with
   | none=>exact Mo.none _
   | some q=>rw [(MS.all L E f).1 _ _ _ h];exact B9h f _ _
  ·exact Mo.refl _
theorem C7i (f:Nat) (s:Rd):Mo (A0y L E f s) (A0y L E (f+1) s):=by
 unfold A0y;dsimp only;cases h:M9 L E f [] (C3 L E (A7 L E (A7 L E (C3 L E s [109,111,100,101]) 1).2 3).2 [123]) with
 | none=>exact Mo.none _
 | some q=>rw [B9h L E f _ _ _ h];exact Mo.refl _
theorem B3s:∀ (f:Nat) (l:List Dc) (s:Rd),Mo (P1 L E f l s) (P1 L E (f+1) l s)
 | 0,_,_=>Mo.none _
 | f+1,l,s=>by
  rw [P1,P1];dsimp only;split
  ·exact Mo.refl _
  split
  ·exact B3s f _ _
  ·exact B3s f _ _
theorem B3r:∀ (f:Nat) (l:List Md) (s:Rd),Mo (M8 L E f l s) (M8 L E (f+1) l s)
 | 0,_,_=>Mo.none _
 | f+1,l,s=>by
  rw [M8,M8];dsimp only;split
  ·split
   ·exact Mo.refl _
   split
   ·cases h:A0y L E f (B7 L E s ((l.length:Int)+1) 16 9) with
    | none=>exact Mo.none _
    | some q=>rw [C7i L E f _ _ h];exact B3r f _ _
   ·exact B3r f _ _
  ·exact Mo.refl _
theorem C7h (f:Nat) (s:Rd):Mo (A2q L E f s) (A2q L E (f+1) s):=by
 unfold A2q;cases h:P1 L E f [] s with
 | none=>exact Mo.none _
 | some q =>
  rw [B3s L E f _ _ _ h];dsimp only;cases h2:M8 L E f [] q.2 with
  | none=>exact Mo.none _
  | some q2=>rw [B3r L E f _ _ _ h2];exact Mo.refl _
end
theorem B9i {α : Type} {g:Nat->Option α} (h:∀ f,Mo (g f) (g (f+1))) {f:Nat} {r : α} (hf:g f=some r):Evt g r:=by
 refine ⟨f,fun k hk=>?_⟩
 induction k with
 | zero =>
  obtain rfl:f=0:=(by omega);exact hf
 | succ k ih =>
  by_cases e:f=k+1
  ·subst e;exact hf
  ·exact h k r (ih (by omega))
theorem C1x {L:List Tok} {E:Int} {f:Nat} {r:Ru × Rd} (h:A2q L E f rd0=some r):A0v L E=r:=(A9k L E).uniq (B9i (C7h L E · rd0) h)
theorem C1c {L:List Tok} {E:Int} {f:Nat} {r:Ex × Rd} (h:F2 L E f rd0=some r):C1d L E=r:=(B7h L E).uniq (B9i (A0b L E · rd0) h)
theorem C2l {s:List UInt8} {r:Ru} {i N:Nat} {p o q:Int} (h1:(C0 s).2.2=0) (h2:A2q (C0 s).1 s.length N rd0=some (r,⟨i,0,p,o,q⟩)):S6 s=(r,0,0):=by
 unfold S6;dsimp only;rw [if_neg (by rw [h1];decide),C1x h2,if_neg (by show ¬ ((0:Int) == 0)=false;decide)]
theorem B5g {s:List UInt8} {r:Ex} {i N:Nat} {p o q:Int} (h1:(C0 s).2.2=0) (h2:F2 (C0 s).1 s.length N rd0=some (r,⟨i,0,p,o,q⟩)) (hi:(C0 s).1.length<=i):A9s s=(r,0,0):=by
 unfold A9s;dsimp only;rw [if_neg (by rw [h1];decide),C1c h2];dsimp only;have hz:(if okR (⟨i,0,p,o,q⟩:Rd)=true/\i<(C0 s).1.length then J5 (C0 s).1 s.length ⟨i,0,p,o,q⟩ else ⟨i,0,p,o,q⟩)=⟨i,0,p,o,q⟩:=if_neg fun h=>absurd h.2 (Nat.not_lt.2 hi);rw [hz,if_neg (by show ¬ ((0:Int) == 0)=false;decide)]
end Go.Pb
set_option maxHeartbeats 8000000
namespace Go.Proofs.YthlpinppaclofaaGreatDoor
open Go.Eng (IC IOper DReg IFn B4)
open Go.Sym Go.Pb
def sl1:List UInt8:=[49,43,50,42,120]
def sl2:List UInt8:=[40,49,43,50,41,42,120]
def sl3:List UInt8:=[108,97,109,112,32,108,32,51,59,32,109,111,100,101,32,109,32,49,32,123,32,111,110,32,115,116,97,114,116,32,123,32,108,105,103,104,116,32,108,32,56,59,32,125,32,125]
def se1:Ex:=.mk 15 0 [] [.mk 1 1 [] [] 0,.mk 12 0 [] [.mk 1 2 [] [] 2,.mk 2 0 [120] [] 4] 3] 1
def se2:Ex:=.mk 12 0 [] [.mk 15 0 [] [.mk 1 1 [] [] 1,.mk 1 2 [] [] 3] 2,.mk 2 0 [120] [] 6] 5
def sr3:Ru:=⟨[⟨3,[108],3,0⟩],[⟨[109],1,[⟨1,[],[.mk 8 [108] [] [.mk 1 8 [] [] 40] [] [] 32],21⟩],10⟩]⟩
theorem sp1:A9s sl1=(se1,0,0):=B5g (N:=60) (i:=5) (p:=0) (o:=3) (q:=0) (by decide +kernel) (by kernel_rfl) (by decide +kernel)
theorem sp2:A9s sl2=(se2,0,0):=B5g (N:=60) (i:=7) (p:=0) (o:=3) (q:=0) (by decide +kernel) (by kernel_rfl) (by decide +kernel)
theorem sp3:S6 sl3=(sr3,0,0):=C2l (N:=60) (i:=17) (p:=0) (o:=1) (q:=0) (by decide +kernel) (by kernel_rfl)
theorem sf2:C8c se2=[40,32,49,32,43,32,50,32,41,32,42,32,120]:=by decide +kernel
theorem sv3:A9c sr3=true:=by decide +kernel
theorem c_sane31:PC Tryz.prog 12 [] (.bool true):=by
 have p1:=c_PParseE sl1 (by decide);have p2:=c_PParseE sl2 (by decide);have p3:=c_PParse sl3 (by decide);rw [sp1] at p1;rw [sp2] at p2;rw [sp3] at p3;have f2:=c_PFormatE se2 (by decide);rw [sf2] at f2;have f3:=c_PFormat sr3 (by decide);have v3:=c_Valid sr3 (by decide);rw [sv3] at v3;have hne:(B6u sr3 == [])=false:=by
  have:=C8b sv3 (by unfold sr3;simp);simpa using this
 generalize B6u sr3=t3 at f3 hne;dsimp only [B3k,B8x] at p1 p2 p3;have e3:sr3.v=.agg [K7 sr3.decls,.lst [(sr3.modes.map Md.v).getD 0 (.bool true)]]:=rfl;rw [e3] at p3 f3 v3;generalize sr3.decls.map Dc.v=d1 at *;generalize (sr3.modes.map Md.v).getD 0 (.bool true)=m1 at *;have e2:=Ex.v_w se2;have e1:se1.v=.agg [I64 15,I64 0,.str [],.lst [(Ex.mk 1 1 [] [] 0).v,.agg [I64 12,I64 0,.str [],K6 [.mk 1 2 [] [] 2,.mk 2 0 [120] [] 4],I64 3]],I64 1]:=by unfold se1;rw [Ex.v_w];simp [Ex.v_w,Ex.kind,Ex.value,Ex.name,Ex.args,Ex.pos]
 rw [e1] at p1;generalize (Ex.mk 1 1 [] [] 0).v=x1 at *;generalize K6 [.mk 1 2 [] [] 2,.mk 2 0 [120] [] 4]=x2 at *;rw [e2] at p2 f2;unfold sl1 at p1;unfold sl2 at p2;unfold sl3 at p3;have hi1:Q6 5 (.lst [x1,.agg [I64 12,I64 0,.str [],x2,I64 3]]) (.int .i64 1)=some (.fptr [I64 12,I64 0,.str [],x2,I64 3]):=B3f (l:=1);refine PC.ofT A6 rfl (A0A rfl) (by simp [DV.nlL,DV.nl]) (by simp [DV.nlL,DV.nl]) ?_;repeat' ((with_reducible first|refine wr ?_|refine cpc p1 ?_|refine cpc p2 ?_|refine cpc p3 ?_|refine cpc f2 ?_|refine cpc f3 ?_|refine cpc v3 ?_|refine k_cu ?_ ?_|refine wb2 ?_ ?_<;>(intro hb;try simp only [hb])|fail)<;>try simp only [go_sem,seval,hne,hi1])
 all_goals exact A5 rfl
theorem c_parses (s:List UInt8) (hs:s.length<=100000):PC Tryz.prog 14 [.str s] (.bool true):=by
 have h1:=c_PParse s hs;have h2:=c_Parse s (by omega);have hz:=C2k s;have h3:=c_Same31 (S6 s).1 (S6 s).1 (by omega);rw [B8h rfl] at h3;have hpv:B3k (S6 s)=.tup [(S6 s).1.v,I64 (S6 s).2.1,I64 (S6 s).2.2]:=rfl;rw [hpv] at h1 h2;generalize (S6 s).1=r at h1 h2 h3;generalize (S6 s).2.1=r1 at h1 h2;generalize (S6 s).2.2=r2 at h1 h2;have hrv:r.v=.agg [K7 r.decls,A0p r.modes]:=rfl;rw [hrv] at h1 h2 h3;have b1:(r1 == r1)=true:=by simp
 have b2:(r2 == r2)=true:=by simp
 refine PC.ofT A6 rfl (A0A rfl) (by simp [DV.nlL,DV.nl]) (by simp [DV.nlL,DV.nl]) ?_;repeat' ((with_reducible first|refine wr ?_|refine cpc h1 ?_|refine cpc h2 ?_|refine cpc h3 ?_|refine k_cu ?_ ?_|refine wb2 ?_ ?_<;>(intro hb;try simp only [hb])|fail)<;>try simp only [go_sem,seval,b1,b2])
 all_goals exact A5 rfl
abbrev mkB (L:List UInt8) (w i:Nat):Blk:=⟨0,true,[.lst (bytesC L),I64 i,I64 w]⟩
theorem A2i {L:List UInt8} {i:Nat} {b:UInt8} (h:L[i]? = some b):(bytesC L)[i]? = some (.int .u8 (b.toNat:Int)):=by
 simp [bytesC,h]
theorem c_Next (L:List UInt8) (hL:L.length<=300) (w i:Nat) (hi:i<=300) (n:Nat) (hn:0<n) (hn2:n<=1000) (H:Hp) (cc t:Nat) (ht:H t=some (mkB L w i)) (htc:t<cc) :
  AC Tryz.prog 41 [.ptr t 0,I64 n] H cc (fun v H' c'=>v=I64 (nxK L n i).1/\H'=H.upd t (mkB L w (nxK L n i).2)):=by
 refine AC.bodyT A6 rfl (A0A rfl) fun hfr=>?_;have hlen:(bytesC L).length=L.length:=by simp [bytesC]
 unfold nxK;by_cases hlt:i<L.length
 ·have hd:decide ((i:Int)≥L.length)=false:=by simp;omega
  have hg:=A2i (A0C hlt);rw [dif_pos hlt];generalize L[i]=b at hg;have hw:=w64 (n:=(i:Int)+1) (by omega) (by omega);have hw3:IntKind.i64.wrap ((i:Int)+1-1)=(i:Int):=by rw [w64 (by omega) (by omega)];omega
  have hb:=b.toNat_lt;have hw4:=w64 (n:=(b.toNat:Int)) (by omega) (by omega);have hrm:binR .rem (.int .i64 (b.toNat:Int)) (I64 (n:Int))=some (I64 ((b.toNat % n:Nat):Int)):=by
   rw [A8f (by omega)];rfl
  repeat' ((with_reducible first|refine wr ?_|refine k_cu ?_ ?_|refine wb2 ?_ ?_<;>(intro hb;try simp only [hb])|fail)<;>try simp only [go_sem,seval,ht,hd,hg,hw,hw3,hw4,hrm,hlen,A0,A1])
  exact ⟨_,_,GL.refl _ _,rfl,rfl⟩
 ·have hd:decide ((i:Int)≥L.length)=true:=by simp;omega
  rw [dif_neg hlt];repeat' ((with_reducible first|refine wr ?_|refine k_cu ?_ ?_|refine wb2 ?_ ?_<;>(intro hb;try simp only [hb])|fail)<;>try simp only [go_sem,seval,ht,hd,hlen,A0,A1])
  exact ⟨_,_,GL.refl _ _,rfl,(upd_same ht).symm⟩
theorem F3 {L:List UInt8} (hL:L.length<=300) {n i:Nat} (hi:i<=300):(nxK L n i).2<=300:=by
 unfold nxK;split<;>simp<;>omega
theorem c_name32 (L:List UInt8) (hL:L.length<=300) (w i:Nat) (hw:w<=100) (hi:i<=300) (p:List UInt8) (hp:p.length<=100) (n:Nat) (hn:0<n) (hn2:n<=1000) (H:Hp) (cc t:Nat) (ht:H t=some (mkB L w i)) (htc:t<cc) :
  AC Tryz.prog 46 [.ptr t 0,.str p,I64 n] H cc (fun v H' c'=>v=.str (nmK L w p n i).1/\H'=H.upd t (mkB L w (nmK L w p n i).2)):=by
 refine AC.bodyT A6 rfl (A0A rfl) fun hfr=>?_;unfold nmK;by_cases h0:0<w
 ·have q0:decide ((w:Int)>0)=true:=by simpa using h0
  repeat' ((with_reducible first|refine wr ?_|refine k_cu ?_ ?_|refine wb2 ?_ ?_<;>(intro hb;try simp only [hb])|fail)<;>try simp only [go_sem,seval,ht,q0,A0,A1])
  refine AC.call (c_Next L hL w i hi w h0 (by omega) _ _ t ht (by omega)) ?_;rintro v' H' c2 ⟨rfl,rfl⟩ hc2;have hi2:=F3 hL (n:=w) hi;have hw1:=w64 (n:=(w:Int)-1) (by omega) (by omega);simp only [go_sem,seval,A0,A1];repeat' ((with_reducible first|refine wr ?_|refine k_cu ?_ ?_|refine wb2 ?_ ?_<;>(intro hb;try simp only [hb])|fail)<;>try simp only [go_sem,seval,A0,A1,hw1])
  refine ⟨by and_intros<;>(rw [A2 (by omega)];exact hfr _ (by omega)),?_⟩;by_cases hq:(nxK L w i).1+1=w
  ·have qq:(((nxK L w i).1:Int) == IntKind.i64.wrap ((w:Int)-1))=true:=by rw [hw1];simp;omega
   rw [if_pos ⟨h0,hq⟩];repeat' ((with_reducible first|refine wr ?_|refine k_cu ?_ ?_|refine wb2 ?_ ?_<;>(intro hb;try simp only [hb])|fail)<;>try simp only [go_sem,seval,A0,A1,qq])
   refine AC.call (c_Next L hL w _ hi2 10 (by decide) (by decide) _ _ t (by rw [A2 (by omega)];exact A0) (by omega)) ?_;rintro v' H' c3 ⟨rfl,rfl⟩ hc3;have hlt:=V1 L (nxK L w i).2 (n:=10) (by decide);generalize (nxK L 10 (nxK L w i).2)=kq at hlt ⊢;obtain ⟨k,i3⟩:=kq;dsimp only at hlt ⊢;have hia:Q6 1 (.slc c2 0 10) (I64 (k:Int))=some (.ptr c2 k):=by simp [Q6];omega
   have hld:([.str [115,119,48],.str [99,111,105,108,48],.str [108,97,109,112,48],.str [118,48],.str [116,109,48],.str [101,118,48],.str [109,111,100,101,48],.str [110,111,110,101],.str [115,110,100,48],.str [115,104,111,119,48]]:List DV)[k]? = some (.str (A0h.getD k [])):=by
    match k,hlt with
    | 0,_=>rfl
    | 1,_=>rfl
    | 2,_=>rfl
    | 3,_=>rfl
    | 4,_=>rfl
    | 5,_=>rfl
    | 6,_=>rfl
    | 7,_=>rfl
    | 8,_=>rfl
    | 9,_=>rfl
   have ne0:=Q3 t c2 (by omega);generalize hWL:([.str [115,119,48],.str [99,111,105,108,48],.str [108,97,109,112,48],.str [118,48],.str [116,109,48],.str [101,118,48],.str [109,111,100,101,48],.str [110,111,110,101],.str [115,110,100,48],.str [115,104,111,119,48]]:List DV)=WL at hld ⊢;simp only [go_sem,seval,A0,A1,ne0,hia,hld];repeat' ((with_reducible first|refine wr ?_|refine k_cu ?_ ?_|refine wb2 ?_ ?_<;>(intro hb;try simp only [hb])|fail)<;>try simp only [go_sem,seval,A0,A1,ne0,hia,hld])
   refine ⟨_,_,GL.less' (fun j b hj=>?_),rfl,rfl⟩;by_cases e:j=t
   ·subst e;rw [A0] at hj ⊢;exact hj
   ·rw [A2 e] at hj;have:j≠c2:=by rintro rfl;rw [hfr _ (by omega)] at hj;cases hj
    rw [A2 e,A2 this,A2 e];exact hj
  ·have qq:(((nxK L w i).1:Int) == IntKind.i64.wrap ((w:Int)-1))=false:=by rw [hw1];simp;omega
   rw [if_neg (fun h=>hq h.2),if_pos h0];repeat' ((with_reducible first|refine wr ?_|refine k_cu ?_ ?_|refine wb2 ?_ ?_<;>(intro hb;try simp only [hb])|fail)<;>try simp only [go_sem,seval,A0,A1,qq])
   refine AC.call (c_Next L hL w _ hi2 n hn hn2 _ _ t A0 (by omega)) ?_;rintro v' H' c3 ⟨rfl,rfl⟩ hc3;have hlt:=V1 L (nxK L w i).2 hn;have hdc:=c_Dec' ((nxK L n (nxK L w i).2).1:Int) (by omega) (by omega);have hdl:=O9 (n:=((nxK L n (nxK L w i).2).1:Int)) (by omega) (by omega);have hadd:=O5 (s:=p) (t:=F9 ((nxK L n (nxK L w i).2).1:Int)) (by omega);simp only [go_sem,seval,A1];repeat' ((with_reducible first|refine wr ?_|refine cpc hdc ?_|refine k_cu ?_ ?_|refine wb2 ?_ ?_<;>(intro hb;try simp only [hb])|fail)<;>try simp only [go_sem,seval,A0,A1,hadd])
   exact ⟨_,_,GL.refl _ _,rfl,rfl⟩
 ·have q0:decide ((w:Int)>0)=false:=by simpa using h0
  rw [if_neg (fun h=>h0 h.1),if_neg h0];repeat' ((with_reducible first|refine wr ?_|refine k_cu ?_ ?_|refine wb2 ?_ ?_<;>(intro hb;try simp only [hb])|fail)<;>try simp only [go_sem,seval,ht,q0,A0,A1])
  refine ⟨by and_intros<;>exact hfr _ (by omega),?_⟩;repeat' ((with_reducible first|refine wr ?_|refine k_cu ?_ ?_|refine wb2 ?_ ?_<;>(intro hb;try simp only [hb])|fail)<;>try simp only [go_sem,seval,ht,q0,A0,A1])
  refine AC.call (c_Next L hL w i hi n hn hn2 _ _ t ht (by omega)) ?_;rintro v' H' c2 ⟨rfl,rfl⟩ hc2;have hlt:=V1 L i hn;have hdc:=c_Dec' ((nxK L n i).1:Int) (by omega) (by omega);have hdl:=O9 (n:=((nxK L n i).1:Int)) (by omega) (by omega);have hadd:=O5 (s:=p) (t:=F9 ((nxK L n i).1:Int)) (by omega);simp only [go_sem,seval];repeat' ((with_reducible first|refine wr ?_|refine cpc hdc ?_|refine k_cu ?_ ?_|refine wb2 ?_ ?_<;>(intro hb;try simp only [hb])|fail)<;>try simp only [go_sem,seval,A0,A1,hadd])
  exact ⟨_,_,GL.refl _ _,rfl,rfl⟩
theorem A2w {L:List UInt8} (hL:L.length<=300) {w n i:Nat} {p:List UInt8} (hi:i<=300):(nmK L w p n i).2<=300:=by
 unfold nmK;dsimp only;split
 ·exact F3 hL (F3 hL hi)
 ·split
  ·exact F3 hL (F3 hL hi)
  ·exact F3 hL hi
theorem W4 {L:List UInt8} {w n i:Nat} {p:List UInt8} (hn:0<n) (hn2:n<=1000):(nmK L w p n i).1.length<=p.length+100:=by
 unfold nmK;dsimp only;split
 ·have:=V1 L (nxK L w i).2 (n:=10) (by decide);generalize (nxK L 10 (nxK L w i).2).1=k at this
  match k,this with
  | 0,_=>simp [A0h]
  | 1,_=>simp [A0h]
  | 2,_=>simp [A0h]
  | 3,_=>simp [A0h]
  | 4,_=>simp [A0h]
  | 5,_=>simp [A0h]
  | 6,_=>simp [A0h]
  | 7,_=>simp [A0h]
  | 8,_=>simp [A0h]
  | 9,_=>simp [A0h]
 ·have:=V1 L (if 0<w then (nxK L w i).2 else i) hn;have h:=O9 (n:=((nxK L n (if 0<w then (nxK L w i).2 else i)).1:Int)) (by omega) (by omega);rw [A0D];omega
theorem c_bl0 (L:List UInt8) (hL:L.length<=300) (w:Nat) (hw:w<=100) (i:Nat) (hi:i<=300) (d:Int) (hd:d<=0) (H:Hp) (cc t:Nat) (ht:H t=some (mkB L w i)) (htc:t<cc) :
  AC Tryz.prog 21 [.ptr t 0,I64 d] H cc (fun v H' c'=>v=.str (bl0 L w i).1/\H'=H.upd t (mkB L w (bl0 L w i).2)):=by
 refine AC.bodyT A6 rfl (A0A rfl) fun hfr=>?_;have qd:decide (d<=0)=true:=by simpa using hd
 unfold bl0;repeat' ((with_reducible first|refine wr ?_|refine k_cu ?_ ?_|refine wb2 ?_ ?_<;>(intro hb;try simp only [hb])|fail)<;>try simp only [go_sem,seval,qd])
 refine AC.call (c_Next L hL w i hi 5 (by decide) (by decide) _ _ t ht (by omega)) ?_;rintro v' H' c2 ⟨rfl,rfl⟩ hc2;have hi2:=F3 hL (n:=5) hi;generalize nxK L 5 i=k at hi2 ⊢;obtain ⟨k,i2⟩:=k;dsimp only at hi2 ⊢;by_cases k0:k=0
 ·subst k0;simp only [go_sem,seval];repeat' ((with_reducible first|refine wr ?_|refine k_cu ?_ ?_|refine wb2 ?_ ?_<;>(intro hb;try simp only [hb])|fail)<;>try simp only [go_sem,seval])
  exact ⟨_,_,GL.refl _ _,rfl,rfl⟩
 have q0:((k:Int) == 0)=false:=by simpa using k0
 rw [if_neg k0];by_cases k1:k=1
 ·subst k1;simp only [go_sem,seval];repeat' ((with_reducible first|refine wr ?_|refine k_cu ?_ ?_|refine wb2 ?_ ?_<;>(intro hb;try simp only [hb])|fail)<;>try simp only [go_sem,seval])
  exact ⟨_,_,GL.refl _ _,rfl,rfl⟩
 have q1:((k:Int) == 1)=false:=by simp;omega
 rw [if_neg k1];by_cases k2:k=2
 ·subst k2;rw [if_pos rfl];simp only [go_sem,seval];repeat' ((with_reducible first|refine wr ?_|refine k_cu ?_ ?_|refine wb2 ?_ ?_<;>(intro hb;try simp only [hb])|fail)<;>try simp only [go_sem,seval])
  refine AC.call (c_name32 L hL w i2 hw hi2 [109,111,100,101] (by decide) 3 (by decide) (by decide) _ _ t A0 (by omega)) ?_;rintro v' H' c3 ⟨rfl,rfl⟩ hc3;have hl:=W4 (L:=L) (w:=w) (i:=i2) (p:=[109,111,100,101]) (n:=3) (by decide) (by decide);generalize nmK L w [109,111,100,101] 3 i2=a at hl ⊢;have hadd:=O5 (s:=[97,99,116,105,118,101,32]) (t:=a.1) (by simp at hl ⊢;omega);simp only [go_sem,seval,A1,hadd];repeat' ((with_reducible first|refine wr ?_|refine k_cu ?_ ?_|refine wb2 ?_ ?_<;>(intro hb;try simp only [hb])|fail)<;>try simp only [go_sem,seval,A1,hadd])
  exact ⟨_,_,GL.refl _ _,rfl,rfl⟩
 have q2:((k:Int) == 2)=false:=by simp;omega
 rw [if_neg k2];simp only [go_sem,seval,q0,q1,q2];repeat' ((with_reducible first|refine wr ?_|refine k_cu ?_ ?_|refine wb2 ?_ ?_<;>(intro hb;try simp only [hb])|fail)<;>try simp only [go_sem,seval,q0,q1,q2])
 refine AC.call (c_name32 L hL w i2 hw hi2 [115,119] (by decide) 4 (by decide) (by decide) _ _ t A0 (by omega)) ?_;rintro v' H' c3 ⟨rfl,rfl⟩ hc3;have hl:=W4 (L:=L) (w:=w) (i:=i2) (p:=[115,119]) (n:=4) (by decide) (by decide);generalize nmK L w [115,119] 4 i2=a at hl ⊢;have hadd:=O5 (s:=[99,108,111,115,101,100,32]) (t:=a.1) (by simp at hl ⊢;omega);simp only [go_sem,seval,A1,hadd];repeat' ((with_reducible first|refine wr ?_|refine k_cu ?_ ?_|refine wb2 ?_ ?_<;>(intro hb;try simp only [hb])|fail)<;>try simp only [go_sem,seval,A1,hadd])
 exact ⟨_,_,GL.refl _ _,rfl,rfl⟩
theorem A1j {H:Hp} {cc t c2:Nat} {b0 b1 b:Blk} {ds:List DV} (hfr:∀ i,cc<=i->H i=none) (htc:t<cc) (hc:cc<=c2):GL (((H.upd t b0).upd c2 b1).upd t b) ds (H.upd t b) ds:=GL.less' fun j q hj=>by
 by_cases e:j=t
 ·subst e;rw [A0] at hj ⊢;exact hj
 ·rw [A2 e] at hj;have:j≠c2:=by rintro rfl;rw [hfr _ (by omega)] at hj;cases hj
  rw [A2 e,A2 this,A2 e];exact hj
theorem c_in0 (L:List UInt8) (hL:L.length<=300) (w:Nat) (hw:w<=100) (i:Nat) (hi:i<=300) (d:Int) (hd:d<=0) (hd2 : -1000<=d) (H:Hp) (cc t:Nat) (ht:H t=some (mkB L w i)) (htc:t<cc) :
  AC Tryz.prog 20 [.ptr t 0,I64 d] H cc (fun v H' c'=>v=.str (in0 L w i).1/\H'=H.upd t (mkB L w (in0 L w i).2)):=by
 refine AC.bodyT A6 rfl (A0A rfl) fun hfr=>?_;have qd:decide (d<=0)=true:=by simpa using hd
 have kI:∀ (j c0:Nat),j<=300->cc<=c0->IW Tryz.prog 86 (pz Tryz.prog 20 (.i (.i (.o .h)))) ⟨tm [(0,.ptr t 0),(1,I64 d)],H.upd t (mkB L w j),c0⟩ (rt [.tmp 4] fun v H' c' => ∃ v2 H2,GL H' [v] H2 [v2]/\v2=.str (in1 L w j).1/\H2=H.upd t (mkB L w (in1 L w j).2)):=by
  intro j c0 hj hc0;unfold in1;repeat' ((with_reducible first|refine wr ?_|refine k_cu ?_ ?_|refine wb2 ?_ ?_<;>(intro hb;try simp only [hb])|fail)<;>try simp only [go_sem,seval,qd])
  refine AC.call (c_Next L hL w j hj 7 (by decide) (by decide) _ _ t A0 (by omega)) ?_;rintro v' H' c2 ⟨rfl,rfl⟩ hc2;rw [A1];have hi2:=F3 hL (n:=7) hj;generalize nxK L 7 j=k at hi2 ⊢;obtain ⟨k,i2⟩:=k;dsimp only at hi2 ⊢;by_cases k0:k=0
  ·subst k0;rw [if_pos (.inl rfl)];simp only [go_sem,seval];repeat' ((with_reducible first|refine wr ?_|refine k_cu ?_ ?_|refine wb2 ?_ ?_<;>(intro hb;try simp only [hb])|fail)<;>try simp only [go_sem,seval])
   refine AC.call (c_name32 L hL w i2 hw hi2 [118] (by decide) 3 (by decide) (by decide) _ _ t A0 (by omega)) ?_;rintro v' H' c3 ⟨rfl,rfl⟩ hc3;rw [A1];simp only [go_sem,seval];repeat' ((with_reducible first|refine wr ?_|refine k_cu ?_ ?_|refine wb2 ?_ ?_<;>(intro hb;try simp only [hb])|fail)<;>try simp only [go_sem,seval])
   exact ⟨_,_,GL.refl _ _,rfl,rfl⟩
  have q0:((k:Int) == 0)=false:=by simpa using k0
  by_cases k1:k=1
  ·subst k1;rw [if_pos (.inr rfl)];simp only [go_sem,seval];repeat' ((with_reducible first|refine wr ?_|refine k_cu ?_ ?_|refine wb2 ?_ ?_<;>(intro hb;try simp only [hb])|fail)<;>try simp only [go_sem,seval])
   refine AC.call (c_name32 L hL w i2 hw hi2 [118] (by decide) 3 (by decide) (by decide) _ _ t A0 (by omega)) ?_;rintro v' H' c3 ⟨rfl,rfl⟩ hc3;rw [A1];simp only [go_sem,seval];repeat' ((with_reducible first|refine wr ?_|refine k_cu ?_ ?_|refine wb2 ?_ ?_<;>(intro hb;try simp only [hb])|fail)<;>try simp only [go_sem,seval])
   exact ⟨_,_,GL.refl _ _,rfl,rfl⟩
  have q1:((k:Int) == 1)=false:=by simp;omega
  rw [if_neg (by omega)];by_cases k2:k=2
  ·subst k2;simp only [go_sem,seval];repeat' ((with_reducible first|refine wr ?_|refine k_cu ?_ ?_|refine wb2 ?_ ?_<;>(intro hb;try simp only [hb])|fail)<;>try simp only [go_sem,seval])
   exact ⟨_,_,GL.refl _ _,rfl,rfl⟩
  have q2:((k:Int) == 2)=false:=by simp;omega
  rw [if_neg k2];by_cases k3:k=3
  ·subst k3;simp only [go_sem,seval];repeat' ((with_reducible first|refine wr ?_|refine k_cu ?_ ?_|refine wb2 ?_ ?_<;>(intro hb;try simp only [hb])|fail)<;>try simp only [go_sem,seval])
   exact ⟨_,_,GL.refl _ _,rfl,rfl⟩
  have q3:((k:Int) == 3)=false:=by simp;omega
  rw [if_neg k3];by_cases k4:k=4
  ·subst k4;rw [if_pos rfl];simp only [go_sem,seval];repeat' ((with_reducible first|refine wr ?_|refine k_cu ?_ ?_|refine wb2 ?_ ?_<;>(intro hb;try simp only [hb])|fail)<;>try simp only [go_sem,seval])
   refine AC.call (c_name32 L hL w i2 hw hi2 [116,109] (by decide) 2 (by decide) (by decide) _ _ t A0 (by omega)) ?_;rintro v' H' c3 ⟨rfl,rfl⟩ hc3;have hl:=W4 (L:=L) (w:=w) (i:=i2) (p:=[116,109]) (n:=2) (by decide) (by decide);generalize nmK L w [116,109] 2 i2=a at hl ⊢;have hadd:=O5 (s:=[108,101,102,116,32]) (t:=a.1) (by simp at hl ⊢;omega);simp only [go_sem,seval,A1,hadd];repeat' ((with_reducible first|refine wr ?_|refine k_cu ?_ ?_|refine wb2 ?_ ?_<;>(intro hb;try simp only [hb])|fail)<;>try simp only [go_sem,seval,A1,hadd])
   exact ⟨_,_,GL.refl _ _,rfl,rfl⟩
  have q4:((k:Int) == 4)=false:=by simp;omega
  rw [if_neg k4];by_cases k5:k=5
  ·subst k5;rw [if_pos rfl];simp only [go_sem,seval];repeat' ((with_reducible first|refine wr ?_|refine k_cu ?_ ?_|refine wb2 ?_ ?_<;>(intro hb;try simp only [hb])|fail)<;>try simp only [go_sem,seval])
   refine AC.call (c_Next L hL w i2 hi2 4 (by decide) (by decide) _ _ t (by rw [A2 (by omega)];exact A0) (by omega)) ?_;rintro v' H' c3 ⟨rfl,rfl⟩ hc3;have hlt:=V1 L i2 (n:=4) (by decide);generalize (nxK L 4 i2)=kq at hlt ⊢;obtain ⟨k,i3⟩:=kq;dsimp only at hlt ⊢;have hia:Q6 1 (.slc c2 0 4) (I64 (k:Int))=some (.ptr c2 k):=by simp [Q6];omega
   have hld:([.str [50,49,52,55,52,56,51,54,52,55],.str [49,48,48,48,48,48,48],.str [54,53,53,51,54],.str [49,48,48,48,48,48]]:List DV)[k]? = some (.str (D2d.getD k [])):=by
    match k,hlt with
    | 0,_=>rfl
    | 1,_=>rfl
    | 2,_=>rfl
    | 3,_=>rfl
   have ne0:=Q3 t c2 (by omega);generalize hWL:([.str [50,49,52,55,52,56,51,54,52,55],.str [49,48,48,48,48,48,48],.str [54,53,53,51,54],.str [49,48,48,48,48,48]]:List DV)=WL at hld ⊢;simp only [go_sem,seval,A0,A1,ne0,hia,hld];repeat' ((with_reducible first|refine wr ?_|refine k_cu ?_ ?_|refine wb2 ?_ ?_<;>(intro hb;try simp only [hb])|fail)<;>try simp only [go_sem,seval,A0,A1,ne0,hia,hld])
   exact ⟨_,_,A1j hfr htc (by omega),rfl,rfl⟩
  have q5:((k:Int) == 5)=false:=by simp;omega
  rw [if_neg k5];simp only [go_sem,seval,q0,q1,q2,q3,q4,q5];repeat' ((with_reducible first|refine wr ?_|refine k_cu ?_ ?_|refine wb2 ?_ ?_<;>(intro hb;try simp only [hb])|fail)<;>try simp only [go_sem,seval,q0,q1,q2,q3,q4,q5])
  refine AC.call (c_Next L hL w i2 hi2 12 (by decide) (by decide) _ _ t A0 (by omega)) ?_;rintro v' H' c3 ⟨rfl,rfl⟩ hc3;rw [A1];have hlt:=V1 L i2 (n:=12) (by decide);have hdc:=c_Dec' ((nxK L 12 i2).1:Int) (by omega) (by omega);simp only [go_sem,seval];repeat' ((with_reducible first|refine wr ?_|refine cpc hdc ?_|refine k_cu ?_ ?_|refine wb2 ?_ ?_<;>(intro hb;try simp only [hb])|fail)<;>try simp only [go_sem,seval])
  exact ⟨_,_,GL.refl _ _,rfl,rfl⟩
 unfold in0 wlK;by_cases h0:0<w
 ·have q0:decide ((w:Int)>0)=true:=by simpa using h0
  have hw4:IntKind.i64.wrap (4 * (w:Int))=((4 * w:Nat):Int):=by rw [w64 (by omega) (by omega)];omega
  repeat' ((with_reducible first|refine wr ?_|refine k_cu ?_ ?_|refine wb2 ?_ ?_<;>(intro hb;try simp only [hb])|fail)<;>try simp only [go_sem,seval,ht,q0,hw4])
  refine AC.call (c_Next L hL w i hi (4 * w) (by omega) (by omega) _ _ t ht (by omega)) ?_;rintro v' H' c2 ⟨rfl,rfl⟩ hc2;have hi2:=F3 hL (n:=4 * w) hi;generalize nxK L (4 * w) i=k at hi2 ⊢;obtain ⟨k,i2⟩:=k;dsimp only at hi2 ⊢;by_cases k1:k=1
  ·subst k1;rw [if_pos ⟨h0,rfl⟩];have hw1:=w64 (n:=d-1) (by omega) (by omega);simp only [go_sem,seval];repeat' ((with_reducible first|refine wr ?_|refine k_cu ?_ ?_|refine wb2 ?_ ?_<;>(intro hb;try simp only [hb])|fail)<;>try simp only [go_sem,seval,hw1])
   refine AC.call (c_bl0 L hL w hw i2 hi2 (d-1) (by omega) _ _ t A0 (by omega)) ?_;rintro v' H' c3 ⟨rfl,rfl⟩ hc3;rw [A1];simp only [go_sem,seval];repeat' ((with_reducible first|refine wr ?_|refine k_cu ?_ ?_|refine wb2 ?_ ?_<;>(intro hb;try simp only [hb])|fail)<;>try simp only [go_sem,seval])
   exact ⟨_,_,GL.refl _ _,rfl,rfl⟩
  have q1:((k:Int) == 1)=false:=by simp;omega
  rw [if_neg (fun h=>k1 h.2),if_pos h0];simp only [go_sem,seval,q1];repeat' ((with_reducible first|refine E1 (p:=IW _ _ (pz Tryz.prog 20 (.i (.i (.o .h)))) _ _) ?_|refine wr ?_|refine k_cu ?_ ?_|refine wb2 ?_ ?_<;>(intro hb;try simp only [hb])|fail)<;>try simp only [go_sem,seval,q1])
  exact IW.stage (by simp [C7,tm,Tm.upd]) (kI i2 _ hi2 hc2)
 ·have q0:decide ((w:Int)>0)=false:=by simpa using h0
  rw [if_neg (fun h=>h0 h.1),if_neg h0];have hHt:H=H.upd t (mkB L w i):=(upd_same ht).symm;repeat' ((with_reducible first|refine E1 (p:=IW _ _ (pz Tryz.prog 20 (.i (.i (.o .h)))) _ _) ?_|refine wr ?_|refine k_cu ?_ ?_|refine wb2 ?_ ?_<;>(intro hb;try simp only [hb])|fail)<;>try simp only [go_sem,seval,ht,q0])
  have:=kI i cc hi (A0F _);rw [upd_same ht] at this;exact IW.stage (by simp [C7,tm,Tm.upd]) this
def lnB:Nat->Nat
 | 0=>300
 | d+1=>2 * lnB d+300
theorem C2y (d:Nat):300<=lnB d:=by cases d<;>simp only [lnB]<;>omega
def A7l (n:Nat) (f:Nat->Mk):Prop:=∀ i,i<=300->(f i).1.length<=n/\(f i).2<=300
theorem A9x {L:List UInt8} (hL:L.length<=300) (w:Nat):A7l 300 (bl0 L w):=by
 intro i hi;unfold bl0;dsimp only;have h2:=F3 hL (n:=5) hi;split
 ·exact ⟨by simp,h2⟩
 ·split
  ·exact ⟨by simp,h2⟩
  ·split
   ·have:=W4 (L:=L) (w:=w) (i:=(nxK L 5 i).2) (p:=[109,111,100,101]) (n:=3) (by decide) (by decide);exact ⟨by simp at this ⊢;omega,A2w hL h2⟩
   ·have:=W4 (L:=L) (w:=w) (i:=(nxK L 5 i).2) (p:=[115,119]) (n:=4) (by decide) (by decide);exact ⟨by simp at this ⊢;omega,A2w hL h2⟩
theorem O8 {l:List (List UInt8)} {n:Nat} (h:∀ x∈l,x.length<=n) (k:Nat):(l.getD k []).length<=n:=by
 rw [A0Q];cases hk:l[k]? with
 | none=>simp
 | some x=>exact h x (A0S hk)
theorem C7a {L:List UInt8} (hL:L.length<=300) (w:Nat):A7l 300 (in1 L w):=by
 intro i hi;unfold in1;dsimp only;have h2:=F3 hL (n:=7) hi;split
 ·have:=W4 (L:=L) (w:=w) (i:=(nxK L 7 i).2) (p:=[118]) (n:=3) (by decide) (by decide);exact ⟨by simp at this ⊢;omega,A2w hL h2⟩
 ·split
  ·exact ⟨by simp,h2⟩
  ·split
   ·exact ⟨by simp,h2⟩
   ·split
    ·have:=W4 (L:=L) (w:=w) (i:=(nxK L 7 i).2) (p:=[116,109]) (n:=2) (by decide) (by decide);exact ⟨by simp at this ⊢;omega,A2w hL h2⟩
    ·split
     ·exact ⟨A1J (O8 (n:=300) (by decide) _) (by decide),F3 hL h2⟩
     ·have hlt:=V1 L (nxK L 7 i).2 (n:=12) (by decide);have h:=O9 (n:=((nxK L 12 (nxK L 7 i).2).1:Int)) (by omega) (by omega);exact ⟨A1J h (by decide),F3 hL h2⟩
theorem C4n {L:List UInt8} (hL:L.length<=300) {w n:Nat} {f g:Nat->Mk} (hf:A7l n f) (hg:A7l n g):A7l n (wlK L w f g):=by
 intro i hi;unfold wlK;dsimp only;have h2:=F3 hL (n:=4 * w) hi;split
 ·exact hf _ h2
 ·split
  ·exact hg _ h2
  ·exact hg _ hi
theorem A7l.mono {n m:Nat} {f:Nat->Mk} (h:A7l n f) (hnm:n<=m):A7l m f:=fun i hi=>⟨A1J (h i hi).1 hnm,(h i hi).2⟩
theorem A9w {L:List UInt8} (hL:L.length<=300) (w:Nat):A7l 300 (in0 L w):=C4n hL (A9x hL w) (C7a hL w)
theorem A2t {L:List UInt8} (hL:L.length<=300) (w:Nat):∀ d,A7l (lnB d) (inK L w d)/\A7l (lnB d) (blK L w d)
 | 0=>⟨fun i hi=>by rw [inK];exact A9w hL w i hi,fun i hi=>by rw [blK];exact A9x hL w i hi⟩
 | d+1=>by
  obtain ⟨h1,h2⟩:=A2t hL w d;have h300:=C2y d;have e:lnB (d+1)=2 * lnB d+300:=rfl;refine ⟨fun i hi=>?_,fun i hi=>?_⟩
  ·rw [inK];refine C4n hL (h2.mono (by omega)) (fun i hi=>?_) i hi;dsimp only;have hk:=F3 hL (n:=5) hi;split
   ·exact (A9w hL w).mono (by omega) _ hk
   ·split
    ·have:=A9w hL w _ hk;exact ⟨by simp;omega,this.2⟩
    ·have ha:=h1 _ hk;have hc:=h1 _ ha.2;refine ⟨?_,F3 hL hc.2⟩;have ho:=O8 (l:=B7e) (n:=5) (by decide) (nxK L 5 (inK L w d (inK L w d (nxK L 5 i).2).2).2).1;simp only [A0D,A0B,A0E];omega
  ·rw [blK];dsimp only;have hk:=F3 hL (n:=6) hi;split
   ·have:=A9x hL w _ hk;exact ⟨by simp;omega,this.2⟩
   ·split
    ·have ha:=h2 _ hk;have hc:=h2 _ ha.2;exact ⟨by simp only [A0D,A0B,A0E];omega,hc.2⟩
    ·split
     ·have ha:=h2 _ hk;have hc:=h2 _ ha.2;exact ⟨by simp only [A0D,A0B,A0E];omega,hc.2⟩
     ·have ha:=h1 _ hk;have ho:=F3 hL (n:=6) ha.2;have hc:=h1 _ ho;have hg:=O8 (l:=C0r) (n:=5) (by decide) (nxK L 6 (inK L w d (nxK L 6 i).2).2).1;exact ⟨by simp only [A0D,A0B,A0E];omega,hc.2⟩
def InC (L:List UInt8) (w d:Nat):Prop:=∀ (i:Nat) (hi:i<=300) (H:Hp) (cc t:Nat) (ht:H t=some (mkB L w i)) (htc:t<cc),
  AC Tryz.prog 20 [.ptr t 0,I64 d] H cc (fun v H' c'=>v=.str (inK L w d i).1/\H'=H.upd t (mkB L w (inK L w d i).2))
def BlC (L:List UInt8) (w d:Nat):Prop:=∀ (i:Nat) (hi:i<=300) (H:Hp) (cc t:Nat) (ht:H t=some (mkB L w i)) (htc:t<cc),
  AC Tryz.prog 21 [.ptr t 0,I64 d] H cc (fun v H' c'=>v=.str (blK L w d i).1/\H'=H.upd t (mkB L w (blK L w d i).2))
theorem B5p {G:Hp} {k t:Nat} {b:Blk} (h:¬ t=k):M5 (G.upd k b) [k] t=G t:=by
 simp only [M5];rw [if_neg (by simpa using h),A2 h]
theorem A5h {X:Hp} {k t:Nat} {B:Blk} (h:¬ t=k):G6 [k] X ((M5 X [k]).upd t B)=X.upd t B:=by
 funext j
 simp only [G6];by_cases e:j=k
 ·subst e;rw [if_pos (by simp),A2 (Ne.symm h)]
 ·rw [if_neg (by simpa using e)];by_cases e2:j=t
  ·subst e2;rw [A0,A0]
  ·rw [A2 e2,A2 e2];simp only [M5];rw [if_neg (by simpa using e)]
theorem c_bl1 (L:List UInt8) (hL:L.length<=300) (w:Nat) (hw:w<=100) (d:Nat) (hd:d<=10) (h1:InC L w d) (h2:BlC L w d):BlC L w (d+1):=by
 intro i hi H cc t ht htc;obtain ⟨o1,o2⟩:=A2t hL w d;have hB:lnB d<=1000000:=by
  have:∀ d,d<=10->lnB d<=1000000:=by decide
  exact this d hd
 refine AC.bodyT A6 rfl (A0A rfl) fun hfr=>?_;have qd:decide (((d+1:Nat):Int)<=0)=false:=by simp<;>omega
 have hw1:IntKind.i64.wrap (((d+1:Nat):Int)-1)=(d:Int):=by rw [w64 (by omega) (by omega)];omega
 rw [blK];dsimp only;generalize hD:((d+1:Nat):Int)=D at qd hw1 ⊢;repeat' ((with_reducible first|refine wr ?_|refine k_cu ?_ ?_|refine wb2 ?_ ?_<;>(intro hb;try simp only [hb])|fail)<;>try simp only [go_sem,seval,qd])
 refine AC.call (c_Next L hL w i hi 6 (by decide) (by decide) _ _ t ht (by omega)) ?_;rintro v' H' c2 ⟨rfl,rfl⟩ hc2;have hi2:=F3 hL (n:=6) hi;generalize nxK L 6 i=k at hi2 ⊢;obtain ⟨k,i2⟩:=k;dsimp only at hi2 ⊢;by_cases k0:k=0
 ·subst k0;rw [if_pos rfl];simp only [go_sem,seval];repeat' ((with_reducible first|refine wr ?_|refine k_cu ?_ ?_|refine wb2 ?_ ?_<;>(intro hb;try simp only [hb])|fail)<;>try simp only [go_sem,seval])
  refine AC.call (c_bl0 L hL w hw i2 hi2 0 (by omega) _ _ t A0 (by omega)) ?_;rintro v' H' c3 ⟨rfl,rfl⟩ hc3;have hl:=(A9x hL w i2 hi2).1;have hadd:=O5 (s:=[33]) (t:=(bl0 L w i2).1) (by simp;omega);rw [A1];simp only [go_sem,seval,hadd];repeat' ((with_reducible first|refine wr ?_|refine k_cu ?_ ?_|refine wb2 ?_ ?_<;>(intro hb;try simp only [hb])|fail)<;>try simp only [go_sem,seval,hadd])
  exact ⟨_,_,GL.refl _ _,rfl,rfl⟩
 have q0:((k:Int) == 0)=false:=by simpa using k0
 rw [if_neg k0];by_cases k1:k=1
 ·subst k1;rw [if_pos rfl];simp only [go_sem,seval];repeat' ((with_reducible first|refine wr ?_|refine k_cu ?_ ?_|refine wb2 ?_ ?_<;>(intro hb;try simp only [hb])|fail)<;>try simp only [go_sem,seval,hw1])
  refine AC.call (h2 i2 hi2 _ _ t A0 (by omega)) ?_;rintro v' H' c3 ⟨rfl,rfl⟩ hc3;have hl:=o2 i2 hi2;generalize blK L w d i2=a at hl ⊢;have a1:=O5 (s:=[40]) (t:=a.1) (by simp;omega);have a2:=O5 (s:=40 :: a.1) (t:=[32,38,38,32]) (by simp;omega);rw [A1];simp only [go_sem,seval,a1,a2];repeat' ((with_reducible first|refine wr ?_|refine k_cu ?_ ?_|refine wb2 ?_ ?_<;>(intro hb;try simp only [hb])|fail)<;>try simp only [go_sem,seval,hw1,a1,a2])
  refine AC.call (h2 a.2 hl.2 _ _ t A0 (by omega)) ?_;rintro v' H' c4 ⟨rfl,rfl⟩ hc4;have hl2:=o2 a.2 hl.2;generalize blK L w d a.2=c at hl2 ⊢;have a3:=O5 (s:=40 :: (a.1++[32,38,38,32])) (t:=c.1) (by simp;omega);have a4:=O5 (s:=40 :: (a.1++[32,38,38,32]++c.1)) (t:=[41]) (by simp;omega);rw [A1];simp only [go_sem,seval,a3,a4];repeat' ((with_reducible first|refine wr ?_|refine k_cu ?_ ?_|refine wb2 ?_ ?_<;>(intro hb;try simp only [hb])|fail)<;>try simp only [go_sem,seval,a3,a4])
  refine ⟨_,_,GL.refl _ _,?_,rfl⟩;simp
 have q1:((k:Int) == 1)=false:=by simp;omega
 rw [if_neg k1];by_cases k2:k=2
 ·subst k2;rw [if_pos rfl];simp only [go_sem,seval];repeat' ((with_reducible first|refine wr ?_|refine k_cu ?_ ?_|refine wb2 ?_ ?_<;>(intro hb;try simp only [hb])|fail)<;>try simp only [go_sem,seval,hw1])
  refine AC.call (h2 i2 hi2 _ _ t A0 (by omega)) ?_;rintro v' H' c3 ⟨rfl,rfl⟩ hc3;have hl:=o2 i2 hi2;generalize blK L w d i2=a at hl ⊢;have a1:=O5 (s:=[40]) (t:=a.1) (by simp;omega);have a2:=O5 (s:=40 :: a.1) (t:=[32,124,124,32]) (by simp;omega);rw [A1];simp only [go_sem,seval,a1,a2];repeat' ((with_reducible first|refine wr ?_|refine k_cu ?_ ?_|refine wb2 ?_ ?_<;>(intro hb;try simp only [hb])|fail)<;>try simp only [go_sem,seval,hw1,a1,a2])
  refine AC.call (h2 a.2 hl.2 _ _ t A0 (by omega)) ?_;rintro v' H' c4 ⟨rfl,rfl⟩ hc4;have hl2:=o2 a.2 hl.2;generalize blK L w d a.2=c at hl2 ⊢;have a3:=O5 (s:=40 :: (a.1++[32,124,124,32])) (t:=c.1) (by simp;omega);have a4:=O5 (s:=40 :: (a.1++[32,124,124,32]++c.1)) (t:=[41]) (by simp;omega);rw [A1];simp only [go_sem,seval,a3,a4];repeat' ((with_reducible first|refine wr ?_|refine k_cu ?_ ?_|refine wb2 ?_ ?_<;>(intro hb;try simp only [hb])|fail)<;>try simp only [go_sem,seval,a3,a4])
  refine ⟨_,_,GL.refl _ _,?_,rfl⟩;simp
 have q2:((k:Int) == 2)=false:=by simp;omega
 rw [if_neg k2];simp only [go_sem,seval,q0,q1,q2];repeat' ((with_reducible first|refine wr ?_|refine k_cu ?_ ?_|refine wb2 ?_ ?_<;>(intro hb;try simp only [hb])|fail)<;>try simp only [go_sem,seval,q0,q1,q2,hw1])
 refine AC.call (h1 i2 hi2 _ _ t A0 (by omega)) ?_;rintro v' H' c3 ⟨rfl,rfl⟩ hc3;have hl:=o1 i2 hi2;generalize inK L w d i2=a at hl ⊢;have a1:=O5 (s:=a.1) (t:=[32]) (by simp;omega);rw [A1];simp only [go_sem,seval,a1,hw1];repeat' ((with_reducible first|refine wr ?_|refine k_cu ?_ ?_|refine wb2 ?_ ?_<;>(intro hb;try simp only [hb])|fail)<;>try simp only [go_sem,seval,hw1,a1])
 refine AC.call (c_Next L hL w a.2 hl.2 6 (by decide) (by decide) _ _ t (by rw [B5p (by omega)];exact A0) (by omega)) ?_;rintro v' H' c4 ⟨rfl,rfl⟩ hc4;have hlt:=V1 L a.2 (n:=6) (by decide);have ho2:=F3 hL (n:=6) hl.2;generalize nxK L 6 a.2=kq at hlt ho2 ⊢;obtain ⟨k3,i3⟩:=kq;dsimp only at hlt ho2 ⊢;have hmg:∀ (X:Hp) (B:Blk),G6 [c3+2] X ((M5 X [c3+2]).upd t B)=X.upd t B:=fun X B=>A5h (by omega);have hia:Q6 1 (.slc (c3+2) 0 6) (I64 (k3:Int))=some (.ptr (c3+2) k3):=by simp [Q6];omega
 have hld:([.str [60],.str [60,61],.str [62],.str [62,61],.str [61,61],.str [33,61]]:List DV)[k3]? = some (.str (C0r.getD k3 [])):=by
  match k3,hlt with
  | 0,_=>rfl
  | 1,_=>rfl
  | 2,_=>rfl
  | 3,_=>rfl
  | 4,_=>rfl
  | 5,_=>rfl
 have hg:=O8 (l:=C0r) (n:=5) (by decide) k3;generalize C0r.getD k3 []=og at hg hld ⊢;generalize hWL:([.str [60],.str [60,61],.str [62],.str [62,61],.str [61,61],.str [33,61]]:List DV)=WL at hld ⊢;have ne0:=Q3 t (c3+2) (by omega);have a2:=O5 (s:=a.1++[32]) (t:=og) (by simp;omega);have a3:=O5 (s:=a.1++[32]++og) (t:=[32]) (by simp;omega);simp only [go_sem,seval,hmg,A0,A1,ne0,hia,hld,a1,a2,a3,hw1];refine ⟨by and_intros<;>first|rfl|(rw [<- hWL];done)|((repeat rw [A2 (by omega)]);exact hfr _ (by omega)),?_⟩;refine AC.call (h1 i3 ho2 _ _ t (by simp only [M5];rw [if_neg (by simp;omega)];exact A0) (by omega)) ?_;rintro v' H' c5 ⟨rfl,rfl⟩ hc5;have hl3:=o1 i3 ho2;generalize inK L w d i3=c at hl3 ⊢;have a4:=O5 (s:=a.1++[32]++og++[32]) (t:=c.1) (by simp;omega);simp only [go_sem,seval,hmg,A0,A1,ne0,hia,hld,a1,a2,a3,a4,hw1];refine ⟨by and_intros<;>first|rfl|(rw [<- hWL];done)|((repeat rw [A2 (by omega)]);exact hfr _ (by omega)),?_⟩;repeat' ((with_reducible first|refine wr ?_|refine k_cu ?_ ?_|refine wb2 ?_ ?_<;>(intro hb;try simp only [hb])|fail)<;>try simp only [go_sem,seval])
 exact ⟨_,_,A1j hfr htc (by omega),by simp,rfl⟩
def in2 (L:List UInt8) (w d i:Nat):Mk :=
 let k:=nxK L 5 i
 if k.1=0 then in0 L w k.2
 else if k.1=1 then let a:=in0 L w k.2;([45]++a.1,a.2)
 else
  let a:=inK L w d k.2
  let c:=inK L w d a.2
  let o:=nxK L 5 c.2
  (((((([40]++a.1)++[32])++B7e.getD o.1 [])++[32])++c.1)++[41],o.2)
theorem c_in2 (L:List UInt8) (hL:L.length<=300) (w:Nat) (hw:w<=100) (d:Nat) (hd:d<=10) (h1:InC L w d) (h2:BlC L w d):InC L w (d+1):=by
 intro i hi H cc t ht htc;obtain ⟨o1,o2⟩:=A2t hL w d;have hB:lnB d<=1000000:=by
  have:∀ d,d<=10->lnB d<=1000000:=by decide
  exact this d hd
 refine AC.bodyT A6 rfl (A0A rfl) fun hfr=>?_;have qd:decide (((d+1:Nat):Int)<=0)=false:=by simp<;>omega
 have hw1:IntKind.i64.wrap (((d+1:Nat):Int)-1)=(d:Int):=by rw [w64 (by omega) (by omega)];omega
 rw [show inK L w (d+1) i=wlK L w (blK L w d) (in2 L w d) i from by rw [inK];rfl];generalize hD:((d+1:Nat):Int)=D at qd hw1 ⊢;have kI:∀ (j c0:Nat),j<=300->cc<=c0->IW Tryz.prog 86 (pz Tryz.prog 20 (.i (.i (.o .h)))) ⟨tm [(0,.ptr t 0),(1,I64 D)],H.upd t (mkB L w j),c0⟩ (rt [.tmp 4] fun v H' c' => ∃ v2 H2,GL H' [v] H2 [v2]/\v2=.str (in2 L w d j).1/\H2=H.upd t (mkB L w (in2 L w d j).2)):=by
  intro j c0 hj hc0;unfold in2;repeat' ((with_reducible first|refine wr ?_|refine k_cu ?_ ?_|refine wb2 ?_ ?_<;>(intro hb;try simp only [hb])|fail)<;>try simp only [go_sem,seval,qd])
  refine AC.call (c_Next L hL w j hj 5 (by decide) (by decide) _ _ t A0 (by omega)) ?_;rintro v' H' c2 ⟨rfl,rfl⟩ hc2;rw [A1];have hi2:=F3 hL (n:=5) hj;generalize nxK L 5 j=k at hi2 ⊢;obtain ⟨k,i2⟩:=k;dsimp only at hi2 ⊢;by_cases k0:k=0
  ·subst k0;rw [if_pos rfl];simp only [go_sem,seval];repeat' ((with_reducible first|refine wr ?_|refine k_cu ?_ ?_|refine wb2 ?_ ?_<;>(intro hb;try simp only [hb])|fail)<;>try simp only [go_sem,seval])
   refine AC.call (c_in0 L hL w hw i2 hi2 0 (by omega) (by omega) _ _ t A0 (by omega)) ?_;rintro v' H' c3 ⟨rfl,rfl⟩ hc3;rw [A1];simp only [go_sem,seval];repeat' ((with_reducible first|refine wr ?_|refine k_cu ?_ ?_|refine wb2 ?_ ?_<;>(intro hb;try simp only [hb])|fail)<;>try simp only [go_sem,seval])
   exact ⟨_,_,GL.refl _ _,rfl,rfl⟩
  have q0:((k:Int) == 0)=false:=by simpa using k0
  rw [if_neg k0];by_cases k1:k=1
  ·subst k1;rw [if_pos rfl];simp only [go_sem,seval];repeat' ((with_reducible first|refine wr ?_|refine k_cu ?_ ?_|refine wb2 ?_ ?_<;>(intro hb;try simp only [hb])|fail)<;>try simp only [go_sem,seval])
   refine AC.call (c_in0 L hL w hw i2 hi2 0 (by omega) (by omega) _ _ t A0 (by omega)) ?_;rintro v' H' c3 ⟨rfl,rfl⟩ hc3;rw [A1];have hl:=(A9w hL w i2 hi2).1;have hadd:=O5 (s:=[45]) (t:=(in0 L w i2).1) (by simp;omega);simp only [go_sem,seval,hadd];repeat' ((with_reducible first|refine wr ?_|refine k_cu ?_ ?_|refine wb2 ?_ ?_<;>(intro hb;try simp only [hb])|fail)<;>try simp only [go_sem,seval,hadd])
   exact ⟨_,_,GL.refl _ _,rfl,rfl⟩
  have q1:((k:Int) == 1)=false:=by simp;omega
  rw [if_neg k1];simp only [go_sem,seval,q0,q1];repeat' ((with_reducible first|refine wr ?_|refine k_cu ?_ ?_|refine wb2 ?_ ?_<;>(intro hb;try simp only [hb])|fail)<;>try simp only [go_sem,seval,q0,q1,hw1])
  refine AC.call (h1 i2 hi2 _ _ t A0 (by omega)) ?_;rintro v' H' c3 ⟨rfl,rfl⟩ hc3;have hl:=o1 i2 hi2;generalize inK L w d i2=a at hl ⊢;rw [A1];simp only [go_sem,seval,hw1];repeat' ((with_reducible first|refine wr ?_|refine k_cu ?_ ?_|refine wb2 ?_ ?_<;>(intro hb;try simp only [hb])|fail)<;>try simp only [go_sem,seval,hw1])
  refine AC.call (h1 a.2 hl.2 _ _ t A0 (by omega)) ?_;rintro v' H' c4 ⟨rfl,rfl⟩ hc4;have hl2:=o1 a.2 hl.2;generalize inK L w d a.2=c at hl2 ⊢;rw [A1];have a1:=O5 (s:=[40]) (t:=a.1) (by simp;omega);have a2:=O5 (s:=40 :: a.1) (t:=[32]) (by simp;omega);simp only [go_sem,seval,a1,a2];repeat' ((with_reducible first|refine wr ?_|refine k_cu ?_ ?_|refine wb2 ?_ ?_<;>(intro hb;try simp only [hb])|fail)<;>try simp only [go_sem,seval,a1,a2])
  refine AC.call (c_Next L hL w c.2 hl2.2 5 (by decide) (by decide) _ _ t (by rw [A2 (by omega)];exact A0) (by omega)) ?_;rintro v' H' c5 ⟨rfl,rfl⟩ hc5;have hlt:=V1 L c.2 (n:=5) (by decide);generalize nxK L 5 c.2=kq at hlt ⊢;obtain ⟨k3,i3⟩:=kq;dsimp only at hlt ⊢;have hia:Q6 1 (.slc c4 0 5) (I64 (k3:Int))=some (.ptr c4 k3):=by simp [Q6];omega
  have hld:([.str [43],.str [45],.str [42],.str [47],.str [37]]:List DV)[k3]? = some (.str (B7e.getD k3 [])):=by
   match k3,hlt with
   | 0,_=>rfl
   | 1,_=>rfl
   | 2,_=>rfl
   | 3,_=>rfl
   | 4,_=>rfl
  have hg:=O8 (l:=B7e) (n:=5) (by decide) k3;generalize B7e.getD k3 []=og at hg hld ⊢;generalize hWL:([.str [43],.str [45],.str [42],.str [47],.str [37]]:List DV)=WL at hld ⊢;have ne0:=Q3 t c4 (by omega);have a3:=O5 (s:=40 :: (a.1++[32])) (t:=og) (by simp;omega);have a4:=O5 (s:=40 :: (a.1++[32]++og)) (t:=[32]) (by simp;omega);have a5:=O5 (s:=40 :: (a.1++[32]++og++[32])) (t:=c.1) (by simp;omega);have a6:=O5 (s:=40 :: (a.1++[32]++og++[32]++c.1)) (t:=[41]) (by simp;omega);simp only [go_sem,seval,A0,A1,ne0,hia,hld,a3,a4,a5,a6];repeat' ((with_reducible first|refine wr ?_|refine k_cu ?_ ?_|refine wb2 ?_ ?_<;>(intro hb;try simp only [hb])|fail)<;>try simp only [go_sem,seval,A0,A1,ne0,hia,hld,a3,a4,a5,a6])
  exact ⟨_,_,A1j hfr htc (by omega),by simp,rfl⟩
 unfold wlK;by_cases h0:0<w
 ·have q0:decide ((w:Int)>0)=true:=by simpa using h0
  have hw4:IntKind.i64.wrap (4 * (w:Int))=((4 * w:Nat):Int):=by rw [w64 (by omega) (by omega)];omega
  repeat' ((with_reducible first|refine wr ?_|refine k_cu ?_ ?_|refine wb2 ?_ ?_<;>(intro hb;try simp only [hb])|fail)<;>try simp only [go_sem,seval,ht,q0,hw4])
  refine AC.call (c_Next L hL w i hi (4 * w) (by omega) (by omega) _ _ t ht (by omega)) ?_;rintro v' H' c2 ⟨rfl,rfl⟩ hc2;have hi2:=F3 hL (n:=4 * w) hi;generalize nxK L (4 * w) i=k at hi2 ⊢;obtain ⟨k,i2⟩:=k;dsimp only at hi2 ⊢;by_cases k1:k=1
  ·subst k1;rw [if_pos ⟨h0,rfl⟩];simp only [go_sem,seval];repeat' ((with_reducible first|refine wr ?_|refine k_cu ?_ ?_|refine wb2 ?_ ?_<;>(intro hb;try simp only [hb])|fail)<;>try simp only [go_sem,seval,hw1])
   refine AC.call (h2 i2 hi2 _ _ t A0 (by omega)) ?_;rintro v' H' c3 ⟨rfl,rfl⟩ hc3;rw [A1];simp only [go_sem,seval];repeat' ((with_reducible first|refine wr ?_|refine k_cu ?_ ?_|refine wb2 ?_ ?_<;>(intro hb;try simp only [hb])|fail)<;>try simp only [go_sem,seval])
   exact ⟨_,_,GL.refl _ _,rfl,rfl⟩
  have q1:((k:Int) == 1)=false:=by simp;omega
  rw [if_neg (fun h=>k1 h.2),if_pos h0];simp only [go_sem,seval,q1];repeat' ((with_reducible first|refine E1 (p:=IW _ _ (pz Tryz.prog 20 (.i (.i (.o .h)))) _ _) ?_|refine wr ?_|refine k_cu ?_ ?_|refine wb2 ?_ ?_<;>(intro hb;try simp only [hb])|fail)<;>try simp only [go_sem,seval,q1])
  exact IW.stage (by simp [C7,tm,Tm.upd]) (kI i2 _ hi2 hc2)
 ·have q0:decide ((w:Int)>0)=false:=by simpa using h0
  rw [if_neg (fun h=>h0 h.1),if_neg h0];repeat' ((with_reducible first|refine E1 (p:=IW _ _ (pz Tryz.prog 20 (.i (.i (.o .h)))) _ _) ?_|refine wr ?_|refine k_cu ?_ ?_|refine wb2 ?_ ?_<;>(intro hb;try simp only [hb])|fail)<;>try simp only [go_sem,seval,ht,q0])
  have:=kI i cc hi (A0F _);rw [upd_same ht] at this;exact IW.stage (by simp [C7,tm,Tm.upd]) this
theorem c_exK (L:List UInt8) (hL:L.length<=300) (w:Nat) (hw:w<=100):∀ d,d<=10->InC L w d/\BlC L w d
 | 0,_=>⟨fun i hi H cc t ht htc=>by rw [inK];exact c_in0 L hL w hw i hi 0 (by omega) (by omega) H cc t ht htc,fun i hi H cc t ht htc=>by rw [blK];exact c_bl0 L hL w hw i hi 0 (by omega) H cc t ht htc⟩
 | d+1,h=>by
  obtain ⟨h1,h2⟩:=c_exK L hL w hw d (by omega);exact ⟨c_in2 L hL w hw d (by omega) h1 h2,c_bl1 L hL w hw d (by omega) h1 h2⟩
def MC (f:Nat) (xs:List DV) (L:List UInt8) (w n:Nat) (Q:List UInt8->Prop):Prop:=∀ (i:Nat) (hi:i<=300) (H:Hp) (cc t:Nat) (ht:H t=some (mkB L w i)) (htc:t<cc),
  AC Tryz.prog f (.ptr t 0 :: xs) H cc (fun v H' c' => ∃ s j,Q s/\s.length<=n/\j<=300/\v=.str s/\H'=H.upd t (mkB L w j))
def NmS (L:List UInt8) (w:Nat) (p:List UInt8) (n:Nat) (s:List UInt8):Prop:=∃ i,i<=300/\s=(nmK L w p n i).1
def InS (L:List UInt8) (w d:Nat) (s:List UInt8):Prop:=∃ i,i<=300/\s=(inK L w d i).1
def BlS (L:List UInt8) (w d:Nat) (s:List UInt8):Prop:=∃ i,i<=300/\s=(blK L w d i).1
theorem N0 (L:List UInt8) (hL:L.length<=300) (w:Nat) (hw:w<=100) (p:List UInt8) (hp:p.length<=100) (n:Nat) (hn:0<n) (hn2:n<=1000):MC 46 [.str p,I64 n] L w 200 (NmS L w p n):=by
 intro i hi H cc t ht htc;refine (c_name32 L hL w i hw hi p hp n hn hn2 H cc t ht htc).mono ?_;rintro v H' c' ⟨rfl,rfl⟩;have:=W4 (L:=L) (w:=w) (i:=i) (p:=p) (n:=n) hn hn2;exact ⟨_,_,⟨i,hi,rfl⟩,by omega,A2w hL hi,rfl,rfl⟩
theorem B9n {d:Nat} (h:d<=2):lnB d<=2100:=by
 have:∀ d,d<=2->lnB d<=2100:=by decide
 exact this d h
theorem W5 (L:List UInt8) (hL:L.length<=300) (w:Nat) (hw:w<=100) (d:Nat) (hd:d<=2):MC 20 [I64 d] L w 2100 (InS L w d):=by
 intro i hi H cc t ht htc;refine ((c_exK L hL w hw d (by omega)).1 i hi H cc t ht htc).mono ?_;rintro v H' c' ⟨rfl,rfl⟩;have h1:=(A2t hL w d).1 i hi;have h2:=B9n hd;exact ⟨_,_,⟨i,hi,rfl⟩,by omega,h1.2,rfl,rfl⟩
theorem B0a (L:List UInt8) (hL:L.length<=300) (w:Nat) (hw:w<=100) (d:Nat) (hd:d<=2):MC 21 [I64 d] L w 2100 (BlS L w d):=by
 intro i hi H cc t ht htc;refine ((c_exK L hL w hw d (by omega)).2 i hi H cc t ht htc).mono ?_;rintro v H' c' ⟨rfl,rfl⟩;have h1:=(A2t hL w d).2 i hi;have h2:=B9n hd;exact ⟨_,_,⟨i,hi,rfl⟩,by omega,h1.2,rfl,rfl⟩
theorem T7 (L:List UInt8) (hL:L.length<=300) (w:Nat) (n:Nat) (hn:0<n) (hn2:n<=1000) (i:Nat) (hi:i<=300) (H:Hp) (cc t:Nat) (ht:H t=some (mkB L w i)) (htc:t<cc) :
  AC Tryz.prog 41 [.ptr t 0,I64 n] H cc (fun v H' c' => ∃ k j,k<n/\j<=300/\v=I64 (k:Nat)/\H'=H.upd t (mkB L w j)):=by
 refine (c_Next L hL w i hi n hn hn2 H cc t ht htc).mono ?_;rintro v H' c' ⟨rfl,rfl⟩;exact ⟨_,_,V1 L i hn,F3 hL hi,rfl,rfl⟩
theorem D1 (a b:List UInt8) (h:a.length+b.length<=100000000):∃ x,x=a++b/\x.length=a.length+b.length/\binR .add (.str a) (.str b)=some (.str x) :=
 ⟨_,rfl,by simp,O5 (by omega)⟩
def C3o:List (List UInt8):=[[102,105,114,101,32],[104,111,108,100,32],[114,101,108,101,97,115,101,32]]
def C1v:List (List UInt8):=[[114,117,110,32],[104,97,108,116,32]]
def C1h:List (List UInt8):=[[103,111],[106,97,99,107,112,111,116],[97,92,34,98],[]]
def B6d:List (List UInt8 × List UInt8 × Nat):=[([115,116,111,112,32],[116,109],2),([98,101,103,105,110,32],[109,111,100,101],3),([101,110,100,32],[109,111,100,101],3),([112,111,115,116,32],[101,118],2),([112,108,97,121,32],[115,110,100],2)]
inductive StG (L:List UInt8) (w:Nat) (K:List UInt8->Prop):List UInt8->Prop where
 | ifA {b x:List UInt8}:BlS L w 1 b->K x->StG L w K ((([105,102,32]++b)++[32])++x)
 | ifB {b x y:List UInt8}:BlS L w 1 b->K x->K y->StG L w K ((((([105,102,32]++b)++[32])++x)++[32,101,108,115,101,32])++y)
 | ifC {b x c y:List UInt8}:BlS L w 1 b->K x->BlS L w 0 c->K y->StG L w K ((((((([105,102,32]++b)++[32])++x)++[32,101,108,115,101,32,105,102,32])++c)++[32])++y)
 | rep {e x:List UInt8}:InS L w 0 e->K x->StG L w K ((([114,101,112,101,97,116,32]++e)++[32])++x)
 | sco {e:List UInt8}:InS L w 1 e->StG L w K (([115,99,111,114,101,32]++e)++[59])
 | fir {k:Nat} {n:List UInt8}:k<3->NmS L w [99,111,105,108] 3 n->StG L w K ((C3o.getD k []++n)++[59])
 | lig {n e:List UInt8}:NmS L w [108,97,109,112] 4 n->InS L w 0 e->StG L w K (((([108,105,103,104,116,32]++n)++[32])++e)++[59])
 | bli {n e f:List UInt8}:NmS L w [108,97,109,112] 4 n->InS L w 0 e->InS L w 0 f->StG L w K (((((([98,108,105,110,107,32]++n)++[32])++e)++[44,32])++f)++[59])
 | sta {n e:List UInt8}:NmS L w [116,109] 2 n->InS L w 1 e->StG L w K (((([115,116,97,114,116,32]++n)++[32])++e)++[59])
 | one {q:List UInt8 × List UInt8 × Nat} {n:List UInt8}:q∈B6d->NmS L w q.2.1 q.2.2 n->StG L w K ((q.1++n)++[59])
 | run {k:Nat} {n:List UInt8}:k<2->NmS L w [115,104,111,119] 2 n->StG L w K ((C1v.getD k []++n)++[59])
 | txt {k:Nat} {e:List UInt8}:k<4->InS L w 0 e->StG L w K (((([116,101,120,116,32,34]++C1h.getD k [])++[34,44,32])++e)++[59])
 | con:StG L w K [99,111,110,115,117,109,101,59]
 | asg {n e:List UInt8}:NmS L w [118] 3 n->InS L w 2 e->StG L w K (((n++[32,61,32])++e)++[59])
theorem c_Stmt (L:List UInt8) (hL:L.length<=300) (w:Nat) (hw:w<=100) (D:Int) (hD2:D<=10) (hD3 : -10<=D) (kb:Nat) (hkb:kb<=10000000) (K:List UInt8->Prop) (hK:D<=0\/MC 81 [I64 (D-1)] L w kb K) :
  MC 131 [I64 D] L w (2 * kb+8000) (StG L w K):=by
 intro i hi H cc t ht htc;refine AC.bodyT A6 rfl (A0A rfl) fun hfr=>?_;have hw1:IntKind.i64.wrap (D-1)=D-1:=w64 (by omega) (by omega);obtain ⟨qd,hqd⟩:∃ b:Bool,decide (D<=0)=b:=⟨_,rfl⟩;have hqt:qd=true->D<=0:=fun e=>by rw [e] at hqd;simpa using hqd
 have hqf:qd=false->¬ D<=0:=fun e=>by rw [e] at hqd;simpa using hqd
 repeat' ((with_reducible first|refine wr ?_|refine k_cu ?_ ?_|refine wb2 ?_ ?_<;>(intro hb;try simp only [hb])|fail)<;>try simp only [go_sem,seval,hqd])
 refine AC.call (T7 L hL w 20 (by decide) (by decide) i hi _ _ t ht (by omega)) ?_;rintro v' H' c2 ⟨k,j,hlt,hj,rfl,rfl⟩ hc2;by_cases k4:k=4
 ·subst k4;cases qd;all_goals
   simp only [go_sem,seval,hqd];repeat' ((with_reducible first|refine wr ?_|refine k_cu ?_ ?_|refine wb2 ?_ ?_<;>(intro hb;try simp only [hb])|fail)<;>try simp only [go_sem,seval,hqd,hw1])
   refine AC.call (W5 L hL w hw 1 (by decide) j hj _ _ t A0 (by omega)) ?_;rintro v' H' c3 ⟨r1,j1,g1,l1,b1,rfl,rfl⟩ hc3;rw [A1];obtain ⟨x1,e1,m1,a1⟩:=D1 [115,99,111,114,101,32] r1 (by (try simp)<;>omega);try simp only [A0B,A0E] at m1
   obtain ⟨x2,e2,m2,a2⟩:=D1 x1 [59] (by (try simp)<;>omega);try simp only [A0B,A0E] at m2
   simp only [go_sem,seval,a1,a2,hw1];repeat' ((with_reducible first|refine wr ?_|refine k_cu ?_ ?_|refine wb2 ?_ ?_<;>(intro hb;try simp only [hb])|fail)<;>try simp only [go_sem,seval,a1,a2,hw1])
   exact ⟨_,_,GL.refl _ _,x2,j1,by rw [e2,e1];exact .sco g1,by omega,b1,rfl,rfl⟩
 by_cases k5:k=5
 ·subst k5;cases qd;all_goals
   simp only [go_sem,seval,hqd];repeat' ((with_reducible first|refine wr ?_|refine k_cu ?_ ?_|refine wb2 ?_ ?_<;>(intro hb;try simp only [hb])|fail)<;>try simp only [go_sem,seval,hqd,hw1])
   refine AC.call (W5 L hL w hw 1 (by decide) j hj _ _ t A0 (by omega)) ?_;rintro v' H' c3 ⟨r1,j1,g1,l1,b1,rfl,rfl⟩ hc3;rw [A1];obtain ⟨x1,e1,m1,a1⟩:=D1 [115,99,111,114,101,32] r1 (by (try simp)<;>omega);try simp only [A0B,A0E] at m1
   obtain ⟨x2,e2,m2,a2⟩:=D1 x1 [59] (by (try simp)<;>omega);try simp only [A0B,A0E] at m2
   simp only [go_sem,seval,a1,a2,hw1];repeat' ((with_reducible first|refine wr ?_|refine k_cu ?_ ?_|refine wb2 ?_ ?_<;>(intro hb;try simp only [hb])|fail)<;>try simp only [go_sem,seval,a1,a2,hw1])
   exact ⟨_,_,GL.refl _ _,x2,j1,by rw [e2,e1];exact .sco g1,by omega,b1,rfl,rfl⟩
 by_cases k7:k=7
 ·subst k7;cases qd;all_goals
   simp only [go_sem,seval,hqd];repeat' ((with_reducible first|refine wr ?_|refine k_cu ?_ ?_|refine wb2 ?_ ?_<;>(intro hb;try simp only [hb])|fail)<;>try simp only [go_sem,seval,hqd,hw1])
   refine AC.call (N0 L hL w hw [108,97,109,112] (by decide) 4 (by decide) (by decide) j hj _ _ t A0 (by omega)) ?_;rintro v' H' c3 ⟨r1,j1,g1,l1,b1,rfl,rfl⟩ hc3;rw [A1];obtain ⟨x1,e1,m1,a1⟩:=D1 [108,105,103,104,116,32] r1 (by (try simp)<;>omega);try simp only [A0B,A0E] at m1
   obtain ⟨x2,e2,m2,a2⟩:=D1 x1 [32] (by (try simp)<;>omega);try simp only [A0B,A0E] at m2
   simp only [go_sem,seval,a1,a2,hw1];repeat' ((with_reducible first|refine wr ?_|refine k_cu ?_ ?_|refine wb2 ?_ ?_<;>(intro hb;try simp only [hb])|fail)<;>try simp only [go_sem,seval,a1,a2,hw1])
   refine AC.call (W5 L hL w hw 0 (by decide) j1 b1 _ _ t A0 (by omega)) ?_;rintro v' H' c4 ⟨r2,j2,g2,l2,b2,rfl,rfl⟩ hc4;rw [A1];obtain ⟨x3,e3,m3,a3⟩:=D1 x2 r2 (by (try simp)<;>omega);try simp only [A0B,A0E] at m3
   obtain ⟨x4,e4,m4,a4⟩:=D1 x3 [59] (by (try simp)<;>omega);try simp only [A0B,A0E] at m4
   simp only [go_sem,seval,a3,a4,hw1];repeat' ((with_reducible first|refine wr ?_|refine k_cu ?_ ?_|refine wb2 ?_ ?_<;>(intro hb;try simp only [hb])|fail)<;>try simp only [go_sem,seval,a3,a4,hw1])
   exact ⟨_,_,GL.refl _ _,x4,j2,by rw [e4,e3,e2,e1];exact .lig g1 g2,by omega,b2,rfl,rfl⟩
 by_cases k8:k=8
 ·subst k8;cases qd;all_goals
   simp only [go_sem,seval,hqd];repeat' ((with_reducible first|refine wr ?_|refine k_cu ?_ ?_|refine wb2 ?_ ?_<;>(intro hb;try simp only [hb])|fail)<;>try simp only [go_sem,seval,hqd,hw1])
   refine AC.call (N0 L hL w hw [108,97,109,112] (by decide) 4 (by decide) (by decide) j hj _ _ t A0 (by omega)) ?_;rintro v' H' c3 ⟨r1,j1,g1,l1,b1,rfl,rfl⟩ hc3;rw [A1];obtain ⟨x1,e1,m1,a1⟩:=D1 [98,108,105,110,107,32] r1 (by (try simp)<;>omega);try simp only [A0B,A0E] at m1
   obtain ⟨x2,e2,m2,a2⟩:=D1 x1 [32] (by (try simp)<;>omega);try simp only [A0B,A0E] at m2
   simp only [go_sem,seval,a1,a2,hw1];repeat' ((with_reducible first|refine wr ?_|refine k_cu ?_ ?_|refine wb2 ?_ ?_<;>(intro hb;try simp only [hb])|fail)<;>try simp only [go_sem,seval,a1,a2,hw1])
   refine AC.call (W5 L hL w hw 0 (by decide) j1 b1 _ _ t A0 (by omega)) ?_;rintro v' H' c4 ⟨r2,j2,g2,l2,b2,rfl,rfl⟩ hc4;rw [A1];obtain ⟨x3,e3,m3,a3⟩:=D1 x2 r2 (by (try simp)<;>omega);try simp only [A0B,A0E] at m3
   obtain ⟨x4,e4,m4,a4⟩:=D1 x3 [44,32] (by (try simp)<;>omega);try simp only [A0B,A0E] at m4
   simp only [go_sem,seval,a3,a4,hw1];repeat' ((with_reducible first|refine wr ?_|refine k_cu ?_ ?_|refine wb2 ?_ ?_<;>(intro hb;try simp only [hb])|fail)<;>try simp only [go_sem,seval,a3,a4,hw1])
   refine AC.call (W5 L hL w hw 0 (by decide) j2 b2 _ _ t A0 (by omega)) ?_;rintro v' H' c5 ⟨r3,j3,g3,l3,b3,rfl,rfl⟩ hc5;rw [A1];obtain ⟨x5,e5,m5,a5⟩:=D1 x4 r3 (by (try simp)<;>omega);try simp only [A0B,A0E] at m5
   obtain ⟨x6,e6,m6,a6⟩:=D1 x5 [59] (by (try simp)<;>omega);try simp only [A0B,A0E] at m6
   simp only [go_sem,seval,a5,a6,hw1];repeat' ((with_reducible first|refine wr ?_|refine k_cu ?_ ?_|refine wb2 ?_ ?_<;>(intro hb;try simp only [hb])|fail)<;>try simp only [go_sem,seval,a5,a6,hw1])
   exact ⟨_,_,GL.refl _ _,x6,j3,by rw [e6,e5,e4,e3,e2,e1];exact .bli g1 g2 g3,by omega,b3,rfl,rfl⟩
 by_cases k9:k=9
 ·subst k9;cases qd;all_goals
   simp only [go_sem,seval,hqd];repeat' ((with_reducible first|refine wr ?_|refine k_cu ?_ ?_|refine wb2 ?_ ?_<;>(intro hb;try simp only [hb])|fail)<;>try simp only [go_sem,seval,hqd,hw1])
   refine AC.call (N0 L hL w hw [116,109] (by decide) 2 (by decide) (by decide) j hj _ _ t A0 (by omega)) ?_;rintro v' H' c3 ⟨r1,j1,g1,l1,b1,rfl,rfl⟩ hc3;rw [A1];obtain ⟨x1,e1,m1,a1⟩:=D1 [115,116,97,114,116,32] r1 (by (try simp)<;>omega);try simp only [A0B,A0E] at m1
   obtain ⟨x2,e2,m2,a2⟩:=D1 x1 [32] (by (try simp)<;>omega);try simp only [A0B,A0E] at m2
   simp only [go_sem,seval,a1,a2,hw1];repeat' ((with_reducible first|refine wr ?_|refine k_cu ?_ ?_|refine wb2 ?_ ?_<;>(intro hb;try simp only [hb])|fail)<;>try simp only [go_sem,seval,a1,a2,hw1])
   refine AC.call (W5 L hL w hw 1 (by decide) j1 b1 _ _ t A0 (by omega)) ?_;rintro v' H' c4 ⟨r2,j2,g2,l2,b2,rfl,rfl⟩ hc4;rw [A1];obtain ⟨x3,e3,m3,a3⟩:=D1 x2 r2 (by (try simp)<;>omega);try simp only [A0B,A0E] at m3
   obtain ⟨x4,e4,m4,a4⟩:=D1 x3 [59] (by (try simp)<;>omega);try simp only [A0B,A0E] at m4
   simp only [go_sem,seval,a3,a4,hw1];repeat' ((with_reducible first|refine wr ?_|refine k_cu ?_ ?_|refine wb2 ?_ ?_<;>(intro hb;try simp only [hb])|fail)<;>try simp only [go_sem,seval,a3,a4,hw1])
   exact ⟨_,_,GL.refl _ _,x4,j2,by rw [e4,e3,e2,e1];exact .sta g1 g2,by omega,b2,rfl,rfl⟩
 by_cases k10:k=10
 ·subst k10;cases qd;all_goals
   simp only [go_sem,seval,hqd];repeat' ((with_reducible first|refine wr ?_|refine k_cu ?_ ?_|refine wb2 ?_ ?_<;>(intro hb;try simp only [hb])|fail)<;>try simp only [go_sem,seval,hqd,hw1])
   refine AC.call (N0 L hL w hw [116,109] (by decide) 2 (by decide) (by decide) j hj _ _ t A0 (by omega)) ?_;rintro v' H' c3 ⟨r1,j1,g1,l1,b1,rfl,rfl⟩ hc3;rw [A1];obtain ⟨x1,e1,m1,a1⟩:=D1 [115,116,111,112,32] r1 (by (try simp)<;>omega);try simp only [A0B,A0E] at m1
   obtain ⟨x2,e2,m2,a2⟩:=D1 x1 [59] (by (try simp)<;>omega);try simp only [A0B,A0E] at m2
   simp only [go_sem,seval,a1,a2,hw1];repeat' ((with_reducible first|refine wr ?_|refine k_cu ?_ ?_|refine wb2 ?_ ?_<;>(intro hb;try simp only [hb])|fail)<;>try simp only [go_sem,seval,a1,a2,hw1])
   exact ⟨_,_,GL.refl _ _,x2,j1,by rw [e2,e1];exact .one (q:=([115,116,111,112,32],[116,109],2)) (by simp [B6d]) g1,by omega,b1,rfl,rfl⟩
 by_cases k11:k=11
 ·subst k11;cases qd;all_goals
   simp only [go_sem,seval,hqd];repeat' ((with_reducible first|refine wr ?_|refine k_cu ?_ ?_|refine wb2 ?_ ?_<;>(intro hb;try simp only [hb])|fail)<;>try simp only [go_sem,seval,hqd,hw1])
   refine AC.call (N0 L hL w hw [109,111,100,101] (by decide) 3 (by decide) (by decide) j hj _ _ t A0 (by omega)) ?_;rintro v' H' c3 ⟨r1,j1,g1,l1,b1,rfl,rfl⟩ hc3;rw [A1];obtain ⟨x1,e1,m1,a1⟩:=D1 [98,101,103,105,110,32] r1 (by (try simp)<;>omega);try simp only [A0B,A0E] at m1
   obtain ⟨x2,e2,m2,a2⟩:=D1 x1 [59] (by (try simp)<;>omega);try simp only [A0B,A0E] at m2
   simp only [go_sem,seval,a1,a2,hw1];repeat' ((with_reducible first|refine wr ?_|refine k_cu ?_ ?_|refine wb2 ?_ ?_<;>(intro hb;try simp only [hb])|fail)<;>try simp only [go_sem,seval,a1,a2,hw1])
   exact ⟨_,_,GL.refl _ _,x2,j1,by rw [e2,e1];exact .one (q:=([98,101,103,105,110,32],[109,111,100,101],3)) (by simp [B6d]) g1,by omega,b1,rfl,rfl⟩
 by_cases k12:k=12
 ·subst k12;cases qd;all_goals
   simp only [go_sem,seval,hqd];repeat' ((with_reducible first|refine wr ?_|refine k_cu ?_ ?_|refine wb2 ?_ ?_<;>(intro hb;try simp only [hb])|fail)<;>try simp only [go_sem,seval,hqd,hw1])
   refine AC.call (N0 L hL w hw [109,111,100,101] (by decide) 3 (by decide) (by decide) j hj _ _ t A0 (by omega)) ?_;rintro v' H' c3 ⟨r1,j1,g1,l1,b1,rfl,rfl⟩ hc3;rw [A1];obtain ⟨x1,e1,m1,a1⟩:=D1 [101,110,100,32] r1 (by (try simp)<;>omega);try simp only [A0B,A0E] at m1
   obtain ⟨x2,e2,m2,a2⟩:=D1 x1 [59] (by (try simp)<;>omega);try simp only [A0B,A0E] at m2
   simp only [go_sem,seval,a1,a2,hw1];repeat' ((with_reducible first|refine wr ?_|refine k_cu ?_ ?_|refine wb2 ?_ ?_<;>(intro hb;try simp only [hb])|fail)<;>try simp only [go_sem,seval,a1,a2,hw1])
   exact ⟨_,_,GL.refl _ _,x2,j1,by rw [e2,e1];exact .one (q:=([101,110,100,32],[109,111,100,101],3)) (by simp [B6d]) g1,by omega,b1,rfl,rfl⟩
 by_cases k13:k=13
 ·subst k13;cases qd;all_goals
   simp only [go_sem,seval,hqd];repeat' ((with_reducible first|refine wr ?_|refine k_cu ?_ ?_|refine wb2 ?_ ?_<;>(intro hb;try simp only [hb])|fail)<;>try simp only [go_sem,seval,hqd,hw1])
   refine AC.call (N0 L hL w hw [101,118] (by decide) 2 (by decide) (by decide) j hj _ _ t A0 (by omega)) ?_;rintro v' H' c3 ⟨r1,j1,g1,l1,b1,rfl,rfl⟩ hc3;rw [A1];obtain ⟨x1,e1,m1,a1⟩:=D1 [112,111,115,116,32] r1 (by (try simp)<;>omega);try simp only [A0B,A0E] at m1
   obtain ⟨x2,e2,m2,a2⟩:=D1 x1 [59] (by (try simp)<;>omega);try simp only [A0B,A0E] at m2
   simp only [go_sem,seval,a1,a2,hw1];repeat' ((with_reducible first|refine wr ?_|refine k_cu ?_ ?_|refine wb2 ?_ ?_<;>(intro hb;try simp only [hb])|fail)<;>try simp only [go_sem,seval,a1,a2,hw1])
   exact ⟨_,_,GL.refl _ _,x2,j1,by rw [e2,e1];exact .one (q:=([112,111,115,116,32],[101,118],2)) (by simp [B6d]) g1,by omega,b1,rfl,rfl⟩
 by_cases k14:k=14
 ·subst k14;cases qd;all_goals
   simp only [go_sem,seval,hqd];repeat' ((with_reducible first|refine wr ?_|refine k_cu ?_ ?_|refine wb2 ?_ ?_<;>(intro hb;try simp only [hb])|fail)<;>try simp only [go_sem,seval,hqd,hw1])
   refine AC.call (N0 L hL w hw [115,110,100] (by decide) 2 (by decide) (by decide) j hj _ _ t A0 (by omega)) ?_;rintro v' H' c3 ⟨r1,j1,g1,l1,b1,rfl,rfl⟩ hc3;rw [A1];obtain ⟨x1,e1,m1,a1⟩:=D1 [112,108,97,121,32] r1 (by (try simp)<;>omega);try simp only [A0B,A0E] at m1
   obtain ⟨x2,e2,m2,a2⟩:=D1 x1 [59] (by (try simp)<;>omega);try simp only [A0B,A0E] at m2
   simp only [go_sem,seval,a1,a2,hw1];repeat' ((with_reducible first|refine wr ?_|refine k_cu ?_ ?_|refine wb2 ?_ ?_<;>(intro hb;try simp only [hb])|fail)<;>try simp only [go_sem,seval,a1,a2,hw1])
   exact ⟨_,_,GL.refl _ _,x2,j1,by rw [e2,e1];exact .one (q:=([112,108,97,121,32],[115,110,100],2)) (by simp [B6d]) g1,by omega,b1,rfl,rfl⟩
 by_cases k17:k=17
 ·subst k17;cases qd;all_goals
   simp only [go_sem,seval,hqd];repeat' ((with_reducible first|refine wr ?_|refine k_cu ?_ ?_|refine wb2 ?_ ?_<;>(intro hb;try simp only [hb])|fail)<;>try simp only [go_sem,seval,hqd,hw1])
   exact ⟨_,_,GL.refl _ _,_,j,.con,by first|(simp;done)|(simp;omega),hj,rfl,rfl⟩
 by_cases k6:k=6
 ·subst k6;cases qd;all_goals
   simp only [go_sem,seval,hqd];repeat' ((with_reducible first|refine wr ?_|refine k_cu ?_ ?_|refine wb2 ?_ ?_<;>(intro hb;try simp only [hb])|fail)<;>try simp only [go_sem,seval,hqd,hw1])
   refine AC.call (T7 L hL w 3 (by decide) (by decide) j hj _ _ t (by rw [B5p (by omega)];exact A0) (by omega)) ?_;rintro v' H' c3 ⟨k3,j1,hlt3,b1,rfl,rfl⟩ hc3;have hmg:∀ (X:Hp) (B:Blk),G6 [c2] X ((M5 X [c2]).upd t B)=X.upd t B:=fun X B=>A5h (by omega);have hia:Q6 1 (.slc c2 0 3) (I64 (k3:Int))=some (.ptr c2 k3):=by simp [Q6];omega
   have hld:([.str [102,105,114,101,32],.str [104,111,108,100,32],.str [114,101,108,101,97,115,101,32]]:List DV)[k3]? = some (.str (C3o.getD k3 [])):=by
    match k3,hlt3 with
    | 0,_=>rfl
    | 1,_=>rfl
    | 2,_=>rfl
   have hg:=O8 (l:=C3o) (n:=10) (by decide) k3;generalize hog:C3o.getD k3 []=og at hg hld;generalize hWL:([.str [102,105,114,101,32],.str [104,111,108,100,32],.str [114,101,108,101,97,115,101,32]]:List DV)=WL at hld ⊢;have ne0:=Q3 t c2 (by omega);simp only [go_sem,seval,hmg,A0,A1,ne0,hia,hld,hw1];refine ⟨by and_intros<;>first|rfl|(rw [<- hWL];done)|((repeat rw [A2 (by omega)]);exact hfr _ (by omega)),?_⟩;refine AC.call (N0 L hL w hw [99,111,105,108] (by decide) 3 (by decide) (by decide) j1 b1 _ _ t (by simp only [M5];rw [if_neg (by simp;omega)];exact A0) (by omega)) ?_;rintro v' H' c4 ⟨r1,j2,g1,l1,b2,rfl,rfl⟩ hc4;obtain ⟨x1,e1,m1,a1⟩:=D1 og r1 (by (try simp)<;>omega);try simp only [A0B,A0E] at m1
   obtain ⟨x2,e2,m2,a2⟩:=D1 x1 [59] (by (try simp)<;>omega);try simp only [A0B,A0E] at m2
   simp only [go_sem,seval,hmg,A0,A1,ne0,hia,hld,hw1,a1,a2];refine ⟨by and_intros<;>first|rfl|(rw [<- hWL];done)|((repeat rw [A2 (by omega)]);exact hfr _ (by omega)),?_⟩;repeat' ((with_reducible first|refine wr ?_|refine k_cu ?_ ?_|refine wb2 ?_ ?_<;>(intro hb;try simp only [hb])|fail)<;>try simp only [go_sem,seval])
   exact ⟨_,_,A1j hfr htc (by omega),x2,j2,by rw [e2,e1, <- hog];exact .fir hlt3 g1,by omega,b2,rfl,rfl⟩
 by_cases k15:k=15
 ·subst k15;cases qd;all_goals
   simp only [go_sem,seval,hqd];repeat' ((with_reducible first|refine wr ?_|refine k_cu ?_ ?_|refine wb2 ?_ ?_<;>(intro hb;try simp only [hb])|fail)<;>try simp only [go_sem,seval,hqd,hw1])
   refine AC.call (T7 L hL w 2 (by decide) (by decide) j hj _ _ t (by rw [B5p (by omega)];exact A0) (by omega)) ?_;rintro v' H' c3 ⟨k3,j1,hlt3,b1,rfl,rfl⟩ hc3;have hmg:∀ (X:Hp) (B:Blk),G6 [c2] X ((M5 X [c2]).upd t B)=X.upd t B:=fun X B=>A5h (by omega);have hia:Q6 1 (.slc c2 0 2) (I64 (k3:Int))=some (.ptr c2 k3):=by simp [Q6];omega
   have hld:([.str [114,117,110,32],.str [104,97,108,116,32]]:List DV)[k3]? = some (.str (C1v.getD k3 [])):=by
    match k3,hlt3 with
    | 0,_=>rfl
    | 1,_=>rfl
   have hg:=O8 (l:=C1v) (n:=10) (by decide) k3;generalize hog:C1v.getD k3 []=og at hg hld;generalize hWL:([.str [114,117,110,32],.str [104,97,108,116,32]]:List DV)=WL at hld ⊢;have ne0:=Q3 t c2 (by omega);simp only [go_sem,seval,hmg,A0,A1,ne0,hia,hld,hw1];refine ⟨by and_intros<;>first|rfl|(rw [<- hWL];done)|((repeat rw [A2 (by omega)]);exact hfr _ (by omega)),?_⟩;refine AC.call (N0 L hL w hw [115,104,111,119] (by decide) 2 (by decide) (by decide) j1 b1 _ _ t (by simp only [M5];rw [if_neg (by simp;omega)];exact A0) (by omega)) ?_;rintro v' H' c4 ⟨r1,j2,g1,l1,b2,rfl,rfl⟩ hc4;obtain ⟨x1,e1,m1,a1⟩:=D1 og r1 (by (try simp)<;>omega);try simp only [A0B,A0E] at m1
   obtain ⟨x2,e2,m2,a2⟩:=D1 x1 [59] (by (try simp)<;>omega);try simp only [A0B,A0E] at m2
   simp only [go_sem,seval,hmg,A0,A1,ne0,hia,hld,hw1,a1,a2];refine ⟨by and_intros<;>first|rfl|(rw [<- hWL];done)|((repeat rw [A2 (by omega)]);exact hfr _ (by omega)),?_⟩;repeat' ((with_reducible first|refine wr ?_|refine k_cu ?_ ?_|refine wb2 ?_ ?_<;>(intro hb;try simp only [hb])|fail)<;>try simp only [go_sem,seval])
   exact ⟨_,_,A1j hfr htc (by omega),x2,j2,by rw [e2,e1, <- hog];exact .run hlt3 g1,by omega,b2,rfl,rfl⟩
 by_cases k16:k=16
 ·subst k16;cases qd;all_goals
   simp only [go_sem,seval,hqd];repeat' ((with_reducible first|refine wr ?_|refine k_cu ?_ ?_|refine wb2 ?_ ?_<;>(intro hb;try simp only [hb])|fail)<;>try simp only [go_sem,seval,hqd,hw1])
   refine AC.call (T7 L hL w 4 (by decide) (by decide) j hj _ _ t (by rw [B5p (by omega)];exact A0) (by omega)) ?_;rintro v' H' c3 ⟨k3,j1,hlt3,b1,rfl,rfl⟩ hc3;have hmg:∀ (X:Hp) (B:Blk),G6 [c2] X ((M5 X [c2]).upd t B)=X.upd t B:=fun X B=>A5h (by omega);have hia:Q6 1 (.slc c2 0 4) (I64 (k3:Int))=some (.ptr c2 k3):=by simp [Q6];omega
   have hld:([.str [103,111],.str [106,97,99,107,112,111,116],.str [97,92,34,98],.str []]:List DV)[k3]? = some (.str (C1h.getD k3 [])):=by
    match k3,hlt3 with
    | 0,_=>rfl
    | 1,_=>rfl
    | 2,_=>rfl
    | 3,_=>rfl
   have hg:=O8 (l:=C1h) (n:=10) (by decide) k3;generalize hog:C1h.getD k3 []=og at hg hld;generalize hWL:([.str [103,111],.str [106,97,99,107,112,111,116],.str [97,92,34,98],.str []]:List DV)=WL at hld ⊢;have ne0:=Q3 t c2 (by omega);obtain ⟨x1,e1,m1,a1⟩:=D1 [116,101,120,116,32,34] og (by (try simp)<;>omega);try simp only [A0B,A0E] at m1
   obtain ⟨x2,e2,m2,a2⟩:=D1 x1 [34,44,32] (by (try simp)<;>omega);try simp only [A0B,A0E] at m2
   simp only [go_sem,seval,hmg,A0,A1,ne0,hia,hld,hw1,a1,a2];refine ⟨by and_intros<;>first|rfl|(rw [<- hWL];done)|((repeat rw [A2 (by omega)]);exact hfr _ (by omega)),?_⟩;refine AC.call (W5 L hL w hw 0 (by decide) j1 b1 _ _ t (by simp only [M5];rw [if_neg (by simp;omega)];exact A0) (by omega)) ?_;rintro v' H' c4 ⟨r1,j2,g1,l1,b2,rfl,rfl⟩ hc4;obtain ⟨x3,e3,m3,a3⟩:=D1 x2 r1 (by (try simp)<;>omega);try simp only [A0B,A0E] at m3
   obtain ⟨x4,e4,m4,a4⟩:=D1 x3 [59] (by (try simp)<;>omega);try simp only [A0B,A0E] at m4
   simp only [go_sem,seval,hmg,A0,A1,ne0,hia,hld,hw1,a1,a2,a3,a4];refine ⟨by and_intros<;>first|rfl|(rw [<- hWL];done)|((repeat rw [A2 (by omega)]);exact hfr _ (by omega)),?_⟩;repeat' ((with_reducible first|refine wr ?_|refine k_cu ?_ ?_|refine wb2 ?_ ?_<;>(intro hb;try simp only [hb])|fail)<;>try simp only [go_sem,seval])
   exact ⟨_,_,A1j hfr htc (by omega),x4,j2,by rw [e4,e3,e2,e1, <- hog];exact .txt hlt3 g1,by omega,b2,rfl,rfl⟩
 by_cases k18:k=18
 ·subst k18;cases qd;all_goals
   simp only [go_sem,seval,hqd];repeat' ((with_reducible first|refine wr ?_|refine k_cu ?_ ?_|refine wb2 ?_ ?_<;>(intro hb;try simp only [hb])|fail)<;>try simp only [go_sem,seval,hqd,hw1])
   refine AC.call (N0 L hL w hw [118] (by decide) 3 (by decide) (by decide) j hj _ _ t A0 (by omega)) ?_;rintro v' H' c3 ⟨r1,j1,g1,l1,b1,rfl,rfl⟩ hc3;rw [A1];obtain ⟨x1,e1,m1,a1⟩:=D1 r1 [32,61,32] (by (try simp)<;>omega);try simp only [A0B,A0E] at m1
   simp only [go_sem,seval,a1,hw1];repeat' ((with_reducible first|refine wr ?_|refine k_cu ?_ ?_|refine wb2 ?_ ?_<;>(intro hb;try simp only [hb])|fail)<;>try simp only [go_sem,seval,a1,hw1])
   refine AC.call (W5 L hL w hw 2 (by decide) j1 b1 _ _ t A0 (by omega)) ?_;rintro v' H' c4 ⟨r2,j2,g2,l2,b2,rfl,rfl⟩ hc4;rw [A1];obtain ⟨x2,e2,m2,a2⟩:=D1 x1 r2 (by (try simp)<;>omega);try simp only [A0B,A0E] at m2
   obtain ⟨x3,e3,m3,a3⟩:=D1 x2 [59] (by (try simp)<;>omega);try simp only [A0B,A0E] at m3
   simp only [go_sem,seval,a2,a3,hw1];repeat' ((with_reducible first|refine wr ?_|refine k_cu ?_ ?_|refine wb2 ?_ ?_<;>(intro hb;try simp only [hb])|fail)<;>try simp only [go_sem,seval,a2,a3,hw1])
   exact ⟨_,_,GL.refl _ _,x3,j2,by rw [e3,e2,e1];exact .asg g1 g2,by omega,b2,rfl,rfl⟩
 by_cases k19:k=19
 ·subst k19;cases qd;all_goals
   simp only [go_sem,seval,hqd];repeat' ((with_reducible first|refine wr ?_|refine k_cu ?_ ?_|refine wb2 ?_ ?_<;>(intro hb;try simp only [hb])|fail)<;>try simp only [go_sem,seval,hqd,hw1])
   refine AC.call (N0 L hL w hw [118] (by decide) 3 (by decide) (by decide) j hj _ _ t A0 (by omega)) ?_;rintro v' H' c3 ⟨r1,j1,g1,l1,b1,rfl,rfl⟩ hc3;rw [A1];obtain ⟨x1,e1,m1,a1⟩:=D1 r1 [32,61,32] (by (try simp)<;>omega);try simp only [A0B,A0E] at m1
   simp only [go_sem,seval,a1,hw1];repeat' ((with_reducible first|refine wr ?_|refine k_cu ?_ ?_|refine wb2 ?_ ?_<;>(intro hb;try simp only [hb])|fail)<;>try simp only [go_sem,seval,a1,hw1])
   refine AC.call (W5 L hL w hw 2 (by decide) j1 b1 _ _ t A0 (by omega)) ?_;rintro v' H' c4 ⟨r2,j2,g2,l2,b2,rfl,rfl⟩ hc4;rw [A1];obtain ⟨x2,e2,m2,a2⟩:=D1 x1 r2 (by (try simp)<;>omega);try simp only [A0B,A0E] at m2
   obtain ⟨x3,e3,m3,a3⟩:=D1 x2 [59] (by (try simp)<;>omega);try simp only [A0B,A0E] at m3
   simp only [go_sem,seval,a2,a3,hw1];repeat' ((with_reducible first|refine wr ?_|refine k_cu ?_ ?_|refine wb2 ?_ ?_<;>(intro hb;try simp only [hb])|fail)<;>try simp only [go_sem,seval,a2,a3,hw1])
   exact ⟨_,_,GL.refl _ _,x3,j2,by rw [e3,e2,e1];exact .asg g1 g2,by omega,b2,rfl,rfl⟩
 by_cases k0:k=0
 ·subst k0;cases qd;all_goals
   simp only [go_sem,seval,hqd];repeat' ((with_reducible first|refine wr ?_|refine k_cu ?_ ?_|refine wb2 ?_ ?_<;>(intro hb;try simp only [hb])|fail)<;>try simp only [go_sem,seval,hqd,hw1])
   refine AC.call (N0 L hL w hw [118] (by decide) 3 (by decide) (by decide) j hj _ _ t A0 (by omega)) ?_;rintro v' H' c3 ⟨r1,j1,g1,l1,b1,rfl,rfl⟩ hc3;rw [A1];obtain ⟨x1,e1,m1,a1⟩:=D1 r1 [32,61,32] (by (try simp)<;>omega);try simp only [A0B,A0E] at m1
   simp only [go_sem,seval,a1,hw1];repeat' ((with_reducible first|refine wr ?_|refine k_cu ?_ ?_|refine wb2 ?_ ?_<;>(intro hb;try simp only [hb])|fail)<;>try simp only [go_sem,seval,a1,hw1])
   refine AC.call (W5 L hL w hw 2 (by decide) j1 b1 _ _ t A0 (by omega)) ?_;rintro v' H' c4 ⟨r2,j2,g2,l2,b2,rfl,rfl⟩ hc4;rw [A1];obtain ⟨x2,e2,m2,a2⟩:=D1 x1 r2 (by (try simp)<;>omega);try simp only [A0B,A0E] at m2
   obtain ⟨x3,e3,m3,a3⟩:=D1 x2 [59] (by (try simp)<;>omega);try simp only [A0B,A0E] at m3
   simp only [go_sem,seval,a2,a3,hw1];repeat' ((with_reducible first|refine wr ?_|refine k_cu ?_ ?_|refine wb2 ?_ ?_<;>(intro hb;try simp only [hb])|fail)<;>try simp only [go_sem,seval,a2,a3,hw1])
   exact ⟨_,_,GL.refl _ _,x3,j2,by rw [e3,e2,e1];exact .asg g1 g2,by omega,b2,rfl,rfl⟩
 by_cases k3:k=3
 ·subst k3;cases qd
  rotate_left
  ·simp only [go_sem,seval,hqd];repeat' ((with_reducible first|refine wr ?_|refine k_cu ?_ ?_|refine wb2 ?_ ?_<;>(intro hb;try simp only [hb])|fail)<;>try simp only [go_sem,seval,hqd,hw1])
   refine AC.call (N0 L hL w hw [118] (by decide) 3 (by decide) (by decide) j hj _ _ t A0 (by omega)) ?_;rintro v' H' c3 ⟨r1,j1,g1,l1,b1,rfl,rfl⟩ hc3;rw [A1];obtain ⟨x1,e1,m1,a1⟩:=D1 r1 [32,61,32] (by (try simp)<;>omega);try simp only [A0B,A0E] at m1
   simp only [go_sem,seval,a1,hw1];repeat' ((with_reducible first|refine wr ?_|refine k_cu ?_ ?_|refine wb2 ?_ ?_<;>(intro hb;try simp only [hb])|fail)<;>try simp only [go_sem,seval,a1,hw1])
   refine AC.call (W5 L hL w hw 2 (by decide) j1 b1 _ _ t A0 (by omega)) ?_;rintro v' H' c4 ⟨r2,j2,g2,l2,b2,rfl,rfl⟩ hc4;rw [A1];obtain ⟨x2,e2,m2,a2⟩:=D1 x1 r2 (by (try simp)<;>omega);try simp only [A0B,A0E] at m2
   obtain ⟨x3,e3,m3,a3⟩:=D1 x2 [59] (by (try simp)<;>omega);try simp only [A0B,A0E] at m3
   simp only [go_sem,seval,a2,a3,hw1];repeat' ((with_reducible first|refine wr ?_|refine k_cu ?_ ?_|refine wb2 ?_ ?_<;>(intro hb;try simp only [hb])|fail)<;>try simp only [go_sem,seval,a2,a3,hw1])
   exact ⟨_,_,GL.refl _ _,x3,j2,by rw [e3,e2,e1];exact .asg g1 g2,by omega,b2,rfl,rfl⟩
  have hK':=hK.resolve_left (hqf rfl);simp only [go_sem,seval,hqd];repeat' ((with_reducible first|refine wr ?_|refine k_cu ?_ ?_|refine wb2 ?_ ?_<;>(intro hb;try simp only [hb])|fail)<;>try simp only [go_sem,seval,hqd,hw1])
  refine AC.call (W5 L hL w hw 0 (by decide) j hj _ _ t A0 (by omega)) ?_;rintro v' H' c3 ⟨r1,j1,g1,l1,b1,rfl,rfl⟩ hc3;rw [A1];obtain ⟨x1,e1,m1,a1⟩:=D1 [114,101,112,101,97,116,32] r1 (by (try simp)<;>omega);try simp only [A0B,A0E] at m1
  obtain ⟨x2,e2,m2,a2⟩:=D1 x1 [32] (by (try simp)<;>omega);try simp only [A0B,A0E] at m2
  simp only [go_sem,seval,a1,a2,hw1];repeat' ((with_reducible first|refine wr ?_|refine k_cu ?_ ?_|refine wb2 ?_ ?_<;>(intro hb;try simp only [hb])|fail)<;>try simp only [go_sem,seval,a1,a2,hw1])
  refine AC.call (hK' j1 b1 _ _ t A0 (by omega)) ?_;rintro v' H' c4 ⟨r2,j2,g2,l2,b2,rfl,rfl⟩ hc4;rw [A1];obtain ⟨x3,e3,m3,a3⟩:=D1 x2 r2 (by (try simp)<;>omega);try simp only [A0B,A0E] at m3
  simp only [go_sem,seval,a3,hw1];repeat' ((with_reducible first|refine wr ?_|refine k_cu ?_ ?_|refine wb2 ?_ ?_<;>(intro hb;try simp only [hb])|fail)<;>try simp only [go_sem,seval,a3,hw1])
  exact ⟨_,_,GL.refl _ _,x3,j2,by rw [e3,e2,e1];exact .rep g1 g2,by omega,b2,rfl,rfl⟩
 by_cases k1:k=1
 ·subst k1;cases qd
  rotate_left
  ·simp only [go_sem,seval,hqd];repeat' ((with_reducible first|refine wr ?_|refine k_cu ?_ ?_|refine wb2 ?_ ?_<;>(intro hb;try simp only [hb])|fail)<;>try simp only [go_sem,seval,hqd,hw1])
   refine AC.call (N0 L hL w hw [118] (by decide) 3 (by decide) (by decide) j hj _ _ t A0 (by omega)) ?_;rintro v' H' c3 ⟨r1,j1,g1,l1,b1,rfl,rfl⟩ hc3;rw [A1];obtain ⟨x1,e1,m1,a1⟩:=D1 r1 [32,61,32] (by (try simp)<;>omega);try simp only [A0B,A0E] at m1
   simp only [go_sem,seval,a1,hw1];repeat' ((with_reducible first|refine wr ?_|refine k_cu ?_ ?_|refine wb2 ?_ ?_<;>(intro hb;try simp only [hb])|fail)<;>try simp only [go_sem,seval,a1,hw1])
   refine AC.call (W5 L hL w hw 2 (by decide) j1 b1 _ _ t A0 (by omega)) ?_;rintro v' H' c4 ⟨r2,j2,g2,l2,b2,rfl,rfl⟩ hc4;rw [A1];obtain ⟨x2,e2,m2,a2⟩:=D1 x1 r2 (by (try simp)<;>omega);try simp only [A0B,A0E] at m2
   obtain ⟨x3,e3,m3,a3⟩:=D1 x2 [59] (by (try simp)<;>omega);try simp only [A0B,A0E] at m3
   simp only [go_sem,seval,a2,a3,hw1];repeat' ((with_reducible first|refine wr ?_|refine k_cu ?_ ?_|refine wb2 ?_ ?_<;>(intro hb;try simp only [hb])|fail)<;>try simp only [go_sem,seval,a2,a3,hw1])
   exact ⟨_,_,GL.refl _ _,x3,j2,by rw [e3,e2,e1];exact .asg g1 g2,by omega,b2,rfl,rfl⟩
  have hK':=hK.resolve_left (hqf rfl);simp only [go_sem,seval,hqd];repeat' ((with_reducible first|refine wr ?_|refine k_cu ?_ ?_|refine wb2 ?_ ?_<;>(intro hb;try simp only [hb])|fail)<;>try simp only [go_sem,seval,hqd,hw1])
  refine AC.call (B0a L hL w hw 1 (by decide) j hj _ _ t A0 (by omega)) ?_;rintro v' H' c3 ⟨r1,j1,g1,l1,b1,rfl,rfl⟩ hc3;rw [A1];obtain ⟨x1,e1,m1,a1⟩:=D1 [105,102,32] r1 (by (try simp)<;>omega);try simp only [A0B,A0E] at m1
  obtain ⟨x2,e2,m2,a2⟩:=D1 x1 [32] (by (try simp)<;>omega);try simp only [A0B,A0E] at m2
  simp only [go_sem,seval,a1,a2,hw1];repeat' ((with_reducible first|refine wr ?_|refine k_cu ?_ ?_|refine wb2 ?_ ?_<;>(intro hb;try simp only [hb])|fail)<;>try simp only [go_sem,seval,a1,a2,hw1])
  refine AC.call (hK' j1 b1 _ _ t A0 (by omega)) ?_;rintro v' H' c4 ⟨r2,j2,g2,l2,b2,rfl,rfl⟩ hc4;rw [A1];obtain ⟨x3,e3,m3,a3⟩:=D1 x2 r2 (by (try simp)<;>omega);try simp only [A0B,A0E] at m3
  simp only [go_sem,seval,a3,hw1];repeat' ((with_reducible first|refine wr ?_|refine k_cu ?_ ?_|refine wb2 ?_ ?_<;>(intro hb;try simp only [hb])|fail)<;>try simp only [go_sem,seval,a3,hw1])
  refine AC.call (T7 L hL w 3 (by decide) (by decide) j2 b2 _ _ t A0 (by omega)) ?_;rintro v' H' c5 ⟨q,j3,hq,b3,rfl,rfl⟩ hc5;rw [A1];by_cases q1:q=1
  ·subst q1;obtain ⟨x4,e4,m4,a4⟩:=D1 x3 [32,101,108,115,101,32] (by (try simp)<;>omega);try simp only [A0B,A0E] at m4
   simp only [go_sem,seval,a4,hw1];repeat' ((with_reducible first|refine wr ?_|refine k_cu ?_ ?_|refine wb2 ?_ ?_<;>(intro hb;try simp only [hb])|fail)<;>try simp only [go_sem,seval,a4,hw1])
   refine AC.call (hK' j3 b3 _ _ t A0 (by omega)) ?_;rintro v' H' c6 ⟨r4,j4,g4,l4,b4,rfl,rfl⟩ hc6;rw [A1];obtain ⟨x5,e5,m5,a5⟩:=D1 x4 r4 (by (try simp)<;>omega);try simp only [A0B,A0E] at m5
   simp only [go_sem,seval,a5,hw1];repeat' ((with_reducible first|refine wr ?_|refine k_cu ?_ ?_|refine wb2 ?_ ?_<;>(intro hb;try simp only [hb])|fail)<;>try simp only [go_sem,seval,a5,hw1])
   exact ⟨_,_,GL.refl _ _,x5,j4,by rw [e5,e4,e3,e2,e1];exact .ifB g1 g2 g4,by omega,b4,rfl,rfl⟩
  by_cases q2:q=2
  ·subst q2;obtain ⟨x4,e4,m4,a4⟩:=D1 x3 [32,101,108,115,101,32,105,102,32] (by (try simp)<;>omega);try simp only [A0B,A0E] at m4
   simp only [go_sem,seval,a4,hw1];repeat' ((with_reducible first|refine wr ?_|refine k_cu ?_ ?_|refine wb2 ?_ ?_<;>(intro hb;try simp only [hb])|fail)<;>try simp only [go_sem,seval,a4,hw1])
   refine AC.call (B0a L hL w hw 0 (by decide) j3 b3 _ _ t A0 (by omega)) ?_;rintro v' H' c6 ⟨r4,j4,g4,l4,b4,rfl,rfl⟩ hc6;rw [A1];obtain ⟨x5,e5,m5,a5⟩:=D1 x4 r4 (by (try simp)<;>omega);try simp only [A0B,A0E] at m5
   obtain ⟨x6,e6,m6,a6⟩:=D1 x5 [32] (by (try simp)<;>omega);try simp only [A0B,A0E] at m6
   simp only [go_sem,seval,a5,a6,hw1];repeat' ((with_reducible first|refine wr ?_|refine k_cu ?_ ?_|refine wb2 ?_ ?_<;>(intro hb;try simp only [hb])|fail)<;>try simp only [go_sem,seval,a5,a6,hw1])
   refine AC.call (hK' j4 b4 _ _ t A0 (by omega)) ?_;rintro v' H' c7 ⟨r5,j5,g5,l5,b5,rfl,rfl⟩ hc7;rw [A1];obtain ⟨x7,e7,m7,a7⟩:=D1 x6 r5 (by (try simp)<;>omega);try simp only [A0B,A0E] at m7
   simp only [go_sem,seval,a7,hw1];repeat' ((with_reducible first|refine wr ?_|refine k_cu ?_ ?_|refine wb2 ?_ ?_<;>(intro hb;try simp only [hb])|fail)<;>try simp only [go_sem,seval,a7,hw1])
   exact ⟨_,_,GL.refl _ _,x7,j5,by rw [e7,e6,e5,e4,e3,e2,e1];exact .ifC g1 g2 g4 g5,by omega,b5,rfl,rfl⟩
  obtain rfl:q=0:=by omega
  simp only [go_sem,seval];repeat' ((with_reducible first|refine wr ?_|refine k_cu ?_ ?_|refine wb2 ?_ ?_<;>(intro hb;try simp only [hb])|fail)<;>try simp only [go_sem,seval])
  exact ⟨_,_,GL.refl _ _,x3,j3,by rw [e3,e2,e1];exact .ifA g1 g2,by omega,b3,rfl,rfl⟩
 by_cases k2:k=2
 ·subst k2;cases qd
  rotate_left
  ·simp only [go_sem,seval,hqd];repeat' ((with_reducible first|refine wr ?_|refine k_cu ?_ ?_|refine wb2 ?_ ?_<;>(intro hb;try simp only [hb])|fail)<;>try simp only [go_sem,seval,hqd,hw1])
   refine AC.call (N0 L hL w hw [118] (by decide) 3 (by decide) (by decide) j hj _ _ t A0 (by omega)) ?_;rintro v' H' c3 ⟨r1,j1,g1,l1,b1,rfl,rfl⟩ hc3;rw [A1];obtain ⟨x1,e1,m1,a1⟩:=D1 r1 [32,61,32] (by (try simp)<;>omega);try simp only [A0B,A0E] at m1
   simp only [go_sem,seval,a1,hw1];repeat' ((with_reducible first|refine wr ?_|refine k_cu ?_ ?_|refine wb2 ?_ ?_<;>(intro hb;try simp only [hb])|fail)<;>try simp only [go_sem,seval,a1,hw1])
   refine AC.call (W5 L hL w hw 2 (by decide) j1 b1 _ _ t A0 (by omega)) ?_;rintro v' H' c4 ⟨r2,j2,g2,l2,b2,rfl,rfl⟩ hc4;rw [A1];obtain ⟨x2,e2,m2,a2⟩:=D1 x1 r2 (by (try simp)<;>omega);try simp only [A0B,A0E] at m2
   obtain ⟨x3,e3,m3,a3⟩:=D1 x2 [59] (by (try simp)<;>omega);try simp only [A0B,A0E] at m3
   simp only [go_sem,seval,a2,a3,hw1];repeat' ((with_reducible first|refine wr ?_|refine k_cu ?_ ?_|refine wb2 ?_ ?_<;>(intro hb;try simp only [hb])|fail)<;>try simp only [go_sem,seval,a2,a3,hw1])
   exact ⟨_,_,GL.refl _ _,x3,j2,by rw [e3,e2,e1];exact .asg g1 g2,by omega,b2,rfl,rfl⟩
  have hK':=hK.resolve_left (hqf rfl);simp only [go_sem,seval,hqd];repeat' ((with_reducible first|refine wr ?_|refine k_cu ?_ ?_|refine wb2 ?_ ?_<;>(intro hb;try simp only [hb])|fail)<;>try simp only [go_sem,seval,hqd,hw1])
  refine AC.call (B0a L hL w hw 1 (by decide) j hj _ _ t A0 (by omega)) ?_;rintro v' H' c3 ⟨r1,j1,g1,l1,b1,rfl,rfl⟩ hc3;rw [A1];obtain ⟨x1,e1,m1,a1⟩:=D1 [105,102,32] r1 (by (try simp)<;>omega);try simp only [A0B,A0E] at m1
  obtain ⟨x2,e2,m2,a2⟩:=D1 x1 [32] (by (try simp)<;>omega);try simp only [A0B,A0E] at m2
  simp only [go_sem,seval,a1,a2,hw1];repeat' ((with_reducible first|refine wr ?_|refine k_cu ?_ ?_|refine wb2 ?_ ?_<;>(intro hb;try simp only [hb])|fail)<;>try simp only [go_sem,seval,a1,a2,hw1])
  refine AC.call (hK' j1 b1 _ _ t A0 (by omega)) ?_;rintro v' H' c4 ⟨r2,j2,g2,l2,b2,rfl,rfl⟩ hc4;rw [A1];obtain ⟨x3,e3,m3,a3⟩:=D1 x2 r2 (by (try simp)<;>omega);try simp only [A0B,A0E] at m3
  simp only [go_sem,seval,a3,hw1];repeat' ((with_reducible first|refine wr ?_|refine k_cu ?_ ?_|refine wb2 ?_ ?_<;>(intro hb;try simp only [hb])|fail)<;>try simp only [go_sem,seval,a3,hw1])
  refine AC.call (T7 L hL w 3 (by decide) (by decide) j2 b2 _ _ t A0 (by omega)) ?_;rintro v' H' c5 ⟨q,j3,hq,b3,rfl,rfl⟩ hc5;rw [A1];by_cases q1:q=1
  ·subst q1;obtain ⟨x4,e4,m4,a4⟩:=D1 x3 [32,101,108,115,101,32] (by (try simp)<;>omega);try simp only [A0B,A0E] at m4
   simp only [go_sem,seval,a4,hw1];repeat' ((with_reducible first|refine wr ?_|refine k_cu ?_ ?_|refine wb2 ?_ ?_<;>(intro hb;try simp only [hb])|fail)<;>try simp only [go_sem,seval,a4,hw1])
   refine AC.call (hK' j3 b3 _ _ t A0 (by omega)) ?_;rintro v' H' c6 ⟨r4,j4,g4,l4,b4,rfl,rfl⟩ hc6;rw [A1];obtain ⟨x5,e5,m5,a5⟩:=D1 x4 r4 (by (try simp)<;>omega);try simp only [A0B,A0E] at m5
   simp only [go_sem,seval,a5,hw1];repeat' ((with_reducible first|refine wr ?_|refine k_cu ?_ ?_|refine wb2 ?_ ?_<;>(intro hb;try simp only [hb])|fail)<;>try simp only [go_sem,seval,a5,hw1])
   exact ⟨_,_,GL.refl _ _,x5,j4,by rw [e5,e4,e3,e2,e1];exact .ifB g1 g2 g4,by omega,b4,rfl,rfl⟩
  by_cases q2:q=2
  ·subst q2;obtain ⟨x4,e4,m4,a4⟩:=D1 x3 [32,101,108,115,101,32,105,102,32] (by (try simp)<;>omega);try simp only [A0B,A0E] at m4
   simp only [go_sem,seval,a4,hw1];repeat' ((with_reducible first|refine wr ?_|refine k_cu ?_ ?_|refine wb2 ?_ ?_<;>(intro hb;try simp only [hb])|fail)<;>try simp only [go_sem,seval,a4,hw1])
   refine AC.call (B0a L hL w hw 0 (by decide) j3 b3 _ _ t A0 (by omega)) ?_;rintro v' H' c6 ⟨r4,j4,g4,l4,b4,rfl,rfl⟩ hc6;rw [A1];obtain ⟨x5,e5,m5,a5⟩:=D1 x4 r4 (by (try simp)<;>omega);try simp only [A0B,A0E] at m5
   obtain ⟨x6,e6,m6,a6⟩:=D1 x5 [32] (by (try simp)<;>omega);try simp only [A0B,A0E] at m6
   simp only [go_sem,seval,a5,a6,hw1];repeat' ((with_reducible first|refine wr ?_|refine k_cu ?_ ?_|refine wb2 ?_ ?_<;>(intro hb;try simp only [hb])|fail)<;>try simp only [go_sem,seval,a5,a6,hw1])
   refine AC.call (hK' j4 b4 _ _ t A0 (by omega)) ?_;rintro v' H' c7 ⟨r5,j5,g5,l5,b5,rfl,rfl⟩ hc7;rw [A1];obtain ⟨x7,e7,m7,a7⟩:=D1 x6 r5 (by (try simp)<;>omega);try simp only [A0B,A0E] at m7
   simp only [go_sem,seval,a7,hw1];repeat' ((with_reducible first|refine wr ?_|refine k_cu ?_ ?_|refine wb2 ?_ ?_<;>(intro hb;try simp only [hb])|fail)<;>try simp only [go_sem,seval,a7,hw1])
   exact ⟨_,_,GL.refl _ _,x7,j5,by rw [e7,e6,e5,e4,e3,e2,e1];exact .ifC g1 g2 g4 g5,by omega,b5,rfl,rfl⟩
  obtain rfl:q=0:=by omega
  simp only [go_sem,seval];repeat' ((with_reducible first|refine wr ?_|refine k_cu ?_ ?_|refine wb2 ?_ ?_<;>(intro hb;try simp only [hb])|fail)<;>try simp only [go_sem,seval])
  exact ⟨_,_,GL.refl _ _,x3,j3,by rw [e3,e2,e1];exact .ifA g1 g2,by omega,b3,rfl,rfl⟩
 omega
def A3c (ss:List (List UInt8)):List UInt8:=ss.foldl (fun a x=>(a++[32])++x) [123]
theorem A6v (ss:List (List UInt8)) (x:List UInt8):A3c (ss++[x])=(A3c ss++[32])++x:=by unfold A3c;rw [A4B];rfl
def BkG (P:List UInt8->Prop) (s:List UInt8):Prop:=∃ ss:List (List UInt8),ss.length<=3/\(∀ x∈ss,P x)/\s=A3c ss++[32,125]
theorem B5l (L:List UInt8) (hL:L.length<=300) (w:Nat) (D:Int) (sb:Nat) (hsb:sb<=10000000) (P:List UInt8->Prop) (hS:MC 131 [I64 D] L w sb P) :
  MC 81 [I64 D] L w (3 * sb+10) (BkG P):=by
 intro i hi H cc t ht htc;refine AC.bodyT A6 rfl (A0A rfl) fun hfr=>?_;repeat' ((with_reducible first|refine wr ?_|refine k_cu ?_ ?_|refine wb2 ?_ ?_<;>(intro hb;try simp only [hb])|fail)<;>try simp only [go_sem,seval])
 refine AC.call (T7 L hL w 4 (by decide) (by decide) i hi _ _ t ht (by omega)) ?_;rintro v' H' c2 ⟨k,j,hlt,hj,rfl,rfl⟩ hc2;simp only [go_sem,seval];repeat' ((with_reducible first|refine wr ?_|refine k_cu ?_ ?_|refine wb2 ?_ ?_<;>(intro hb;try simp only [hb])|fail)<;>try simp only [go_sem,seval])
 refine D3 (fun q:Nat × Nat × List (List UInt8)=>[(0,.ptr t 0),(1,I64 D),(5,.str (A3c q.2.2)),(6,I64 q.1)]) (fun q=>H.upd t (mkB L w q.2.1))
  (fun q c=>cc<=c/\q.1+q.2.2.length<=3/\q.2.1<=300/\(∀ x∈q.2.2,P x)/\(A3c q.2.2).length<=1+q.2.2.length * (sb+1)) (fun q=>q.1) (k,j,[])
  (by simp [C7,tm,Tm.upd,A3c]) (Sub.refl _) ⟨hc2,(by show k+0<=3;omega),hj,(fun x hx=>absurd hx (List.not_mem_nil)),(by show 1<=1+0 * _;omega)⟩ ?_
 rintro ⟨n,i2,ss⟩ c ⟨hc,hn,hi2,hP,hl⟩;dsimp only at hc hn hi2 hP hl ⊢;have hs3:ss.length * (sb+1)<=3 * (sb+1):=A1V _ (by omega);by_cases h0:0<n
 ·have qn:decide ((n:Int)>0)=true:=by simpa using h0
  have hs2:ss.length * (sb+1)<=2 * (sb+1):=A1V _ (by omega);obtain ⟨n,rfl⟩:∃ m,n=m+1:=⟨n-1,by omega⟩;have hw1:IntKind.i64.wrap (((n+1:Nat):Int)-1)=(n:Int):=by rw [w64 (by omega) (by omega)];omega
  generalize hn1:((n+1:Nat):Int)=N1 at qn hw1 ⊢;obtain ⟨x1,e1,m1,a1⟩:=D1 (A3c ss) [32] (by (try simp)<;>omega);try simp only [A0B,A0E] at m1
  repeat' ((with_reducible first|refine wr ?_|refine k_cu ?_ ?_|refine wb2 ?_ ?_<;>(intro hb;try simp only [hb])|fail)<;>try simp only [go_sem,seval,qn,a1])
  refine AC.call (hS i2 hi2 _ _ t A0 (by omega)) ?_;rintro v' H' c3 ⟨r,i3,g,l,hi3,rfl,rfl⟩ hc3;obtain ⟨x2,e2,m2,a2⟩:=D1 x1 r (by omega);rw [A1];simp only [go_sem,seval,a1,a2,hw1];repeat' ((with_reducible first|refine wr ?_|refine k_cu ?_ ?_|refine wb2 ?_ ?_<;>(intro hb;try simp only [hb])|fail)<;>try simp only [go_sem,seval,a1,a2,hw1])
  refine ⟨(n,i3,ss++[r]),?_,Sub.refl _,inv ⟨by omega,by simp;omega,hi3,?_,?_⟩,by simp only;omega⟩
  ·rw [e1] at e2;simp [C7,tm,Tm.upd,A6v,e2]
  ·intro x hx;rcases A1I.1 hx with hx|hx
   ·exact hP x hx
   ·rw [A0Y.1 hx];exact g
  ·rw [A6v, <- e1, <- e2,A0D,A0I,A2P];omega
 ·obtain rfl:n=0:=by omega
  obtain ⟨x1,e1,m1,a1⟩:=D1 (A3c ss) [32,125] (by (try simp)<;>omega);try simp only [A0B,A0E] at m1
  repeat' ((with_reducible first|refine wr ?_|refine k_cu ?_ ?_|refine wb2 ?_ ?_<;>(intro hb;try simp only [hb])|fail)<;>try simp only [go_sem,seval,a1])
  exact ⟨_,_,GL.refl _ _,x1,i2,⟨ss,by omega,hP,e1⟩,by omega,hi2,rfl,rfl⟩
def StD (L:List UInt8) (w:Nat):Nat->List UInt8->Prop
 | 0=>StG L w fun _=>False
 | d+1=>StG L w (BkG (StD L w d))
def sbD:Nat->Nat
 | 0=>8000
 | d+1=>2 * (3 * sbD d+10)+8000
theorem B9m (L:List UInt8) (hL:L.length<=300) (w:Nat) (hw:w<=100):∀ d:Nat,d<=2->MC 131 [I64 d] L w (sbD d) (StD L w d)
 | 0,_=>c_Stmt L hL w hw 0 (by omega) (by omega) 0 (by omega) _ (.inl (by omega))
 | d+1,h=>by
  have hs:∀ d,d<=2->sbD d<=1000000:=by decide
  have h1:=B9m L hL w hw d (by omega);have h2:=B5l L hL w (d:Int) (sbD d) (by have:=hs d (by omega);omega) _ h1;have e:(((d+1:Nat):Int)-1)=(d:Int):=by omega
  refine c_Stmt L hL w hw ((d+1:Nat):Int) (by omega) (by omega) (3 * sbD d+10) (by have:=hs d (by omega);omega) _ (.inr ?_);rw [e];exact h2
theorem C7k (L:List UInt8) (hL:L.length<=300) (w:Nat) (hw:w<=100):MC 81 [I64 2] L w 2000000 (BkG (StD L w 2)):=by
 intro i hi H cc t ht htc;refine (B5l L hL w ((2:Nat):Int) (sbD 2) (by decide) _ (B9m L hL w hw 2 (by omega)) i hi H cc t ht htc).mono ?_;rintro v H' c' ⟨s,j,h1,h2,h3⟩;exact ⟨s,j,h1,A1J h2 (by decide),h3⟩
def B7n:List (List UInt8):=[[115,116,97,114,116],[115,116,111,112],[99,108,111,115,101,32,115,119,48],[111,112,101,110,32,115,119,48],[99,108,111,115,101,32,115,119,49],[99,108,111,115,101,32,115,119,50],[116,105,109,101,114,32,116,109,48],[116,105,109,101,114,32,116,109,49],[101,118,101,110,116,32,101,118,48],[101,118,101,110,116,32,101,118,49],[111,112,101,110,32,115,119,51]]
def C5n:List DV:=[.str [115,116,97,114,116],.str [115,116,111,112],.str [99,108,111,115,101,32,115,119,48],.str [111,112,101,110,32,115,119,48],.str [99,108,111,115,101,32,115,119,49],.str [99,108,111,115,101,32,115,119,50],.str [116,105,109,101,114,32,116,109,48],.str [116,105,109,101,114,32,116,109,49],.str [101,118,101,110,116,32,101,118,48],.str [101,118,101,110,116,32,101,118,49],.str [111,112,101,110,32,115,119,51]]
theorem B7m {k:Nat} (h:k<11):C5n[k]? = some (.str (B7n.getD k [])):=by
 match k,h with
 | 0,_=>rfl
 | 1,_=>rfl
 | 2,_=>rfl
 | 3,_=>rfl
 | 4,_=>rfl
 | 5,_=>rfl
 | 6,_=>rfl
 | 7,_=>rfl
 | 8,_=>rfl
 | 9,_=>rfl
 | 10,_=>rfl
inductive HdG (L:List UInt8) (w k:Nat):List UInt8->Prop where
 | std {x:List UInt8}:BkG (StD L w 2) x->HdG L w k ((([111,110,32]++B7n.getD (k % 11) [])++[32])++x)
 | wild {n x:List UInt8}:0<w->NmS L w [115,119] 4 n->BkG (StD L w 2) x->HdG L w k ((([111,110,32]++([99,108,111,115,101,32]++n))++[32])++x)
theorem B6m (L:List UInt8) (hL:L.length<=300) (w:Nat) (hw:w<=100) (k:Nat) (hk:k<=1000):MC 43 [I64 k] L w 2001000 (HdG L w k):=by
 intro i hi H cc t ht htc;refine AC.bodyT A6 rfl (A0A rfl) fun hfr=>?_;have hrm:binR .rem (I64 (k:Int)) (.int .i64 11)=some (I64 ((k % 11:Nat):Int)):=by rw [A8f (by decide)];rfl
 repeat' ((with_reducible first|refine wr ?_|refine k_cu ?_ ?_|refine wb2 ?_ ?_<;>(intro hb;try simp only [hb])|fail)<;>try simp only [go_sem,seval,hrm])
 have hm11:=Nat.mod_lt k (show 0<11 by decide);have hld:=B7m hm11;have hg:=O8 (l:=B7n) (n:=10) (by decide) (k % 11);have hcon:∀ x,BkG (StD L w 2) x->HdG L w k ((([111,110,32]++B7n.getD (k % 11) [])++[32])++x):=fun x hx=>.std hx;generalize k % 11=m at hm11 hld hg hcon ⊢;generalize B7n.getD m []=tr at hld hg hcon ⊢;have hia:Q6 1 (.slc cc 0 11) (I64 (m:Int))=some (.ptr cc m):=by simp [Q6];omega
 rw [show ([.str [115,116,97,114,116],.str [115,116,111,112],.str [99,108,111,115,101,32,115,119,48],.str [111,112,101,110,32,115,119,48],.str [99,108,111,115,101,32,115,119,49],.str [99,108,111,115,101,32,115,119,50],.str [116,105,109,101,114,32,116,109,48],.str [116,105,109,101,114,32,116,109,49],.str [101,118,101,110,116,32,101,118,48],.str [101,118,101,110,116,32,101,118,49],.str [111,112,101,110,32,115,119,51]]:List DV)=C5n from rfl];generalize C5n=WL at hld ⊢;have ne0:=Q3 t cc (by omega);have kB:∀ (i2 c0:Nat) (tx:List UInt8),i2<=300->cc+1<=c0->tx.length<=300->(∀ x,BkG (StD L w 2) x->HdG L w k ((([111,110,32]++tx)++[32])++x)) ->
   IW Tryz.prog 34 (pz Tryz.prog 43 (.i (.i (.o .h)))) ⟨tm [(0,.ptr t 0),(5,.str tx)],(H.upd cc ⟨1,true,WL⟩).upd t (mkB L w i2),c0⟩ (rt [.tmp 4] fun v H' c' => ∃ v2 H2,GL H' [v] H2 [v2]/\∃ s j,HdG L w k s/\s.length<=2001000/\j<=300/\v2=.str s/\H2=H.upd t (mkB L w j)):=by
  intro i2 c0 tx hi2 hc0 htx hx;obtain ⟨x1,e1,m1,a1⟩:=D1 [111,110,32] tx (by (try simp)<;>omega);try simp only [A0B,A0E] at m1
  obtain ⟨x2,e2,m2,a2⟩:=D1 x1 [32] (by (try simp)<;>omega);try simp only [A0B,A0E] at m2
  repeat' ((with_reducible first|refine wr ?_|refine k_cu ?_ ?_|refine wb2 ?_ ?_<;>(intro hb;try simp only [hb])|fail)<;>try simp only [go_sem,seval,a1,a2])
  refine AC.call (C7k L hL w hw i2 hi2 _ _ t A0 (by omega)) ?_;rintro v' H' c3 ⟨r,j,g,l,b,rfl,rfl⟩ hc3;obtain ⟨x3,e3,m3,a3⟩:=D1 x2 r (by omega);rw [A1];simp only [go_sem,seval,a3];repeat' ((with_reducible first|refine wr ?_|refine k_cu ?_ ?_|refine wb2 ?_ ?_<;>(intro hb;try simp only [hb])|fail)<;>try simp only [go_sem,seval,a3])
  refine ⟨_,_,GL.less' (fun j2 q hj=>?_),x3,j,by rw [e3,e2,e1];exact hx r g,by omega,b,rfl,rfl⟩;by_cases e:j2=t
  ·subst e;rw [A0] at hj ⊢;exact hj
  ·rw [A2 e] at hj ⊢;have:j2≠cc:=by rintro rfl;rw [hfr _ (by omega)] at hj;cases hj
   rw [A2 this];exact hj
 simp only [go_sem,seval,ne0,hia,hld,A0,ht];by_cases h0:0<w
 ·have q0:decide ((w:Int)>0)=true:=by simpa using h0
  repeat' ((with_reducible first|refine wr ?_|refine k_cu ?_ ?_|refine wb2 ?_ ?_<;>(intro hb;try simp only [hb])|fail)<;>try simp only [go_sem,seval,ne0,hia,hld,A0,ht,q0])
  refine AC.call (T7 L hL w w h0 (by omega) i hi _ _ t (by rw [A2 (by omega)];exact ht) (by omega)) ?_;rintro v' H' c2 ⟨q,j,hq,hj,rfl,rfl⟩ hc2;by_cases q1:q=1
  ·subst q1;simp only [go_sem,seval];repeat' ((with_reducible first|refine wr ?_|refine k_cu ?_ ?_|refine wb2 ?_ ?_<;>(intro hb;try simp only [hb])|fail)<;>try simp only [go_sem,seval])
   refine AC.call (N0 L hL w hw [115,119] (by decide) 4 (by decide) (by decide) j hj _ _ t A0 (by omega)) ?_;rintro v' H' c3 ⟨r,j2,g,l,b,rfl,rfl⟩ hc3;obtain ⟨x1,e1,m1,a1⟩:=D1 [99,108,111,115,101,32] r (by (try simp)<;>omega);try simp only [A0B,A0E] at m1
   rw [A1];simp only [go_sem,seval,a1];repeat' ((with_reducible first|refine E1 (p:=IW _ _ (pz Tryz.prog 43 (.i (.i (.o .h)))) _ _) ?_|refine wr ?_|refine k_cu ?_ ?_|refine wb2 ?_ ?_<;>(intro hb;try simp only [hb])|fail)<;>try simp only [go_sem,seval,a1])
   exact IW.stage (by simp [C7,tm,Tm.upd]) (kB j2 _ x1 b (by omega) (by omega) (fun x hx=>by rw [e1];exact .wild h0 g hx))
  ·have qq:((q:Int) == 1)=false:=by simp;omega
   simp only [go_sem,seval,qq];repeat' ((with_reducible first|refine E1 (p:=IW _ _ (pz Tryz.prog 43 (.i (.i (.o .h)))) _ _) ?_|refine wr ?_|refine k_cu ?_ ?_|refine wb2 ?_ ?_<;>(intro hb;try simp only [hb])|fail)<;>try simp only [go_sem,seval,qq])
   exact IW.stage (by simp [C7,tm,Tm.upd]) (kB j _ tr hj (by omega) (by omega) hcon)
 ·have q0:decide ((w:Int)>0)=false:=by simpa using h0
  repeat' ((with_reducible first|refine E1 (p:=IW _ _ (pz Tryz.prog 43 (.i (.i (.o .h)))) _ _) ?_|refine wr ?_|refine k_cu ?_ ?_|refine wb2 ?_ ?_<;>(intro hb;try simp only [hb])|fail)<;>try simp only [go_sem,seval,ne0,hia,hld,A0,ht,q0])
  have:=kB i (cc+1) tr hi (A0F _) (by omega) hcon;rw [upd_same (by rw [A2 (by omega)];exact ht)] at this;exact IW.stage (by simp [C7,tm,Tm.upd]) this
end Go.Proofs.YthlpinppaclofaaGreatDoor
end

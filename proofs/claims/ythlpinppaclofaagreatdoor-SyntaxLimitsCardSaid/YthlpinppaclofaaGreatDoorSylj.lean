/-
  HELPERS of the claim: part 10 of its texts.
-/
import Derived.Test.YthlpinppaclofaaGreatDoorSyli
noncomputable section
set_option maxHeartbeats 4000000
set_option maxRecDepth 100000
set_option linter.unusedSimpArgs false
set_option linter.unusedVariables false
namespace Go.Proofs.YthlpinppaclofaaGreatDoor
open Go.Eng (IC IOper DReg IFn B5)
open Go.Sym Go.Pb
theorem slcMv {ρ ρ':Ren} {id id' o n:Nat} {v:Value} (h1 : ρ.nm id = ρ'.nm id') (h:VRel ρ (.slc id o n) v):VRel ρ' (.slc id' o n) v:=by
 cases h with|slc _ _ _ c t h hc hm hr hp=>exact .slc id' o n c t (h1▸h) hc hm hr hp
def OwL (f:Nat) (args:List DV) (l:List (List UInt8)):Prop:=∀ (H:Hp) (c:Nat),AC Tryz.prog f args H c (fun v H' c'=>v=.slc c 0 l.length/\H'=H.upd c ⟨1,true,l.map DV.str⟩/\c'=c+1)
theorem OwL.of {f:Nat} {args:List DV} {l:List (List UInt8)} (na:DV.nlL args=true) (h:AC Tryz.prog f args nil 0 (fun v H' _ => ∃ id,v=.slc id 0 l.length/\H'=nil.upd id ⟨1,true,l.map DV.str⟩)):OwL f args l:=fun H c =>
 AC.own (V:=fun id=>.slc id 0 l.length) h na (fun d hd=>by obtain ⟨x, -,rfl⟩:=List.mem_map.1 hd;rfl) (fun ρ ρ' id id' v h1 _ h3=>slcMv h1 h3) H c
theorem P9 {H H':Hp} {id n:Nat} {b:Blk} (hb:H id=some b) (h:∀ j,j≠id->H' j=none\/H' j=H j) (hi:H' id=some b):GL H [.slc id 0 n] H' [.slc id 0 n] :=
 GL.less fun j=>by
  by_cases e:j=id
  ·subst e;right;rw [hi,hb]
  ·exact h j e
theorem c_pr1 (k v:Int) (n:List UInt8) (a:List Ex) (p:Int) (x:Ex) (i:Nat) (hx:a[i]? = some x) (hi:i<=1) (l:List (List UInt8)) (hP:OwL 65 [x.v] l) (hl:l.length<=100000000) (h1:1<=l.length)
  (H:Hp) (c t:Nat) (ht:H t=some ⟨0,true,[I64 k,I64 v,.str n,K3 a,I64 p]⟩) (htc:t<c) :
  AC Tryz.prog 110 [I64 i,.ptr t 0] H c (fun r H' c' => ∃ id,c<=id/\id<c'/\r=.slc id 0 (wrL k x.kind i l).length/\H'=H.upd id ⟨1,true,(wrL k x.kind i l).map DV.str⟩):=by
 have hw:PC Tryz.prog 111 [.agg [I64 k,I64 v,.str n,K3 a,I64 p],I64 i] (.bool (Y6 k x.kind i)):=by
  have:=c_wrapped (.mk k v n a p) x i hx hi;rw [Ex.v_w] at this;exact this
 have hxm:(a.map Ex.v)[i]? = some x.v:=by rw [List.getElem?_map,hx];rfl
 rw [Ex.v_w] at hP hxm;refine AC.bodyT A7 rfl (Nat.le_of_ble_eq_true rfl) fun hfr=>?_;repeat' ((with_reducible first|refine wr ?_|refine k_cu ?_ ?_|refine wb2 ?_ ?_<;>(intro hb;try simp only [hb])|fail)<;>try simp only [go_sem,seval,ht,hxm,Ex.v_w])
 refine AC.call (hP H c) ?_;rintro _ _ _ ⟨rfl,rfl,rfl⟩ -;have ht':(H.upd c ⟨1,true,l.map DV.str⟩) t=some ⟨0,true,[I64 k,I64 v,.str n,K3 a,I64 p]⟩:=by rw [A2 (by omega)];exact ht
 have ne0:=O1 c (c+1) (c+2) (c+3) (c+4) (by omega);obtain ⟨R,hR⟩:∃ R,R=wrL k x.kind i l:=⟨_,rfl⟩;rw [<- hR];unfold wrL at hR;cases hb:Y6 k x.kind i with
 | false =>
  rw [hb] at hw hR;rw [if_neg Bool.false_ne_true] at hR;simp only [go_sem,seval,ht',ne0];repeat' ((with_reducible first|refine wr ?_|refine cpc hw ?_|refine k_cu ?_ ?_|refine wb2 ?_ ?_<;>(intro hb;try simp only [hb])|fail)<;>try simp only [go_sem,seval,ht',ne0])
  subst hR;exact ⟨_,_,GL.refl _ _,c,Nat.le_refl _,Nat.lt_succ_self _,rfl,rfl⟩
 | true =>
  rw [hb] at hw hR;rw [if_pos rfl] at hR;simp only [go_sem,seval,ht',ne0];have tk:List.take l.length (l.map DV.str)=l.map DV.str:=List.take_of_length_le (by simp);repeat' ((with_reducible first|refine wr ?_|refine cpc hw ?_|refine k_cu ?_ ?_|refine wb2 ?_ ?_<;>(intro hb;try simp only [hb])|fail)<;>try simp only [go_sem,seval,ht',ne0,tk])
  refine D1 (E0 (by simp) (by omega) (by omega)) ?_;simp only [go_sem,seval,ne0,A0];repeat' ((with_reducible first|refine wr ?_|refine k_cu ?_ ?_|refine wb2 ?_ ?_<;>(intro hb;try simp only [hb])|fail)<;>try simp only [go_sem,seval,ne0,tk,A0])
  refine D1 (E0 (by simp;omega) (by omega) (by omega)) ?_;simp only [go_sem,seval,ne0,A0];repeat' ((with_reducible first|refine wr ?_|refine k_cu ?_ ?_|refine wb2 ?_ ?_<;>(intro hb;try simp only [hb])|fail)<;>try simp only [go_sem,seval,ne0,tk,A0])
  have hlen:R.length=1+l.length+1:=by rw [hR];simp;omega
  rw [<- hlen];refine ⟨_,H.upd (c+1+1+1+1) ⟨1,true,R.map DV.str⟩,P9 (A0) (fun j hj=>?_) (by rw [A0,hR];simp),c+1+1+1+1,by omega,by omega,rfl,rfl⟩;rw [A2 hj];by_cases hjc:c<=j
  ·exact .inl (hfr j hjc)
  ·right;simp only [Hp.upd,Hp.del];rw [if_neg hj,if_neg (by omega),if_neg (by omega),if_neg (by omega),if_neg (by omega),if_neg (by omega),if_neg (by omega)]
theorem xt_len (e:Ex):1<=(txT (exT e)).length/\(txT (exT e)).length<=5 * e.sz:=by
 have:=A8o e;unfold txT;rw [List.length_map];omega
theorem wr_len (k q:Int) (i:Nat) {l:List (List UInt8)} (h:l.length<=100000000):(wrL k q i l).length<=100000002:=by
 unfold wrL;split
 ·simp;omega
 ·omega
theorem c_printed:∀ (m:Nat) (e:Ex),e.sz<m->e.sz<=10000000->(∃ o d,msM e=some (o,d))->OwL 65 [e.v] (txT (exT e)):=by
 intro m
 induction m with
 | zero=>intro e h;omega
 | succ m ih =>
 rintro ⟨k,v,n,a,p⟩ hm hB ⟨o,d,hms⟩;obtain ⟨i1,i2,i3,i4, -,i6⟩:=ms_inv hms;have hargs:∀ (i:Nat) (x:Ex),a[i]? = some x->OwL 65 [x.v] (txT (exT x)):=fun i x hx=>by
  have hmem:=List.mem_of_getElem? hx;have hsz:=Ex.sz_arg (e:=.mk k v n a p) hmem;refine ih x (by omega) (by omega) ?_;have hlt:=(List.getElem?_eq_some_iff.1 hx).1;obtain ⟨d',h1, -⟩:=i6 (by omega);exact msL_some h1 x hmem
 have hlv:=c_levS k;have hsg:=c_signOf k;have hlen:∀ (i:Nat) (x:Ex),a[i]? = some x->1<=(txT (exT x)).length/\(txT (exT x)).length<=100000000:=fun i x hx=>by
  have h1:=xt_len x;have h2:=Ex.sz_arg (e:=.mk k v n a p) (List.mem_of_getElem? hx);omega
 refine OwL.of (by simp [DV.nlL,DV.nl,Ex.nl]) ?_;refine AC.bodyT A7 rfl (Nat.le_of_ble_eq_true rfl) fun hfr=>?_;rw [Ex.v_w];dsimp only [Ex.w,Ex.kind,Ex.value,Ex.name,Ex.args,Ex.pos];obtain ⟨R,hR⟩:∃ R,R=txT (exT (.mk k v n a p)):=⟨_,rfl⟩;rw [<- hR];by_cases l6:D6 k=6
 ·have hk:k=10\/k=11:=by
   unfold D6 at l6;repeat' split at l6
   all_goals omega
  have hc:L6 k=1:=by unfold L6;rw [if_pos l6]
  have m6:(D6 k == 6)=true:=by simpa using l6
  obtain ⟨x,rfl⟩:∃ x,a=[x]:=List.length_eq_one_iff.1 (i2.trans hc);rw [tx_un hk] at hR;repeat' ((with_reducible first|refine wr ?_|refine cpc hlv ?_|refine cpc hsg ?_|refine k_cu ?_ ?_|refine wb2 ?_ ?_<;>(intro hb;try simp only [hb])|fail)<;>try simp only [go_sem,seval,m6])
  refine AC.call (c_pr1 k v n [x] p x 0 rfl (by decide) _ (hargs 0 x rfl) (hlen 0 x rfl).2 (hlen 0 x rfl).1 _ _ 0 (by simp only [go_sem,seval]) (by decide)) ?_;rintro _ _ c2 ⟨id,hid,hid2,rfl,rfl⟩ -;have hW:=wr_len k x.kind 0 (hlen 0 x rfl).2;generalize wrL k x.kind 0 (txT (exT x))=W at hR hW ⊢;have tk:List.take W.length (W.map DV.str)=W.map DV.str:=List.take_of_length_le (by simp);have ne0:=T4 0 1 id c2 (by omega);simp only [go_sem,seval,ne0,A0,tk];repeat' ((with_reducible first|refine wr ?_|refine k_cu ?_ ?_|refine wb2 ?_ ?_<;>(intro hb;try simp only [hb])|fail)<;>try simp only [go_sem,seval,ne0,A0,tk])
  refine D1 (E0 (by simp) (by omega) (by omega)) ?_;simp only [go_sem,seval,ne0,A0];repeat' ((with_reducible first|refine wr ?_|refine k_cu ?_ ?_|refine wb2 ?_ ?_<;>(intro hb;try simp only [hb])|fail)<;>try simp only [go_sem,seval,ne0,A0])
  have hl:R.length=1+W.length:=by rw [hR];simp;omega
  rw [<- hl];exact ⟨_,nil.upd c2 ⟨1,true,R.map DV.str⟩,P9 A0 (fun j hj=>.inl (by rw [A2 hj];rfl)) (by rw [A0,hR];simp),c2,rfl,rfl⟩
 have m6:(D6 k == 6)=false:=by simpa using l6
 by_cases l5:D6 k<6
 ·have m5:decide (D6 k<6)=true:=by simpa using l5
  have hc:L6 k=2:=by unfold L6;rw [if_neg l6,if_pos l5]
  obtain ⟨x,y,rfl⟩:∃ x y,a=[x,y]:=by
   have:=i2.trans hc
   match a with
   | [x,y]=>exact ⟨x,y,rfl⟩
  rw [tx_bin l5] at hR;repeat' ((with_reducible first|refine wr ?_|refine cpc hlv ?_|refine cpc hsg ?_|refine k_cu ?_ ?_|refine wb2 ?_ ?_<;>(intro hb;try simp only [hb])|fail)<;>try simp only [go_sem,seval,m6,m5])
  refine AC.call (c_pr1 k v n [x,y] p x 0 rfl (by decide) _ (hargs 0 x rfl) (hlen 0 x rfl).2 (hlen 0 x rfl).1 _ _ 0 (by simp only [go_sem,seval]) (by decide)) ?_;rintro _ _ c2 ⟨id,hid,hid2,rfl,rfl⟩ -;have hW:=wr_len k x.kind 0 (hlen 0 x rfl).2;generalize wrL k x.kind 0 (txT (exT x))=W at hR hW ⊢;have hW2:=wr_len k y.kind 1 (hlen 1 y rfl).2;have tk:List.take W.length (W.map DV.str)=W.map DV.str:=List.take_of_length_le (by simp);have ne0:=K0 0 id c2 (by omega);simp only [go_sem,seval,ne0,A0,tk];refine ⟨by and_intros<;>(repeat rw [A2 (by omega)])<;>rfl,?_⟩;refine cpc hsg ?_;simp only [go_sem,seval,ne0,A0,tk,m6,m5];refine ⟨by rw [A2 (by omega)];rfl,?_⟩;rw [A2 (show ¬ id=6 by omega),A0];refine N1 (E0 (by simp) (by omega) (by omega)) ?_;simp only [go_sem,seval,ne0,A0,tk,m6,m5];obtain ⟨M,hM⟩:∃ M,M=((((nil.upd 0 ⟨0,true,[I64 k,I64 v,.str n,K3 [x,y],I64 p]⟩).upd id ⟨1,true,W.map DV.str⟩).upd 6 ⟨1,true,[DV.str (A4t k)]⟩).del id).upd c2 ⟨1,true,W.map DV.str++[DV.str (A4t k)]⟩:=⟨_,rfl⟩;rw [<- hM];have hM8:M 8=none:=by rw [hM];simp only [Hp.upd,Hp.del];(repeat rw [if_neg (by omega)]);rfl
  have hM0:M 0=some ⟨0,true,[I64 k,I64 v,.str n,K3 [x,y],I64 p]⟩:=by rw [hM];simp only [Hp.upd,Hp.del];(repeat rw [if_neg (by omega)]);rfl
  have hMc:M c2=some ⟨1,true,W.map DV.str++[DV.str (A4t k)]⟩:=by rw [hM];exact A0
  clear hM;refine ⟨hM8,?_⟩;refine AC.call (c_pr1 k v n [x,y] p y 1 rfl (by decide) _ (hargs 1 y rfl) (hlen 1 y rfl).2 (hlen 1 y rfl).1 _ _ 0 hM0 (by omega)) ?_;rintro _ _ c3 ⟨id2,hid3,hid4,rfl,rfl⟩ -;generalize wrL k y.kind 1 (txT (exT y))=W2 at hR hW2 ⊢;have tk2:List.take W2.length (W2.map DV.str)=W2.map DV.str:=List.take_of_length_le (by simp);have hMc2:(M.upd id2 ⟨1,true,W2.map DV.str⟩) c2=some ⟨1,true,W.map DV.str++[DV.str (A4t k)]⟩:=by rw [A2 (by omega)];exact hMc
  have ne0:=K0 0 id2 c3 (by omega);simp only [go_sem,seval,ne0,A0,tk2,hMc2];refine N1 (E0 (by simp) (by omega) (by omega)) ?_;simp only [go_sem,seval,ne0,A0];repeat' ((with_reducible first|refine wr ?_|refine k_cu ?_ ?_|refine wb2 ?_ ?_<;>(intro hb;try simp only [hb])|fail)<;>try simp only [go_sem,seval,ne0,A0])
  have hl:R.length=W.length+1+W2.length:=by rw [hR];simp;omega
  rw [<- hl];exact ⟨_,nil.upd c3 ⟨1,true,R.map DV.str⟩,P9 A0 (fun j hj=>.inl (by rw [A2 hj];rfl)) (by rw [A0,hR];simp),c3,rfl,rfl⟩
 have m5:decide (D6 k<6)=false:=by simpa using l5
 have l7:D6 k=7:=by have:=lev_range k;omega
 have hc:L6 k=0:=by unfold L6;rw [if_neg l6,if_neg l5]
 obtain rfl:a=[]:=List.eq_nil_of_length_eq_zero (i2.trans hc);rw [tx_leaf l7 i1 i3 i4] at hR;by_cases h1:k=1
 ·subst h1;rw [if_pos rfl] at hR;repeat' ((with_reducible first|refine wr ?_|refine cpc hlv ?_|refine cpc hsg ?_|refine k_cu ?_ ?_|refine wb2 ?_ ?_<;>(intro hb;try simp only [hb])|fail)<;>try simp only [go_sem,seval,m6,m5])
  refine AC.call (own_call (xs:=[Tok.v ⟨3,[],v,0⟩]) (u:=4) (id:=1) (c_Text [⟨3,[],v,0⟩] (by simp) ?_) A0 rfl rfl (Z3 [⟨3,[],v,0⟩])) ?_
  ·intro t ht;obtain rfl:=List.mem_singleton.1 ht;have hv:0<=v/\v<=2147483647:=by
    unfold A4j at i4;simp at i4;omega
   exact ⟨by simp,by dsimp only;omega,by dsimp only;omega⟩
  rintro _ _ _ ⟨rfl,rfl,rfl⟩ -;rw [show A2u [⟨3,[],v,0⟩]=R8 v by rw [<- A0f];simp [Lib.join,R5]];simp only [go_sem,seval];repeat' ((with_reducible first|refine wr ?_|refine k_cu ?_ ?_|refine wb2 ?_ ?_<;>(intro hb;try simp only [hb])|fail)<;>try simp only [go_sem,seval])
  exact ⟨_,nil.upd 2 ⟨1,true,R.map DV.str⟩,by rw [hR];exact P9 A0 (fun j hj=>.inl (by rw [A2 hj];rfl)) A0,2,by rw [hR];rfl,rfl⟩
 by_cases h2:k=2
 ·subst h2;rw [if_neg h1,if_pos rfl] at hR;repeat' ((with_reducible first|refine wr ?_|refine cpc hlv ?_|refine cpc hsg ?_|refine k_cu ?_ ?_|refine wb2 ?_ ?_<;>(intro hb;try simp only [hb])|fail)<;>try simp only [go_sem,seval,m6,m5])
  exact ⟨_,nil.upd 1 ⟨1,true,R.map DV.str⟩,by rw [hR];exact P9 A0 (fun j hj=>.inl (by rw [A2 hj];rfl)) A0,1,by rw [hR];rfl,rfl⟩
 rw [if_neg h1,if_neg h2] at hR;have d1:(k == 1)=false:=by simpa using h1
 have d2:(k == 2)=false:=by simpa using h2
 repeat' ((with_reducible first|refine E1 (p:=IW _ _ (pz Tryz.prog 65 (.i (.o (.i (.o (.o .h)))))) _ _) ?_|refine wr ?_|refine cpc hlv ?_|refine cpc hsg ?_|refine k_cu ?_ ?_|refine wb2 ?_ ?_<;>(intro hb;try simp only [hb])|fail)<;>try simp only [go_sem,seval,m6,m5,d1,d2])
 unfold W8;have hr:3<=k/\k<=9:=by
  unfold kOk at i1;simp only [l7,Int.lt_irrefl,decide_false,Bool.false_or,Bool.and_eq_true,decide_eq_true_eq] at i1;have hk9:k<=9:=Classical.byContradiction fun hc=>by
   have:D6 k<7:=by unfold D6;repeat' split;all_goals omega
   omega
  omega
 obtain ⟨j0,hj0,hj7⟩:∃ j0:Nat,G8[j0]? = some k/\j0<7:=by
  have hk9:k=3\/k=4\/k=5\/k=6\/k=7\/k=8\/k=9:=by omega
  rcases hk9 with rfl|rfl|rfl|rfl|rfl|rfl|rfl
  ·exact ⟨0,rfl,by decide⟩
  ·exact ⟨1,rfl,by decide⟩
  ·exact ⟨4,rfl,by decide⟩
  ·exact ⟨5,rfl,by decide⟩
  ·exact ⟨6,rfl,by decide⟩
  ·exact ⟨2,rfl,by decide⟩
  ·exact ⟨3,rfl,by decide⟩
 obtain ⟨w,hw⟩:∃ w,w=O2 F1 G8 k:=⟨_,rfl⟩;refine A8m c_lvs (σ := Option Nat) (fun o=>[(1,.ptr 0 0),(5,B3 o 1)]) (fun o=>C3 (nil.upd 0 ⟨0,true,[I64 k,I64 v,.str n,K3 [],I64 p]⟩) o ⟨1,true,[.str w]⟩)
  (fun D o c=>1<=c/\(∀ i,o=some i->0<i/\i<c/\∃ j∈D,G8[j]? = some k)/\(o=none->∀ j∈D,G8[j]? ≠ some k)) none (by decide) (fun _=>rfl) ⟨rfl,rfl,trivial⟩ (Sub.refl _) ⟨by decide,(by intro i h;cases h),fun _ j hj=>by cases hj⟩ ?_ ?_
 ·rintro D o c ⟨hc1,ho,hno⟩ hall;rcases o with _|id
  ·exact absurd hj0 (hno rfl j0 (hall j0 hj7))
  obtain ⟨g1,g2, -⟩:=ho id rfl;have hnm:=c_namedS k;rw [<- hw] at hR;have ne0:=T4 0 id c (c+1) (by omega);cases hb:A1a k with
  | true =>
   rw [hb] at hnm hR;rw [if_pos rfl] at hR;repeat' ((with_reducible first|refine wr ?_|refine cpc hnm ?_|refine k_cu ?_ ?_|refine wb2 ?_ ?_<;>(intro hb;try simp only [hb])|fail)<;>try simp only [go_sem,seval,ne0,A0])
   refine D1 (E0 rfl (by decide) (by decide)) ?_;simp only [go_sem,seval,ne0,A0];repeat' ((with_reducible first|refine wr ?_|refine k_cu ?_ ?_|refine wb2 ?_ ?_<;>(intro hb;try simp only [hb])|fail)<;>try simp only [go_sem,seval,ne0,A0])
   exact ⟨_,nil.upd (c+1) ⟨1,true,R.map DV.str⟩,by rw [hR];exact P9 A0 (fun j hj=>.inl (by rw [A2 hj];rfl)) A0,c+1,by rw [hR];rfl,rfl⟩
  | false =>
   rw [hb] at hnm hR;rw [if_neg Bool.false_ne_true] at hR;repeat' ((with_reducible first|refine wr ?_|refine cpc hnm ?_|refine k_cu ?_ ?_|refine wb2 ?_ ?_<;>(intro hb;try simp only [hb])|fail)<;>try simp only [go_sem,seval,ne0,A0])
   exact ⟨_,nil.upd id ⟨1,true,R.map DV.str⟩,by rw [hR];exact P9 A0 (fun j hj=>.inl (by rw [A2 hj];rfl)) A0,id,by rw [hR];rfl,rfl⟩
 ·rintro it D o c i kk vv ⟨hc1,ho,hno⟩ hDn hDb hiD hk hv;rw [List.getElem?_map,Option.map_eq_some_iff] at hk hv;obtain ⟨w',hw',rfl⟩:=hk;obtain ⟨u,hu,rfl⟩:=hv;by_cases hx:u=k
  ·subst hx;obtain rfl:w'=w:=by rw [hw];exact (A4a (by decide) hw' hu).symm
   obtain rfl:o=none:=by
    cases o with
    | none=>rfl
    | some id =>
     obtain ⟨-, -,j,hj,hj2⟩:=ho id rfl;have:i=j:=(List.getElem?_inj (List.getElem?_eq_some_iff.1 hu).1 (by decide:G8.Nodup)).1 (hu.trans hj2.symm);exact absurd (this▸hj) hiD
   have ne0:=K0 0 c (c+1) (by omega);repeat' ((with_reducible first|refine wr ?_|refine k_cu ?_ ?_|refine wb2 ?_ ?_<;>(intro hb;try simp only [hb])|fail)<;>try simp only [go_sem,seval,ne0,A0])
   refine D1 (A3v (by decide) (by decide) (by decide)) ?_;simp only [go_sem,seval,ne0,A0];repeat' ((with_reducible first|refine wr ?_|refine k_cu ?_ ?_|refine wb2 ?_ ?_<;>(intro hb;try simp only [hb])|fail)<;>try simp only [go_sem,seval,ne0,A0])
   refine ⟨some (c+1),rfl,fun j b hj=>?_,?_⟩
   ·rw [U3] at hj;by_cases e:j=c+1
    ·subst e;rw [A0] at hj ⊢;exact hj
    ·rw [A2 e] at hj ⊢;by_cases e2:j=0
     ·subst e2;rw [A0] at hj;rw [A2 (by omega),A0];exact hj
     ·rw [A2 e2] at hj;cases hj
   ·unfold A5x;exact ⟨by omega,fun i' hi'=>by cases hi';exact ⟨by omega,by omega,i,List.mem_cons_self,hu⟩,fun h=>by cases h⟩
  ·have hx':(u == k)=false:=by simpa using hx
   have h0b:C3 (nil.upd 0 ⟨0,true,[I64 k,I64 v,.str n,K3 [],I64 p]⟩) o ⟨1,true,[.str w]⟩ 0=some ⟨0,true,[I64 k,I64 v,.str n,K3 [],I64 p]⟩:=by
    cases o with
    | none=>exact A0
    | some id=>rw [U3,A2 (by have:=ho id rfl;omega)];exact A0
   repeat' ((with_reducible first|refine wr ?_|refine k_cu ?_ ?_|refine wb2 ?_ ?_<;>(intro hb;try simp only [hb])|fail)<;>try simp only [go_sem,seval,hx',h0b])
   refine ⟨o,rfl,Sub.refl _,?_⟩;unfold A5x;refine ⟨hc1,fun i' hi'=>?_,fun h j hj=>?_⟩
   ·obtain ⟨g1,g2,j,g3,g4⟩:=ho i' hi';exact ⟨g1,g2,j,List.mem_cons_of_mem _ g3,g4⟩
   ·rcases List.mem_cons.1 hj with rfl|hj
    ·rw [hu];intro e;cases e;exact hx rfl
    ·exact hno h j hj
theorem Z9 (l:List (List UInt8)):A4 (l.map DV.str)=l.map DV.str:=by
 induction l with
 | nil=>rfl
 | cons a l ih=>rw [List.map_cons,A4,List.flatMap_cons];exact congrArg (DV.str a :: ·) ih
theorem join_own {l:List (List UInt8)} {sp:List UInt8} {id cc:Nat} {H:Hp} (hb:H id=some ⟨1,true,l.map DV.str⟩) (h1:l.length<=140737488355328) (h2:(Lib.join l sp).length<=140737488355328) :
  AC Tryz.prog 64 [.slc id 0 l.length,.str sp] H cc (fun v H' c'=>v=.str (Lib.join l sp)/\H'=R2 H (some id)/\c'=cc) :=
 AC.ghost (GL.frzS (id:=id) hb rfl (fun j=>by
  by_cases e:j=id
  ·subst e;exact .inl (by rw [R7,if_pos rfl])
  ·exact .inr ⟨e,by rw [R7,if_neg e]⟩) (.cons _ _ _ _ (M0 (xs:=l.map DV.str) (u:=1) (by simp) (H4 l) ⟨[],by rw [Z9];simp⟩) (.cons _ _ _ _ (.same _) .nil))) ((c_Join l sp h1 h2).at _ cc)
def fmtE (e:Ex):List UInt8:=if A4k e=true then A2u (exT e) else []
theorem vl_ms {e:Ex} (h:A4k e=true):∃ o d,msM e=some (o,d):=by
 unfold A4k at h;split at h
 ·rename_i o d hm;exact ⟨o,d,hm⟩
 ·cases h
theorem c_PFormatE (e:Ex) (hB:e.sz<=100000):PC Tryz.prog 29 [e.v] (.str (fmtE e)):=by
 have hx:=fit_exT e;have hv:=c_ValidExpr e (by omega);refine PC.ofT A7 rfl (Nat.le_of_ble_eq_true rfl) (by simp [DV.nlL,DV.nl,Ex.nl]) rfl ?_;unfold fmtE;cases hb:A4k e with
 | false =>
  rw [hb] at hv;rw [if_neg Bool.false_ne_true];rw [Ex.v_w] at hv ⊢;repeat' ((with_reducible first|refine wr ?_|refine cpc hv ?_|refine k_cu ?_ ?_|refine wb2 ?_ ?_<;>(intro hb;try simp only [hb])|fail)<;>try simp only [go_sem,seval])
  exact A5 rfl
 | true =>
  have hP:=c_printed _ e (Nat.lt_succ_self _) (by omega) (vl_ms hb);rw [hb] at hv;rw [if_pos rfl];rw [Ex.v_w] at hv hP ⊢;repeat' ((with_reducible first|refine wr ?_|refine cpc hv ?_|refine k_cu ?_ ?_|refine wb2 ?_ ?_<;>(intro hb;try simp only [hb])|fail)<;>try simp only [go_sem,seval])
  refine AC.call (hP _ _) ?_;rintro _ _ _ ⟨rfl,rfl,rfl⟩ -;simp only [go_sem,seval];have htl:=A6j hx;have hl:=(xt_len e).2;have hle:(exT e).length=(txT (exT e)).length:=by simp [txT]
  have htj:Lib.join (txT (exT e)) [32]=A2u (exT e):=A0f (exT e);refine AC.call (join_own A0 (by omega) (by rw [htj];omega)) ?_;rintro _ _ _ ⟨rfl,rfl,rfl⟩ -;rw [htj];simp only [go_sem,seval];repeat' ((with_reducible first|refine wr ?_|refine k_cu ?_ ?_|refine wb2 ?_ ?_<;>(intro hb;try simp only [hb])|fail)<;>try simp only [go_sem,seval])
  exact ⟨_,GL.refl _ _⟩
end Go.Proofs.YthlpinppaclofaaGreatDoor
set_option linter.unusedSectionVars false
namespace Go.Pb
variable [Go.Sym.Tab]
open Go.Sym
def I2 (P:St->List (List UInt8)) (l:List St):List (List UInt8):=[123] :: (l.flatMap P++[[125]])
abbrev elseW:List UInt8:=[101,108,115,101]
def A5n (P:St->List (List UInt8)):List St->List (List UInt8)
 | []=>[]
 | [s]=>elseW :: (if s.kind=2 then P s else I2 P [s])
 | s :: s2 :: r=>elseW :: I2 P (s :: s2 :: r)
def A2v (P:St->List (List UInt8)) (k:Int) (x y:List St):List (List UInt8):=if (N2 k).thn=true then I2 P x++A5n P y else [[59]]
def agI:Nat->List Ex->List (List UInt8)
 | _,[]=>[]
 | i,e :: l=>(if 0<i then [[44]] else [])++(txT (exT e)++agI (i+1) l)
def txL (k:Int) (t:List UInt8):List (List UInt8):=if (N2 k).text=true then [S9 t,[44]] else []
def hdL (k:Int) (n:List UInt8):List (List UInt8):=if k=1 then [n,[61]] else O2 B6 U0 k :: (if (N2 k).name=true then [n] else [])
def psL (P:St->List (List UInt8)):St->List (List UInt8)
 | .mk k n t a x y p=>hdL k n++(txL k t++(agI 0 a++A2v P k x y))
theorem tx_1 (x:List UInt8):txT [C8 x]=[x]:=by simp [txT,I8]
theorem H3 (x:List UInt8) (l:List Tok):txT (C8 x :: l)=x :: txT l:=by simp [txT,I8]
theorem L7:txT []=[]:=rfl
theorem V6:∀ l:List St,A0o l=l.flatMap stT
 | []=>rfl
 | s :: l=>by rw [A0o,V6 l,List.flatMap_cons]
theorem A3n (l:List St):txT (A0o l)=l.flatMap fun s=>txT (stT s):=by
 rw [V6,txT,List.map_flatMap];rfl
theorem tx_blk (l:List St):txT (blT l)=I2 (fun s=>txT (stT s)) l:=by
 rw [blT,E2,E2,A3n,tx_1,tx_1];rfl
theorem O5 {n:List UInt8} (h:D3 n=true):txT (G2 n)=[n]:=by simp [G2,h,txT,R5]
theorem tx_text {t:List UInt8} (h:T7 t=true):txT (A4n t)=[S9 t]:=by
 unfold T7 at h;simp only [Bool.and_eq_true,decide_eq_true_eq] at h;have h2:¬ (t.all txB=false\/32<t.length):=by
  rintro (h3|h3)
  ·rw [h3] at h;exact absurd h.1 (by decide)
  ·omega
 unfold A4n;rw [if_neg h2];rfl
theorem stm_key {k:Int} (h1:2<=k) (h2:k<=19):O2 B6 U0 k=B6.getD (k-2).toNat []:=by
 obtain ⟨j,rfl⟩:∃ j:Nat,k=2+(j:Int):=⟨(k-2).toNat,by omega⟩;have hj:j<18:=by omega
 have:∀ j:Nat,j<18->O2 B6 U0 (2+(j:Int))=B6.getD (2+(j:Int)-2).toNat []:=by decide
 exact this j hj
theorem agI1 (e:Ex):agI 0 [e]=txT (exT e):=by simp [agI]
theorem agI2 (e f:Ex):agI 0 [e,f]=txT (exT e)++[44] :: txT (exT f):=by simp [agI]
theorem ps_eq {s:St} {d:Nat} (h:A1y d s=true):psL (fun s=>txT (stT s)) s=txT (stT s):=by
 obtain ⟨k,n,t,a,x,y,p⟩:=s;unfold A1y at h;simp only [Bool.and_eq_true,decide_eq_true_eq,beq_iff_eq] at h;obtain ⟨⟨⟨⟨⟨k1,k2⟩,⟨ha, -⟩⟩,⟨hn,ht⟩⟩,⟨hx,hy⟩⟩, -⟩:=h;rw [psL];obtain ⟨P,hP⟩:∃ P:St->List (List UInt8),P=fun s=>txT (stT s):=⟨_,rfl⟩;rw [<- hP];have hb:I2 P x=[123] :: (txT (A0o x)++[[125]]):=by rw [A3n,hP];rfl
 by_cases c1:k=1
 ·subst c1;obtain ⟨e,rfl⟩:∃ e,a=[e]:=List.length_eq_one_iff.1 ha;have hn':D3 n=true:=hn;show [n,[61]]++([]++(agI 0 [e]++[[59]]))=_;rw [stT,if_pos rfl,E2,E2,E2,O5 hn',tx_1,tx_1,agI1];simp [agT]
 have hkey:=stm_key (k:=k) (by omega) k2;rw [stT,if_neg c1,if_neg (by omega)];dsimp only;rw [<- hkey];unfold hdL;rw [if_neg c1];by_cases c2:k=2
 ·subst c2;obtain ⟨e,rfl⟩:∃ e,a=[e]:=List.length_eq_one_iff.1 ha;show [O2 B6 U0 2]++([]++(agI 0 [e]++(I2 P x++A5n P y)))=_;rw [if_pos (.inl rfl),agI1,hb]
  match y with
  | []=>simp [E2,H3,L7,A5n,agT]
  | [s] =>
   have hbs:I2 P [s]=[123] :: (txT (stT s)++[[125]]):=by simp [I2,hP]
   rw [A5n,hbs];dsimp only;by_cases h2:s.kind=2
   ·rw [if_pos h2,if_pos h2];simp [E2,H3,L7,agT,hP]
   ·rw [if_neg h2,if_neg h2];simp [E2,H3,L7,agT]
  | s :: s2 :: r =>
   have hbs:I2 P (s :: s2 :: r)=[123] :: (txT (A0o (s :: s2 :: r))++[[125]]):=by rw [A3n,hP];rfl
   rw [A5n,hbs];simp [E2,H3,L7,agT]
 by_cases c3:k=3
 ·subst c3;obtain ⟨e,rfl⟩:∃ e,a=[e]:=List.length_eq_one_iff.1 ha;obtain rfl:y=[]:=by cases y with|nil=>rfl|cons a l=>exact absurd (show false=true from hy) (by decide)
  show [O2 B6 U0 3]++([]++(agI 0 [e]++(I2 P x++A5n P [])))=_;rw [if_pos (.inr rfl),agI1,hb];simp [E2,H3,L7,A5n,agT]
 rw [if_neg (by omega:¬ (k=2\/k=3))];by_cases c4:k=4
 ·subst c4;obtain ⟨e,rfl⟩:∃ e,a=[e]:=List.length_eq_one_iff.1 ha;show [O2 B6 U0 4]++([]++(agI 0 [e]++[[59]]))=_;rw [if_pos rfl,agI1];simp [E2,H3,L7,agT]
 rw [if_neg c4];by_cases c18:k=18
 ·subst c18;obtain ⟨e,rfl⟩:∃ e,a=[e]:=List.length_eq_one_iff.1 ha;have ht':T7 t=true:=ht;show [O2 B6 U0 18]++([S9 t,[44]]++(agI 0 [e]++[[59]]))=_;rw [if_pos rfl,agI1];simp [E2,H3,L7,agT,tx_text ht']
 rw [if_neg c18];by_cases c8:k=8\/k=10
 ·have hs:N2 k=⟨true,false,1,false,false⟩:=by rcases c8 with rfl|rfl<;>rfl
  rw [hs] at ha hn;obtain ⟨e,rfl⟩:∃ e,a=[e]:=List.length_eq_one_iff.1 ha;have hn':D3 n=true:=hn;unfold txL A2v;rw [hs,if_pos c8,agI1];simp [E2,H3,L7,agT,O5 hn']
 rw [if_neg c8];by_cases c9:k=9
 ·subst c9;obtain ⟨e,f,rfl⟩:∃ e f,a=[e,f]:=by
   match a,ha with
   | [e,f],_=>exact ⟨e,f,rfl⟩
  have hn':D3 n=true:=hn;show [O2 B6 U0 9,n]++([]++(agI 0 [e,f]++[[59]]))=_;rw [if_pos rfl,agI2];simp [E2,H3,L7,agT,O5 hn']
 rw [if_neg c9];by_cases c19:k=19
 ·subst c19;obtain rfl:a=[]:=List.eq_nil_of_length_eq_zero ha;show [O2 B6 U0 19]++([]++(agI 0 []++[[59]]))=_;rw [if_pos rfl];simp [E2,H3,L7,agI]
 rw [if_neg c19];have hs:N2 k=⟨true,false,0,false,false⟩:=by
  unfold N2;rw [if_neg (by omega),if_neg c9,if_neg c2,if_neg c3,if_neg c4,if_neg c18,if_neg c19]
 rw [hs] at ha hn;obtain rfl:a=[]:=List.eq_nil_of_length_eq_zero ha;have hn':D3 n=true:=hn;unfold txL A2v;rw [hs];simp [E2,H3,L7,agI,O5 hn']
end Go.Pb
namespace Go.Pb
variable [Go.Sym.Tab]
open Go.Sym
def lnT (t:List UInt8):List UInt8:=if t=[59]\/t=[123]\/t=[125] then t++[10] else t++[32]
def R6 (l:List (List UInt8)):List UInt8:=(l.map lnT).flatten
def G9 (Q:Tok->Prop) (l:List Tok):Prop:=∀ t∈l,Q t
structure Clo (Q:Tok->Prop):Prop where
 z:G9 Q [Q6]
 w:∀ x:List UInt8,x.length<=12->G9 Q [C8 x]
 n:∀ x,G9 Q (G2 x)
 v:∀ x,G9 Q (A2i x)
 t:∀ x,G9 Q (A4n x)
section
variable {Q:Tok->Prop} (C:Clo Q)
include C
theorem G9.app {a b:List Tok} (h1:G9 Q a) (h2:G9 Q b):G9 Q (a++b):=fun t ht=>by
 rcases List.mem_append.1 ht with h|h
 ·exact h1 t h
 ·exact h2 t h
theorem q_nil:G9 Q []:=fun t ht=>by cases ht
theorem q_sign (i:Nat):G9 Q [C8 (C4.getD i [])]:=C.w _ (by
 by_cases hi:i<13
 ·have:∀ i:Nat,i<13->(C4.getD i []).length<=12:=by decide
  exact this i hi
 ·rw [List.getD_eq_getElem?_getD,List.getElem?_eq_none (by show 13<=i;omega)];simp)
theorem q_oper {q:Int × List Tok} {m:Int} (h:G9 Q q.2):G9 Q (Q9 q m):=by
 unfold Q9;split
 ·exact ((C.w _ (by decide)).app C h).app C (C.w _ (by decide))
 ·exact h
theorem q_build {k v:Int} {n:List UInt8} {as1:List (Int × List Tok)} (h:∀ q∈as1,G9 Q q.2):G9 Q (I9 k v n as1):=by
 unfold I9;dsimp only;by_cases k1:k=1
 ·rw [if_pos k1];exact C.v v
 rw [if_neg k1];by_cases k2:k=2
 ·rw [if_pos k2];exact C.n n
 rw [if_neg k2];by_cases k3:k=3
 ·rw [if_pos k3];exact C.w _ (by decide)
 rw [if_neg k3];by_cases k4:k=4
 ·rw [if_pos k4];exact C.w _ (by decide)
 rw [if_neg k4];by_cases k8:k=8
 ·rw [if_pos k8];exact C.w _ (by decide)
 rw [if_neg k8];by_cases k9:k=9
 ·rw [if_pos k9];exact C.w _ (by decide)
 rw [if_neg k9];by_cases k5:k=5
 ·rw [if_pos k5];exact (C.w _ (by decide)).app C (C.n n)
 rw [if_neg k5];by_cases k6:k=6
 ·rw [if_pos k6];exact (C.w _ (by decide)).app C (C.n n)
 rw [if_neg k6];by_cases k7:k=7
 ·rw [if_pos k7];exact (C.w _ (by decide)).app C (C.n n)
 rw [if_neg k7]
 match as1,h with
 | [],h=>exact C.z
 | [q],h =>
  dsimp only;by_cases h6:D6 k=6
  ·rw [if_pos h6];refine G9.app C ?_ (q_oper C (h q List.mem_cons_self));by_cases h10:k=10
   ·rw [if_pos h10];exact C.w _ (by decide)
   ·rw [if_neg h10];exact C.w _ (by decide)
  ·rw [if_neg h6];exact C.z
 | [q,r],h =>
  dsimp only;by_cases h6:D6 k<6
  ·rw [if_pos h6];exact ((q_oper C (h q List.mem_cons_self)).app C (q_sign C _)).app C (q_oper C (h r (List.mem_cons_of_mem _ List.mem_cons_self)))
  ·rw [if_neg h6];exact C.z
 | _ :: _ :: _ :: _,h=>exact C.z
theorem q_exT:∀ (e:Ex),G9 Q (exT e):=by
 have:∀ (m:Nat) (e:Ex),e.sz<m->G9 Q (exT e):=by
  intro m
  induction m with
  | zero=>intro e h;omega
  | succ m ih =>
   rintro ⟨k,v,n,a,p⟩ hm;rw [A5l];refine q_build C fun q hq=>?_;obtain ⟨x,hx,rfl⟩:=List.mem_map.1 hq;exact ih x (by have:=Ex.sz_arg (e:=.mk k v n a p) hx;omega)
 exact fun e=>this _ e (Nat.lt_succ_self _)
theorem q_agT (l:List Ex) (i:Nat):G9 Q (agT l i):=by
 unfold agT;split
 ·exact q_exT C _
 ·exact C.z
theorem A2e {α : Type} {f : α -> List Tok} {l:List α} (h:∀ x∈l,G9 Q (f x)):G9 Q (l.flatMap f):=fun t ht=>by
 obtain ⟨x,hx,ht⟩:=List.mem_flatMap.1 ht;exact h x hx t ht
theorem q_stmw (i:Nat):G9 Q [C8 (B6.getD i [])]:=C.w _ (by
 by_cases hi:i<18
 ·have:∀ i:Nat,i<18->(B6.getD i []).length<=12:=by decide
  exact this i hi
 ·rw [List.getD_eq_getElem?_getD,List.getElem?_eq_none (by show 18<=i;omega)];simp)
set_option maxHeartbeats 4000000 in
theorem q_stT:∀ (s:St),G9 Q (stT s):=by
 have:∀ (m:Nat) (s:St),s.sz<m->G9 Q (stT s):=by
  intro m
  induction m with
  | zero=>intro e h;omega
  | succ m ih =>
   rintro ⟨k,n,t,a,x,y,p⟩ hm;rw [St.sz] at hm;have hx:G9 Q (A0o x):=by rw [V6];exact A2e C fun s hs=>ih s (by have:=St.szs_mem hs;omega)
   have hy:∀ s∈y,G9 Q (stT s):=fun s hs=>ih s (by have:=St.szs_mem hs;omega);have hys:G9 Q (A0o y):=by rw [V6];exact A2e C hy
   have hel:G9 Q [C8 [101,108,115,101]]:=C.w _ (by decide);have w0:=q_stmw C (k-2).toNat;have o1:G9 Q [C8 [123]]:=C.w _ (by decide);have o2:G9 Q [C8 [125]]:=C.w _ (by decide);have o3:G9 Q [C8 [59]]:=C.w _ (by decide);have o4:G9 Q [C8 [44]]:=C.w _ (by decide);have o5:G9 Q [C8 [61]]:=C.w _ (by decide);rw [stT];dsimp only;repeat' split
   all_goals repeat' with_reducible first
    | refine G9.app C ?_ ?_
    | assumption
    | exact C.z
    | exact C.n _
    | exact C.t _
    | exact q_agT C _ _
    | exact hy _ List.mem_cons_self
 exact fun e=>this _ e (Nat.lt_succ_self _)
theorem q_blT (l:List St):G9 Q (blT l):=by
 rw [blT,V6];exact ((C.w _ (by decide)).app C (A2e C fun s _=>q_stT C s)).app C (C.w _ (by decide))
theorem q_dcT (d:Dc):G9 Q (dcT d):=by
 have hw:G9 Q [C8 (C5.getD (d.kind-1).toNat [])]:=C.w _ (by
  by_cases hi:(d.kind-1).toNat<8
  ·have:∀ i:Nat,i<8->(C5.getD i []).length<=12:=by decide
   exact this _ hi
  ·rw [List.getD_eq_getElem?_getD,List.getElem?_eq_none (by show 8<=_;omega)];simp)
 have o3:G9 Q [C8 [59]]:=C.w _ (by decide);have o4:G9 Q [C8 [45]]:=C.w _ (by decide);unfold dcT;dsimp only;repeat' split
 all_goals repeat' first
  | assumption
  | exact C.z
  | exact C.n _
  | exact C.v _
  | refine G9.app C ?_ ?_
theorem q_hdT (h:Hd):G9 Q (hdT h):=by
 have hw:G9 Q [C8 (C9.getD (h.trig-1).toNat [])]:=C.w _ (by
  by_cases hi:(h.trig-1).toNat<6
  ·have:∀ i:Nat,i<6->(C9.getD i []).length<=12:=by decide
   exact this _ hi
  ·rw [List.getD_eq_getElem?_getD,List.getElem?_eq_none (by show 6<=_;omega)];simp)
 have o3:G9 Q [C8 [111,110]]:=C.w _ (by decide);unfold hdT;refine (G9.app C (o3.app C hw) ?_).app C (q_blT C _);split
 ·exact C.n _
 ·exact q_nil C
theorem q_ruT (r:Ru):G9 Q (ruT r):=by
 unfold ruT;split
 ·exact C.z
 ·refine (A2e C fun d _=>q_dcT C d).app C (A2e C fun m _=>?_);unfold mdT;exact (((((C.w _ (by decide)).app C (C.n _)).app C (C.v _)).app C (C.w _ (by decide))).app C (A2e C fun h _=>q_hdT C h)).app C (C.w _ (by decide))
end
def fmtR (r:Ru):List UInt8:=if A7l r=true then R6 (txT (ruT r)) else []
end Go.Pb
namespace Go.Proofs.YthlpinppaclofaaGreatDoor
open Go.Eng (IC IOper DReg IFn B5)
open Go.Sym Go.Pb
theorem A5c:∀ l:List (List UInt8),Lib.join l []=l.flatten
 | []=>rfl
 | [a]=>by simp [Lib.join]
 | a :: b :: l=>by
  have:=A5c (b :: l);simp only [Lib.join] at this ⊢;rw [List.flatten_cons, <- this];simp
theorem c_lines (l:List (List UInt8)) (hl:l.length<=1000000000) (hb:∀ t∈l,t.length<=100000):PC Tryz.prog 60 [U2 l] (.str (R6 l)):=by
 refine PC.ofT A7 rfl (Nat.le_of_ble_eq_true rfl) (by simp only [DV.nlL,DV.nl,H8,Bool.and_true]) rfl ?_;repeat' ((with_reducible first|refine wr ?_|refine k_cu ?_ ?_|refine wb2 ?_ ?_<;>(intro hb;try simp only [hb])|fail)<;>try simp only [go_sem,seval])
 refine D5 (fun q:Nat × Option Nat=>[(3,B3 q.2 q.1),(6,U2 l),(7,I64 l.length),(8,I64 q.1)]) (fun q=>C3 Sym.nil q.2 ⟨1,true,((l.take q.1).map lnT).map DV.str⟩)
  (fun q cc=>q.1<=l.length/\(q.2=none->q.1=0)/\∀ i,q.2=some i->i<cc) (fun q=>l.length-q.1) (0,none)
  (by simp [D0,tm,Tm.upd,B3]) (Sub.nil _) ⟨by simp,by simp,by simp⟩ ?_
 rintro ⟨k,o⟩ c ⟨hk,hno,ho⟩;simp only at hk hno ho;simp only;have hkl:((l.take k).map lnT).length=k:=by rw [List.length_map,List.length_take];omega
 by_cases hlt:k<l.length
 ·have hd:decide ((k:Int)<l.length)=true:=by simpa using hlt
  have hg:=List.getElem?_eq_getElem hlt;have hw:IntKind.i64.wrap ((k:Int)+1)=((k+1:Nat):Int):=by rw [w64 (by omega) (by omega)];omega
  have est:((l.take (k+1)).map lnT).map DV.str=((l.take k).map lnT).map DV.str++[DV.str (lnT l[k])]:=by
   rw [List.take_add_one,hg,Option.toList_some,List.map_append,List.map_append];rfl
  have htl:=hb _ (List.getElem_mem hlt);obtain ⟨t,ht⟩:∃ t,t=l[k]:=⟨_,rfl⟩;rw [<- ht] at hg est htl;have hgm:(l.map DV.str)[k]? = some (.str t):=by rw [List.getElem?_map,hg];rfl
  obtain ⟨cs,hcs⟩:∃ cs,cs=((l.take k).map lnT).map DV.str:=⟨_,rfl⟩;have hcl:cs.length=k * 1:=by rw [hcs,List.length_map,hkl,Nat.mul_one]
  rw [<- hcs] at est ⊢;have hno2:o=none->k=0/\cs=[]:=fun e=>⟨hno e,by rw [hcs,hno e];rfl⟩;have ne0:=K0 c (c+1) (c+2) (by omega);have a1:binR .add (.str t) (.str [10])=some (.str (t++[10])):=A7w (by simp [maxLen];omega);have a2:binR .add (.str t) (.str [32])=some (.str (t++[32])):=A7w (by simp [maxLen];omega);repeat' ((with_reducible first|refine wr ?_|refine k_cu ?_ ?_|refine wb2 ?_ ?_<;>(intro hb;try simp only [hb])|fail)<;>try simp only [go_sem,seval,hd,hgm,hw,ne0,a1,a2])
  all_goals
   refine D1 (F4 (cs:=cs) hno2 (fun i hi=>?_) hcl (by omega) (by omega) (by omega)) ?_
   ·have:=ho i hi;rw [A2 (by omega)];exact A8c hi
   simp only [go_sem,seval,ne0,hw];repeat' ((with_reducible first|refine wr ?_|refine k_cu ?_ ?_|refine wb2 ?_ ?_<;>(intro hb;try simp only [hb])|fail)<;>try simp only [go_sem,seval,hd,hw,ne0])
  all_goals exact ⟨(k+1,some (c+1)),⟨rfl,rfl⟩,O7 (by simp only [est];exact congrArg (fun z=>(⟨1,true,cs++[DV.str z]⟩:Blk)) (by unfold lnT;simp_all)),inv ⟨hlt,by simp,fun i hi=>by cases hi;omega⟩,by simp only;omega⟩
 ·have hd:decide ((k:Int)<l.length)=false:=by simpa using hlt
  have hfl:(R6 l).length<=140737488355328:=by
   have:∀ q:List (List UInt8),(∀ t∈q,t.length<=100000)->(R6 q).length<=100001 * q.length:=by
    intro q
    induction q with
    | nil=>intro _;simp [R6]
    | cons a q ih =>
     intro h;have h1:=ih fun t ht=>h t (List.mem_cons_of_mem _ ht);have h2:=h a List.mem_cons_self;have h3:(lnT a).length=a.length+1:=by unfold lnT;split<;>simp
     unfold R6 at h1 ⊢;rw [List.map_cons,List.flatten_cons,List.length_append,List.length_cons,h3];omega
   have:=this l hb;omega
  have hj:=c_Join (l.map lnT) [] (by rw [List.length_map];omega) (by rw [A5c];exact hfl);rw [A5c] at hj;obtain rfl:k=l.length:=by omega
  rw [List.take_length] at hkl ⊢;rcases o with _|id
  ·have hk0:=hno rfl;have h00:l=[]:=List.eq_nil_of_length_eq_zero (by omega);repeat' ((with_reducible first|refine wr ?_|refine k_cu ?_ ?_|refine wb2 ?_ ?_<;>(intro hb;try simp only [hb])|fail)<;>try simp only [go_sem,seval,hd])
   refine AC.call (hj.give (H0:=Sym.nil) ⟨fun _ h=>h,fun ρ w vs h1 h2=>⟨ρ,rfl,h1,?_,Ext.refl _ _ _⟩⟩) ?_
   ·rw [h00];exact ⟨h2.1,fun i x y hx hy=>by
     match i with
     | 0=>cases hx;exact (h2.2 0 _ y rfl hy).snil_lst
     | 1=>cases hx;exact h2.2 1 _ y rfl hy
     | _+2=>cases hx⟩
   ·rintro v H' c' ⟨rfl,rfl,rfl⟩ -;simp only [go_sem,seval];repeat' ((with_reducible first|refine wr ?_|refine k_cu ?_ ?_|refine wb2 ?_ ?_<;>(intro hb;try simp only [hb])|fail)<;>try simp only [go_sem,seval])
    exact A5 rfl
  ·repeat' ((with_reducible first|refine wr ?_|refine k_cu ?_ ?_|refine wb2 ?_ ?_<;>(intro hb;try simp only [hb])|fail)<;>try simp only [go_sem,seval,hd])
   refine AC.call (hj.give (H0:=Sym.nil) (GL.one (id:=id) A0 rfl (.cons _ _ _ _ (M0 (u:=1) (by rw [List.length_map,hkl]) (H4 _) ⟨[],by rw [Z9];simp⟩) (.cons _ _ _ _ (.same _) .nil)))) ?_;rintro v H' c' ⟨rfl,rfl,rfl⟩ -;simp only [go_sem,seval];repeat' ((with_reducible first|refine wr ?_|refine k_cu ?_ ?_|refine wb2 ?_ ?_<;>(intro hb;try simp only [hb])|fail)<;>try simp only [go_sem,seval])
   exact A5 rfl
end Go.Proofs.YthlpinppaclofaaGreatDoor
set_option maxHeartbeats 8000000
namespace Go.Proofs.YthlpinppaclofaaGreatDoor
open Go.Eng (IC IOper DReg IFn B5)
open Go.Sym Go.Pb
end Go.Proofs.YthlpinppaclofaaGreatDoor
namespace Go.Pb
open Go.Sym
def Shp.v (s:Shp):DV:=.agg [.bool s.name,.bool s.text,I64 s.args,.bool s.thn,.bool s.els]
end Go.Pb
namespace Go.Proofs.YthlpinppaclofaaGreatDoor
open Go.Eng (IC IOper DReg IFn B5)
open Go.Sym Go.Pb
def kndB (k:Int):Bool:=decide (1<=k) && decide (k<=19)
theorem c_shapeOf (k:Int):PC Tryz.prog 153 [I64 k] (.tup [(N2 k).v,.bool (kndB k)]):=by
 refine PC.ofT A7 rfl (Nat.le_of_ble_eq_true rfl) (by simp [DV.nlL,DV.nl]) rfl ?_;repeat' ((with_reducible first|refine wr ?_|refine k_cu ?_ ?_|refine wb2 ?_ ?_<;>(intro hb;try simp only [hb])|fail)<;>try simp only [go_sem,seval])
 all_goals refine A5 ?_
 all_goals simp_all [N2,kndB,Shp.v,tm,Tm.upd]
 all_goals omega
theorem c_isText (s:List UInt8) (hs:s.length<=1000000000):PC Tryz.prog 180 [.str s] (.bool (T7 s)):=by
 refine PC.ofT A7 rfl (Nat.le_of_ble_eq_true rfl) (by simp [DV.nlL,DV.nl]) (by simp [DV.nlL,DV.nl]) ?_;repeat' ((with_reducible first|refine wr ?_|refine k_cu ?_ ?_|refine wb2 ?_ ?_<;>(intro hb;try simp only [hb])|fail)<;>try simp only [go_sem,seval])
 refine D5 (fun k:Nat=>[(0,.str s),(3,I64 k)]) (fun _=>Sym.nil) (fun k _=>k<=s.length/\(s.take k).all txB=true) (fun k=>s.length-k) 0 (by simp [D0,tm,Tm.upd]) (Sub.refl _) ⟨Nat.zero_le _,rfl⟩ ?_;rintro k cc ⟨hk,he⟩;by_cases hlt:k<s.length
 ·have hd:decide ((k:Int)<s.length)=true:=by simpa using hlt
  have hg:=List.getElem?_eq_getElem hlt;have hw:=w64 (n:=(k:Int)+1) (by omega) (by omega);generalize s[k]=x at hg;have hx:txB x=(decide (32<=x.toNat) && decide (x.toNat<=126)):=rfl;repeat' ((with_reducible first|refine wr ?_|refine k_cu ?_ ?_|refine wb2 ?_ ?_<;>(intro hb;try simp only [hb])|fail)<;>try simp only [go_sem,seval,hd,hg,hw])
  ·refine A5 (congrArg DV.bool ?_);have:=A5v txB s k _ hg (by simp_all<;>omega);simp [T7,this]
  ·refine A5 (congrArg DV.bool ?_);have:=A5v txB s k _ hg (by simp_all<;>omega);simp [T7,this]
  ·exact ⟨k+1,rfl,Sub.refl _,inv ⟨by omega,by rw [A7i txB s k _ hg,he];simp_all<;>omega⟩,by omega⟩
 have hd:decide ((k:Int)<s.length)=false:=by simpa using hlt
 have hall:=all_done txB s k (by omega) he;repeat' ((with_reducible first|refine wr ?_|refine k_cu ?_ ?_|refine wb2 ?_ ?_<;>(intro hb;try simp only [hb])|fail)<;>try simp only [go_sem,seval,hd])
 refine A5 (congrArg DV.bool ?_);simp [T7,hall];omega
theorem c_validDecl (d:Dc) (hB:d.name.length<=1000000000):PC Tryz.prog 51 [d.v] (.bool (A5y d)):=by
 refine PC.ofT A7 rfl (Nat.le_of_ble_eq_true rfl) (by simp [DV.nlL,DV.nl]) (by simp [DV.nlL,DV.nl]) ?_;have hn:=c_IsName d.name hB;repeat' ((with_reducible first|refine wr ?_|refine cpc hn ?_|refine k_cu ?_ ?_|refine wb2 ?_ ?_<;>(intro hb;try simp only [hb])|fail)<;>try simp only [go_sem,seval])
 all_goals (refine A5 (congrArg DV.bool ?_);simp_all [A5y]<;>omega)
theorem c_vS1 (e:Ex) (hB:e.sz<=100000000):PC Tryz.prog 179 [e.v] (.bool (!A4k e)):=by
 refine PC.ofT A7 rfl (Nat.le_of_ble_eq_true rfl) (by simp [DV.nlL,DV.nl]) (by simp [DV.nlL,DV.nl]) ?_;have h:=c_ValidExpr e hB;rw [Ex.v_w] at h ⊢;repeat' ((with_reducible first|refine wr ?_|refine cpc h ?_|refine k_cu ?_ ?_|refine wb2 ?_ ?_<;>(intro hb;try simp only [hb])|fail)<;>try simp only [go_sem,seval])
 exact A5 rfl
theorem vlSt_e (d:Nat) (s:Pb.St):A1y d s=(kndB s.kind && (s.args.length == (N2 s.kind).args && s.args.all A4k) &&
   ((if (N2 s.kind).name=true then D3 s.name else s.name == []) && (if (N2 s.kind).text=true then T7 s.text else s.text == [])) &&
   (((N2 s.kind).thn || s.thn.isEmpty) && ((N2 s.kind).els || s.els.isEmpty)) && (A1h s.thn (d+1) && A1h s.els (d+1))):=by
 cases s with|mk k n t a x y p=>rw [A1y];rfl
theorem A8s {α : Type} (g : α -> Bool) (l:List α):l.any (fun x => !g x) = !l.all g:=by
 induction l with
 | nil=>rfl
 | cons x l ih=>rw [List.any_cons,List.all_cons,ih,Bool.not_and]
theorem c_vSt (s:Pb.St) (d:Nat) (hd:d<=1000000000) (hB:s.sz<=100000000) (hX:PC Tryz.prog 93 [F7 s.thn,I64 (d+1:Nat)] (.bool (A1h s.thn (d+1)))) (hY:PC Tryz.prog 93 [F7 s.els,I64 (d+1:Nat)] (.bool (A1h s.els (d+1)))) :
  PC Tryz.prog 148 [s.v,I64 d] (.bool (A1y d s)):=by
 rw [vlSt_e];have hsa:Ex.szs s.args<s.sz:=by cases s with|mk k n t a x y p=>rw [Pb.St.sz];show Ex.szs a<_;omega
 have hal:=Ex.szs_len s.args;have hxl:=Pb.St.szs_len s.thn;have hyl:=Pb.St.szs_len s.els;have hxs:=s.sz_thn;have hys:=s.sz_els;have hnl:=s.sz_name;have htl:=s.sz_text;have hn:=c_IsName s.name (by omega);have ht:=c_isText s.text (by omega);have hsh:=c_shapeOf s.kind;have hca:=c_CF_ex (f:=179) (a:=[]) (cs:=[]) (g:=fun e => !A4k e) s.args (by omega) rfl rfl (fun x hx=>c_vS1 x (by have:=Ex.szs_mem hx;omega));rw [A8s] at hca;have hw:=w64 (n:=(d:Int)+1) (by omega) (by omega);refine PC.ofT A7 rfl (Nat.le_of_ble_eq_true rfl) (by rw [Pb.St.v_w];simp [DV.nlL,DV.nl,A1n,X2]) rfl ?_;cases s with|mk k n t a x y p =>
 dsimp only [Pb.St.kind,Pb.St.name,Pb.St.text,Pb.St.args,Pb.St.thn,Pb.St.els,Pb.St.pos] at *;have hX:PC Tryz.prog 93 [F7 x,I64 ((d:Int)+1)] (.bool (A1h x (d+1))):=hX;have hY:PC Tryz.prog 93 [F7 y,I64 ((d:Int)+1)] (.bool (A1h y (d+1))):=hY;have ev:(Pb.St.mk k n t a x y p).v=.agg [I64 k,.str n,.str t,K3 a,F7 x,F7 y,I64 p]:=Pb.St.v_w _;rw [ev];generalize A1h x (d+1)=bx at *;generalize A1h y (d+1)=bY at *;generalize kndB k=kb at *;obtain ⟨nb,tb,ar,xb,yb,hs⟩:∃ nb tb ar xb yb,N2 k=⟨nb,tb,ar,xb,yb⟩:=⟨_,_,_,_,_,rfl⟩;simp only [hs,Shp.v] at hsh ⊢;have kA:∀ (cc:Nat) (nm tx:Bool),IW Tryz.prog 86 (pz Tryz.prog 148 (.i (.i (.o (.i .h))))) ⟨tm [(1,I64 d),(2,.ptr 0 0),(5,.ptr 1 0),(7,.bool nm),(8,.bool tx)],(Sym.nil.upd 0 ⟨0,true,[I64 k,.str n,.str t,K3 a,F7 x,F7 y,I64 p]⟩).upd 1 ⟨0,true,[.bool nb,.bool tb,I64 ar,.bool xb,.bool yb]⟩,cc⟩ (rt [.tmp 4] fun v H' c => ∃ H2,GL H' [v] H2 [.bool ((nm && tx) && ((xb || x.isEmpty) && (yb || y.isEmpty)) && (bx && bY))]):=by
  intro cc nm tx;have ex:x.isEmpty = !decide ((x.length:Int)>0):=by cases x<;>simp
  have ey:y.isEmpty = !decide ((y.length:Int)>0):=by cases y<;>simp
  rw [ex,ey];cases nm with
  | false =>
   repeat' ((with_reducible first|refine wr ?_|refine k_cu ?_ ?_|refine wb2 ?_ ?_<;>(intro hb;try simp only [hb])|fail)<;>try simp only [go_sem,seval])
   exact A5 (by simp)
  | true =>
  cases tx with
  | false =>
   repeat' ((with_reducible first|refine wr ?_|refine k_cu ?_ ?_|refine wb2 ?_ ?_<;>(intro hb;try simp only [hb])|fail)<;>try simp only [go_sem,seval])
   exact A5 (by simp)
  | true =>
  generalize hlx:decide ((x.length:Int)>0)=lx at *;generalize hly:decide ((y.length:Int)>0)=ly at *;cases bx<;>cases bY<;>cases xb<;>cases lx<;>cases yb<;>cases ly;all_goals (repeat' ((with_reducible first|refine wr ?_|refine cpc hX ?_|refine cpc hY ?_|refine k_cu ?_ ?_|refine wb2 ?_ ?_<;>(intro hb;try simp only [hb])|fail)<;>try simp only [go_sem,seval,hlx,hly,hw,List.length_map]))
  all_goals exact A5 rfl
 have kB:∀ cc:Nat,IW Tryz.prog 86 (pz Tryz.prog 148 (.i (.i (.i .h)))) ⟨tm [(1,I64 d),(2,.ptr 0 0),(5,.ptr 1 0),(7,.bool (n == [])),(8,.bool (t == []))],(Sym.nil.upd 0 ⟨0,true,[I64 k,.str n,.str t,K3 a,F7 x,F7 y,I64 p]⟩).upd 1 ⟨0,true,[.bool nb,.bool tb,I64 ar,.bool xb,.bool yb]⟩,cc⟩ (rt [.tmp 4] fun v H' c => ∃ H2,GL H' [v] H2 [.bool (((if nb=true then D3 n else n == []) && (if tb=true then T7 t else t == [])) && ((xb || x.isEmpty) && (yb || y.isEmpty)) && (bx && bY))]):=by
  intro cc;cases nb<;>cases tb;all_goals (repeat' ((with_reducible first|refine E1 (p:=IW _ _ (pz Tryz.prog 148 (.i (.i (.o (.i .h))))) _ _) ?_|refine wr ?_|refine cpc hn ?_|refine cpc ht ?_|refine k_cu ?_ ?_|refine wb2 ?_ ?_<;>(intro hb;try simp only [hb])|fail)<;>try simp only [go_sem,seval]))
  all_goals (refine IW.stage ?_ (kA _ _ _);simp [D0,tm,Tm.upd])
 cases kb with
 | false =>
  repeat' ((with_reducible first|refine wr ?_|refine cpc hsh ?_|refine k_cu ?_ ?_|refine wb2 ?_ ?_<;>(intro hb;try simp only [hb])|fail)<;>try simp only [go_sem,seval])
  exact A5 (by simp)
 | true =>
 by_cases hal2:a.length=ar
 ·have d0:((a.length:Int) != (ar:Int))=false:=by simp [hal2]
  cases hall:a.all A4k with
  | false =>
   rw [hall] at hca;repeat' ((with_reducible first|refine wr ?_|refine cpc hsh ?_|refine cpc hca ?_|refine k_cu ?_ ?_|refine wb2 ?_ ?_<;>(intro hb;try simp only [hb])|fail)<;>try simp only [go_sem,seval,d0,List.length_map])
   exact A5 (by simp)
  | true =>
   rw [hall] at hca;have e1:(a.length == ar)=true:=by simpa using hal2
   rw [e1];simp only [Bool.true_and];repeat' ((with_reducible first|refine E1 (p:=IW _ _ (pz Tryz.prog 148 (.i (.i (.i .h)))) _ _) ?_|refine wr ?_|refine cpc hsh ?_|refine cpc hca ?_|refine k_cu ?_ ?_|refine wb2 ?_ ?_<;>(intro hb;try simp only [hb])|fail)<;>try simp only [go_sem,seval,d0,List.length_map,A1])
   refine IW.stage (L:=[(1,I64 d),(2,.ptr 0 0),(5,.ptr 1 0),(7,.bool (n == [])),(8,.bool (t == []))]) ?_ (kB _);simp [D0,tm,Tm.upd]
 ·have d0:((a.length:Int) != (ar:Int))=true:=by simp;omega
  repeat' ((with_reducible first|refine wr ?_|refine cpc hsh ?_|refine k_cu ?_ ?_|refine wb2 ?_ ?_<;>(intro hb;try simp only [hb])|fail)<;>try simp only [go_sem,seval,d0,List.length_map])
  exact A5 (by simp;omega)
theorem c_vB1 (s:Pb.St) (d:Nat) (h:PC Tryz.prog 148 [s.v,I64 d] (.bool (A1y d s))):PC Tryz.prog 147 [s.v,.fptr [I64 d]] (.bool (!A1y d s)):=by
 rw [Pb.St.v_w] at h ⊢;refine PC.ofT A7 rfl (Nat.le_of_ble_eq_true rfl) (by simp [DV.nlL,DV.nl]) (by simp [DV.nlL,DV.nl]) ?_;repeat' ((with_reducible first|refine wr ?_|refine cpc h ?_|refine k_cu ?_ ?_|refine wb2 ?_ ?_<;>(intro hb;try simp only [hb])|fail)<;>try simp only [go_sem,seval])
 exact A5 rfl
theorem A6h (d:Nat):∀ l:List Pb.St,A1g d l=l.all (A1y d)
 | []=>by rw [A1g];rfl
 | s :: l=>by rw [A1g,A6h d l];rfl
theorem c_validBlock:∀ (m:Nat) (l:List Pb.St) (d:Nat),Pb.St.szs l<m->Pb.St.szs l<=100000000->d+Pb.St.szs l<=1000000000->PC Tryz.prog 93 [F7 l,I64 d] (.bool (A1h l d)):=by
 intro m
 induction m with
 | zero=>intro l d h;omega
 | succ m ih =>
 intro l d hm hB hd;have hl:=Pb.St.szs_len l;have hcf:=c_CF_st (f:=147) (a:=[]) (cs:=[.fptr [I64 d]]) (g:=fun s => !A1y d s) l (by omega) rfl rfl (fun s hs=>by
  have h1:=Pb.St.szs_mem hs;have h2:=s.sz_thn;have h3:=s.sz_els;exact c_vB1 s d (c_vSt s d (by omega) (by omega) (ih _ _ (by omega) (by omega) (by omega)) (ih _ _ (by omega) (by omega) (by omega))))
 rw [A8s, <- A6h] at hcf;refine PC.ofT A7 rfl (Nat.le_of_ble_eq_true rfl) (by simp [DV.nlL,DV.nl,X2]) rfl ?_;have el:l.isEmpty = !decide ((l.length:Int)>0):=by cases l<;>simp
 have e64:decide (l.length<=64) = !decide ((l.length:Int)>64):=by rw [<- decide_not];exact decide_eq_decide.2 (by omega)
 have e8:decide (d<=8) = !decide ((d:Int)>8):=by rw [<- decide_not];exact decide_eq_decide.2 (by omega)
 unfold A1h;rw [el,e64,e8];repeat' ((first|(with_reducible first|refine wr ?_|refine k_cu ?_ ?_)|(with_reducible refine wb2 ?_ ?_<;>(intro hb;try simp only [hb]))|(refine AC.call (hcf.lend rfl (GL.one (id:=0) (b:=⟨0,true,[I64 d]⟩) rfl rfl (.cons _ _ _ _ (.same _) (.cons _ _ _ _ (.func _ _ _ _ _ .nil (.cons _ _ _ _ (.ptr 0 _ (Nat.zero_le _) rfl) .nil)) .nil)))) ?_<;>rintro v H' c' ⟨rfl,rfl,rfl⟩ hcc)|fail)<;>try simp only [go_sem,seval,List.length_map])
 all_goals (refine A5 (congrArg DV.bool ?_);simp_all)
theorem c_validHd (h:Hd) (hB:Pb.St.szs h.body<=100000000):PC Tryz.prog 93 [F7 h.body,I64 1] (.bool (A1h h.body 1)) :=
 c_validBlock _ h.body 1 (Nat.lt_succ_self _) hB (by omega)
theorem hd_w (h:Hd):h.v=.agg [I64 h.trig,.str h.name,F7 h.body,I64 h.pos]:=rfl
theorem c_validMode (d:Md) (hB:d.sz<=100000000):PC Tryz.prog 54 [d.v] (.bool (A0n d)):=by
 have hsz:d.sz=1+d.name.length+(d.hds.map Hd.sz).sum:=rfl;have hhl:d.hds.length<=(d.hds.map Hd.sz).sum:=O6 fun x _=>by show 1<=1+_+_;omega
 have hn:=c_IsName d.name (by omega);refine PC.ofT A7 rfl (Nat.le_of_ble_eq_true rfl) (by simp [Md.v,DV.nlL,DV.nl,nlL_hds]) rfl ?_;have ev:d.v=.agg [.str d.name,I64 d.prio,A2l d.hds,I64 d.pos]:=rfl;rw [ev];cases hnm:D3 d.name with
 | false =>
  rw [hnm] at hn;repeat' ((with_reducible first|refine wr ?_|refine cpc hn ?_|refine k_cu ?_ ?_|refine wb2 ?_ ?_<;>(intro hb;try simp only [hb])|fail)<;>try simp only [go_sem,seval])
  exact A5 (by simp [A0n,hnm])
 | true =>
 rw [hnm] at hn;by_cases p0:d.prio<0
 ·have q0:decide (d.prio<0)=true:=by simpa using p0
  repeat' ((with_reducible first|refine wr ?_|refine cpc hn ?_|refine k_cu ?_ ?_|refine wb2 ?_ ?_<;>(intro hb;try simp only [hb])|fail)<;>try simp only [go_sem,seval,q0])
  exact A5 (by simp [A0n,hnm];omega)
 have q0:decide (d.prio<0)=false:=by simpa using p0
 by_cases p1:d.prio>2147483647
 ·have q1:decide (d.prio>2147483647)=true:=by simpa using p1
  repeat' ((with_reducible first|refine wr ?_|refine cpc hn ?_|refine k_cu ?_ ?_|refine wb2 ?_ ?_<;>(intro hb;try simp only [hb])|fail)<;>try simp only [go_sem,seval,q0,q1])
  exact A5 (by simp [A0n,hnm];omega)
 have q1:decide (d.prio>2147483647)=false:=by simpa using p1
 by_cases p2:d.hds.length>32
 ·have q2:decide ((d.hds.length:Int)>32)=true:=by simp;omega
  repeat' ((with_reducible first|refine wr ?_|refine cpc hn ?_|refine k_cu ?_ ?_|refine wb2 ?_ ?_<;>(intro hb;try simp only [hb])|fail)<;>try simp only [go_sem,seval,q0,q1,q2,List.length_map])
  exact A5 (by simp [A0n,hnm];omega)
 have q2:decide ((d.hds.length:Int)>32)=false:=by simp;omega
 have er:A0n d=d.hds.all A1z:=by
  unfold A0n;rw [hnm,show decide (0<=d.prio)=true by simp;omega,show decide (d.prio<=2147483647)=true by simp;omega,show decide (d.hds.length<=32)=true by simp;omega];rfl
 rw [er];repeat' ((with_reducible first|refine wr ?_|refine cpc hn ?_|refine k_cu ?_ ?_|refine wb2 ?_ ?_<;>(intro hb;try simp only [hb])|fail)<;>try simp only [go_sem,seval,q0,q1,q2,List.length_map])
 refine D5 (fun k:Nat=>[(27,A2l d.hds),(28,I64 d.hds.length),(29,I64 k)]) (fun _=>Sym.nil) (fun k _=>k<=d.hds.length/\(d.hds.take k).all A1z=true) (fun k=>d.hds.length-k) 0 (by simp [D0,tm,Tm.upd]) (Sub.nil _) ⟨Nat.zero_le _,rfl⟩ ?_;rintro k cc ⟨hk,he⟩;by_cases hlt:k<d.hds.length
 ·have hd:decide ((k:Int)<d.hds.length)=true:=by simpa using hlt
  have hg:=List.getElem?_eq_getElem hlt;have hw:=w64 (n:=(k:Int)+1) (by omega) (by omega);have hs:d.hds[k].sz<=(d.hds.map Hd.sz).sum:=N8 (List.getElem_mem hlt);generalize d.hds[k]=h at hg hs;have hhs:h.sz=1+h.name.length+Pb.St.szs h.body:=rfl;have hn2:=c_IsName h.name (by omega);have hb2:=c_validHd h (by omega);have hf:=A5v A1z d.hds k _ hg;have ht:=A7i A1z d.hds k _ hg;have eh:A1z h=(decide (1<=h.trig) && decide (h.trig<=6) && (if 3<=h.trig then D3 h.name else h.name == []) && A1h h.body 1):=rfl;by_cases t3:3<=h.trig
  ·have u3:decide (h.trig≥3)=true:=by simpa using t3
   rw [if_pos t3] at eh;repeat' ((with_reducible first|refine wr ?_|refine cpc hn2 ?_|refine cpc hb2 ?_|refine k_cu ?_ ?_|refine wb2 ?_ ?_<;>(intro hb;try simp only [hb])|fail)<;>try simp only [go_sem,seval,hd,hg,hw,u3,hd_w,A0,A1])
   all_goals first
    | (refine A5 (congrArg DV.bool (hf ?_).symm);rw [eh];clear hf ht eh er;simp_all<;>omega)
    | (refine ⟨k+1,rfl,Sub.nil _,inv ⟨by omega,?_⟩,by omega⟩;rw [ht,he,eh];clear hf ht eh er;simp_all<;>omega)
  ·have u3:decide (h.trig≥3)=false:=by simpa using t3
   rw [if_neg t3] at eh;repeat' ((with_reducible first|refine wr ?_|refine cpc hn2 ?_|refine cpc hb2 ?_|refine k_cu ?_ ?_|refine wb2 ?_ ?_<;>(intro hb;try simp only [hb])|fail)<;>try simp only [go_sem,seval,hd,hg,hw,u3,hd_w,A0,A1])
   all_goals first
    | (refine A5 (congrArg DV.bool (hf ?_).symm);rw [eh];clear hf ht eh er;simp_all<;>omega)
    | (refine ⟨k+1,rfl,Sub.nil _,inv ⟨by omega,?_⟩,by omega⟩;rw [ht,he,eh];clear hf ht eh er;simp_all<;>omega)
 have hd:decide ((k:Int)<d.hds.length)=false:=by simpa using hlt
 have hall:=all_done A1z d.hds k (by omega) he;repeat' ((with_reducible first|refine wr ?_|refine k_cu ?_ ?_|refine wb2 ?_ ?_<;>(intro hb;try simp only [hb])|fail)<;>try simp only [go_sem,seval,hd])
 exact A5 (by rw [hall])
theorem c_V1 (d:Dc) (hB:d.name.length<=1000000000):PC Tryz.prog 50 [d.v] (.bool (!A5y d)):=by
 have h:=c_validDecl d hB;have ev:d.v=.agg [I64 d.kind,.str d.name,I64 d.value,I64 d.pos]:=rfl;rw [ev] at h ⊢;refine PC.ofT A7 rfl (Nat.le_of_ble_eq_true rfl) (by simp [DV.nlL,DV.nl]) (by simp [DV.nlL,DV.nl]) ?_;repeat' ((with_reducible first|refine wr ?_|refine cpc h ?_|refine k_cu ?_ ?_|refine wb2 ?_ ?_<;>(intro hb;try simp only [hb])|fail)<;>try simp only [go_sem,seval])
 exact A5 rfl
theorem c_V2 (d:Md) (hB:d.sz<=100000000):PC Tryz.prog 53 [d.v] (.bool (!A0n d)):=by
 have h:=c_validMode d hB;have ev:d.v=.agg [.str d.name,I64 d.prio,A2l d.hds,I64 d.pos]:=rfl;rw [ev] at h ⊢;refine PC.ofT A7 rfl (Nat.le_of_ble_eq_true rfl) (by simp [DV.nlL,DV.nl]) (by simp [DV.nlL,DV.nl]) ?_;repeat' ((with_reducible first|refine wr ?_|refine cpc h ?_|refine k_cu ?_ ?_|refine wb2 ?_ ?_<;>(intro hb;try simp only [hb])|fail)<;>try simp only [go_sem,seval])
 exact A5 rfl
theorem c_Valid (r:Ru) (hB:r.sz<=100000000):PC Tryz.prog 23 [r.v] (.bool (A7l r)):=by
 obtain ⟨D,M⟩:=r;have hDs:(D.map Dc.sz).sum+(M.map Md.sz).sum<=100000000:=hB;have hDl:D.length<=(D.map Dc.sz).sum:=O6 fun x _=>by show 1<=1+_;omega
 have hMl:M.length<=(M.map Md.sz).sum:=O6 fun x _=>by show 1<=1+_+_;omega
 have h1:=c_CF_dc (f:=50) (a:=[]) (cs:=[]) (g:=fun e => !A5y e) D (by omega) rfl rfl (fun x hx=>c_V1 x (by
  have:x.sz<=(D.map Dc.sz).sum:=N8 hx;have e:x.sz=1+x.name.length:=rfl;omega))
 have h2:=c_CF_md (f:=53) (a:=[]) (cs:=[]) (g:=fun e => !A0n e) M (by omega) rfl rfl (fun x hx=>c_V2 x (by
  have:x.sz<=(M.map Md.sz).sum:=N8 hx;omega))
 rw [A8s] at h1 h2;refine PC.ofT A7 rfl (Nat.le_of_ble_eq_true rfl) (by simp [Ru.v,DV.nlL,DV.nl,X4,X3]) rfl ?_;dsimp only [Ru.v];unfold A7l;dsimp only;have e1:decide (D.length<=128) = !decide ((D.length:Int)>128):=by rw [<- decide_not];exact decide_eq_decide.2 (by omega)
 have e2:decide (M.length<=16) = !decide ((M.length:Int)>16):=by rw [<- decide_not];exact decide_eq_decide.2 (by omega)
 rw [e1,e2];generalize D.all A5y=bD at *;generalize M.all A0n=bM at *;repeat' ((with_reducible first|refine wr ?_|refine cpc h1 ?_|refine cpc h2 ?_|refine k_cu ?_ ?_|refine wb2 ?_ ?_<;>(intro hb;try simp only [hb])|fail)<;>try simp only [go_sem,seval,List.length_map])
 all_goals (refine A5 (congrArg DV.bool ?_);simp_all)
end Go.Proofs.YthlpinppaclofaaGreatDoor
set_option maxHeartbeats 4000000
namespace Go.Proofs.YthlpinppaclofaaGreatDoor
open Go.Eng (IC IOper DReg IFn B5)
open Go.Sym Go.Pb
theorem c_pblk (P:Pb.St->List (List UInt8)) (l:List Pb.St) (hl:l.length<=4000000) (hP:∀ s∈l,OwL 102 [s.v] (P s)) (hb:(l.flatMap P).length<=1000000000):OwL 59 [F7 l] (I2 P l):=by
 refine OwL.of (by simp [DV.nlL,DV.nl,X2]) ?_;refine AC.bodyT A7 rfl (Nat.le_of_ble_eq_true rfl) fun hfr=>?_;repeat' ((with_reducible first|refine wr ?_|refine k_cu ?_ ?_|refine wb2 ?_ ?_<;>(intro hb;try simp only [hb])|fail)<;>try simp only [go_sem,seval])
 refine X9 (fun q:Nat × Nat=>[(3,.slc q.2 0 (1+((l.take q.1).flatMap P).length)),(7,F7 l),(8,I64 l.length),(9,I64 q.1)]) (fun q=>nil.upd q.2 ⟨1,true,([123] :: (l.take q.1).flatMap P).map DV.str⟩)
  (fun q cc=>q.1<=l.length/\q.2<cc) (fun q=>l.length-q.1) (0,0) (fun b=>⟨rfl,rfl,rfl,rfl,trivial⟩) (by simp [D0,tm,Tm.upd]) (by simp;exact Sub.refl _) ⟨by simp,by simp⟩ ?_
 rintro ⟨k,id⟩ c ⟨hk,hid⟩;simp only at hk hid;simp only;have hle:((l.take k).flatMap P).length<=(l.flatMap P).length:=by
  have:=congrArg List.length (congrArg (List.flatMap P) (List.take_append_drop k l));rw [List.flatMap_append,List.length_append] at this;omega
 obtain ⟨A,hA⟩:∃ A,A=(l.take k).flatMap P:=⟨_,rfl⟩;rw [<- hA] at hle ⊢;by_cases hlt:k<l.length
 ·have hd:decide ((k:Int)<l.length)=true:=by simpa using hlt
  have hg:=List.getElem?_eq_getElem hlt;have hw:IntKind.i64.wrap ((k:Int)+1)=((k+1:Nat):Int):=by rw [w64 (by omega) (by omega)];omega
  have est:(l.take (k+1)).flatMap P=A++P l[k]:=by
   rw [List.take_add_one,hg,Option.toList_some,List.flatMap_append,hA];simp
  have hc:=hP _ (List.getElem_mem hlt);have hle2:(A++P l[k]).length<=(l.flatMap P).length:=by
   have:=congrArg List.length (congrArg (List.flatMap P) (List.take_append_drop (k+1) l));rw [List.flatMap_append,List.length_append,est] at this;omega
  obtain ⟨s,hs⟩:∃ s,s=l[k]:=⟨_,rfl⟩;rw [<- hs] at hg est hc hle2;have hgm:(l.map Pb.St.v)[k]? = some s.v:=by rw [List.getElem?_map,hg];rfl
  rw [Pb.St.v_w] at hgm hc;have ne0:=K0 id c (c+1) (by omega);repeat' ((with_reducible first|refine wr ?_|refine k_cu ?_ ?_|refine wb2 ?_ ?_<;>(intro hb;try simp only [hb])|fail)<;>try simp only [go_sem,seval,hd,hgm,hw,ne0,A0])
  refine AC.call (hc _ _) ?_;rintro _ _ _ ⟨rfl,rfl,rfl⟩ -;have tk:List.take (P s).length ((P s).map DV.str)=(P s).map DV.str:=List.take_of_length_le (by simp);rw [List.length_append] at hle2;have ne0:=T4 id c (c+1) (c+1+1) (by omega);simp only [go_sem,seval,ne0,A0,tk];repeat' ((with_reducible first|refine wr ?_|refine k_cu ?_ ?_|refine wb2 ?_ ?_<;>(intro hb;try simp only [hb])|fail)<;>try simp only [go_sem,seval,ne0,A0,tk])
  refine D1 (E0 (by simp;omega) (by omega) (by omega)) ?_;simp only [go_sem,seval,ne0,A0];repeat' ((with_reducible first|refine wr ?_|refine k_cu ?_ ?_|refine wb2 ?_ ?_<;>(intro hb;try simp only [hb])|fail)<;>try simp only [go_sem,seval,hw,ne0,A0])
  have e1:1+A.length+(P s).length=1+((l.take (k+1)).flatMap P).length:=by rw [est,List.length_append];omega
  refine ⟨(k+1,c+1+1),⟨by rw [e1],rfl⟩,GL.less fun j=>?_,inv ⟨hlt,by simp only;omega⟩,by simp only;omega⟩;by_cases e:j=c+1+1
  ·subst e;right;rw [A0,A0];simp only [est,List.map_append]
  ·left;rw [A2 e];rfl
 ·have hd:decide ((k:Int)<l.length)=false:=by simpa using hlt
  obtain rfl:k=l.length:=by omega
  rw [List.take_length] at hA;have ne0:=K0 id c (c+1) (by omega);repeat' ((with_reducible first|refine wr ?_|refine k_cu ?_ ?_|refine wb2 ?_ ?_<;>(intro hb;try simp only [hb])|fail)<;>try simp only [go_sem,seval,hd,ne0,A0])
  refine D1 (E0 (by simp;omega) (by omega) (by omega)) ?_;simp only [go_sem,seval,ne0,A0];repeat' ((with_reducible first|refine wr ?_|refine k_cu ?_ ?_|refine wb2 ?_ ?_<;>(intro hb;try simp only [hb])|fail)<;>try simp only [go_sem,seval,hd,ne0,A0])
  have e1:(I2 P l).length=1+A.length+1:=by rw [I2, <- hA];simp;omega
  rw [<- e1];exact ⟨_,nil.upd (c+1) ⟨1,true,(I2 P l).map DV.str⟩,P9 A0 (fun j hj=>.inl (by rw [A2 hj];rfl)) (by rw [A0,I2, <- hA];simp),c+1,rfl,rfl⟩
abbrev pstB (k:Int) (n t:List UInt8) (a:List Ex) (x y:List Pb.St) (p:Int):Blk:=⟨0,true,[I64 k,.str n,.str t,K3 a,F7 x,F7 y,I64 p]⟩
abbrev pshB (q:Shp):Blk:=⟨0,true,[.bool q.name,.bool q.text,I64 q.args,.bool q.thn,.bool q.els]⟩
theorem c_psE (k:Int) (n t:List UInt8) (a:List Ex) (x y:List Pb.St) (p:Int) (P:Pb.St->List (List UInt8)) (hY:OwL 59 [F7 y] (I2 P y))
  (hS:∀ s,y=[s]->OwL 102 [s.v] (P s)) (hb2:(I2 P y).length<=1000000000) (hb3:∀ s,y=[s]->(P s).length<=1000000000)
  (l R:List (List UInt8)) (id c:Nat) (hid:1<=id) (hc:id<c) (hl:l.length<=10000000000) (hR:R=l++A5n P y) :
  IW Tryz.prog 107 (pz Tryz.prog 102 (.o (.i (.o (.i (.i .h)))))) ⟨(tm [(1,.ptr 0 0),(3,.slc id 0 l.length)]),((nil.upd 0 (pstB k n t a x y p)).upd id ⟨1,true,l.map DV.str⟩),c⟩ (rt [.tmp 2] fun v H' c' => ∃ v2 H2,GL H' [v] H2 [v2]/\∃ id,v2=.slc id 0 R.length/\H2=nil.upd id ⟨1,true,R.map DV.str⟩):=by
 have ne0:=K0 0 id c (by omega)
 match y with
 | [] =>
  rw [A5n,List.append_nil] at hR;subst hR;repeat' ((with_reducible first|refine wr ?_|refine k_cu ?_ ?_|refine wb2 ?_ ?_<;>(intro hb;try simp only [hb])|fail)<;>try simp only [go_sem,seval,ne0,A0,List.length_nil,List.map_nil,List.length_map])
  exact ⟨_,nil.upd id ⟨1,true,R.map DV.str⟩,P9 A0 (fun j hj=>.inl (by rw [A2 hj];rfl)) A0,id,rfl,rfl⟩
 | [s] =>
  have hS':=hS s rfl;rw [Pb.St.v_w] at hS';rw [A5n] at hR;by_cases hk2:s.kind=2
  ·have d2:(s.kind == 2)=true:=by simpa using hk2
   repeat' ((with_reducible first|refine wr ?_|refine k_cu ?_ ?_|refine wb2 ?_ ?_<;>(intro hb;try simp only [hb])|fail)<;>try simp only [go_sem,seval,ne0,A0,d2,Pb.St.v_w])
   rw [A2 (show ¬ id=c+1 by omega),A0];refine N1 (E0 (by simp) (by omega) (by omega)) ?_;rw [if_pos hk2] at hR;simp only [go_sem,seval,ne0,A0,Pb.St.v_w];obtain ⟨M,hM⟩:∃ M,M=((((nil.upd 0 (pstB k n t a x [s] p)).upd id ⟨1,true,l.map DV.str⟩).upd (c+1) ⟨1,true,[.str [101,108,115,101]]⟩).del id).upd (c+10) ⟨1,true,l.map DV.str++[.str [101,108,115,101]]⟩:=⟨_,rfl⟩;rw [<- hM];have hMn:∀ i,i≠0->i≠c+1->i≠c+10->M i=none:=fun i h0 h1 h2=>by
    rw [hM,A2 h2];simp only [Hp.del];split
    ·rfl
    ·rename_i h3;rw [A2 h1,A2 h3,A2 h0];rfl
   have hMl:M (c+10)=some ⟨1,true,l.map DV.str++[.str [101,108,115,101]]⟩:=by rw [hM];exact A0
   clear hM;refine ⟨by and_intros<;>exact hMn _ (by omega) (by omega) (by omega),?_⟩;refine AC.call (hS' M (c+10+1)) ?_;rintro _ _ _ ⟨rfl,rfl,rfl⟩ -;obtain ⟨W,hW⟩:∃ W,W=P s:=⟨_,rfl⟩;rw [<- hW] at hR ⊢;have hWl:W.length<=1000000000:=hW▸hb3 s rfl;have tk:List.take W.length (W.map DV.str)=W.map DV.str:=List.take_of_length_le (by simp);have hMl2:(M.upd (c+10+1) ⟨1,true,W.map DV.str⟩) (c+10)=some ⟨1,true,l.map DV.str++[.str [101,108,115,101]]⟩:=by rw [A2 (by omega)];exact hMl
   simp only [go_sem,seval,ne0,A0,tk,hMl2];refine N1 (E0 (by simp) (by omega) (by omega)) ?_;simp only [go_sem,seval,ne0,A0];repeat' ((with_reducible first|refine wr ?_|refine k_cu ?_ ?_|refine wb2 ?_ ?_<;>(intro hb;try simp only [hb])|fail)<;>try simp only [go_sem,seval,ne0,A0])
   have e1:R.length=l.length+1+W.length:=by rw [hR];simp;omega
   rw [<- e1];exact ⟨_,nil.upd (c+10+1+1) ⟨1,true,R.map DV.str⟩,P9 A0 (fun j hj=>.inl (by rw [A2 hj];rfl)) (by rw [A0,hR];simp),c+10+1+1,rfl,rfl⟩
  ·have d2:(s.kind == 2)=false:=by simpa using hk2
   repeat' ((with_reducible first|refine wr ?_|refine k_cu ?_ ?_|refine wb2 ?_ ?_<;>(intro hb;try simp only [hb])|fail)<;>try simp only [go_sem,seval,ne0,A0,d2,Pb.St.v_w])
   rw [A2 (show ¬ id=c+1 by omega),A0];refine N1 (E0 (by simp) (by omega) (by omega)) ?_;rw [if_neg hk2] at hR;simp only [go_sem,seval,ne0,A0];obtain ⟨M,hM⟩:∃ M,M=((((nil.upd 0 (pstB k n t a x [s] p)).upd id ⟨1,true,l.map DV.str⟩).upd (c+1) ⟨1,true,[.str [101,108,115,101]]⟩).del id).upd (c+8) ⟨1,true,l.map DV.str++[.str [101,108,115,101]]⟩:=⟨_,rfl⟩;rw [<- hM];have hMn:∀ i,i≠0->i≠c+1->i≠c+8->M i=none:=fun i h0 h1 h2=>by
    rw [hM,A2 h2];simp only [Hp.del];split
    ·rfl
    ·rename_i h3;rw [A2 h1,A2 h3,A2 h0];rfl
   have hMl:M (c+8)=some ⟨1,true,l.map DV.str++[.str [101,108,115,101]]⟩:=by rw [hM];exact A0
   clear hM;refine ⟨by and_intros<;>exact hMn _ (by omega) (by omega) (by omega),?_⟩;refine AC.call (hY M (c+8+1)) ?_;rintro _ _ _ ⟨rfl,rfl,rfl⟩ -;obtain ⟨W,hW⟩:∃ W,W=I2 P [s]:=⟨_,rfl⟩;rw [<- hW] at hR ⊢;have hWl:W.length<=1000000000:=hW▸hb2;have tk:List.take W.length (W.map DV.str)=W.map DV.str:=List.take_of_length_le (by simp);have hMl2:(M.upd (c+8+1) ⟨1,true,W.map DV.str⟩) (c+8)=some ⟨1,true,l.map DV.str++[.str [101,108,115,101]]⟩:=by rw [A2 (by omega)];exact hMl
   simp only [go_sem,seval,ne0,A0,tk,hMl2];refine N1 (E0 (by simp) (by omega) (by omega)) ?_;simp only [go_sem,seval,ne0,A0];repeat' ((with_reducible first|refine wr ?_|refine k_cu ?_ ?_|refine wb2 ?_ ?_<;>(intro hb;try simp only [hb])|fail)<;>try simp only [go_sem,seval,ne0,A0])
   have e1:R.length=l.length+1+W.length:=by rw [hR];simp;omega
   rw [<- e1];exact ⟨_,nil.upd (c+8+1+1) ⟨1,true,R.map DV.str⟩,P9 A0 (fun j hj=>.inl (by rw [A2 hj];rfl)) (by rw [A0,hR];simp),c+8+1+1,rfl,rfl⟩
 | s :: s2 :: r =>
  obtain ⟨A,hA⟩:∃ A,A=s :: s2 :: r:=⟨_,rfl⟩;have n1:((A.length:Int) == 1)=false:=by rw [hA];simp;omega
  have n0:decide ((A.length:Int)>0)=true:=by rw [hA];simp;omega
  rw [A5n] at hR;rw [<- hA] at hR hY hb2 ⊢;repeat' ((with_reducible first|refine wr ?_|refine k_cu ?_ ?_|refine wb2 ?_ ?_<;>(intro hb;try simp only [hb])|fail)<;>try simp only [go_sem,seval,ne0,A0,n1,n0])
  rw [A2 (show ¬ id=c+1 by omega),A0];refine N1 (E0 (by simp) (by omega) (by omega)) ?_;simp only [go_sem,seval,ne0,A0];obtain ⟨M,hM⟩:∃ M,M=((((nil.upd 0 (pstB k n t a x A p)).upd id ⟨1,true,l.map DV.str⟩).upd (c+1) ⟨1,true,[.str [101,108,115,101]]⟩).del id).upd (c+8) ⟨1,true,l.map DV.str++[.str [101,108,115,101]]⟩:=⟨_,rfl⟩;rw [<- hM];have hMn:∀ i,i≠0->i≠c+1->i≠c+8->M i=none:=fun i h0 h1 h2=>by
   rw [hM,A2 h2];simp only [Hp.del];split
   ·rfl
   ·rename_i h3;rw [A2 h1,A2 h3,A2 h0];rfl
  have hMl:M (c+8)=some ⟨1,true,l.map DV.str++[.str [101,108,115,101]]⟩:=by rw [hM];exact A0
  clear hM;refine ⟨by and_intros<;>exact hMn _ (by omega) (by omega) (by omega),?_⟩;refine AC.call (hY M (c+8+1)) ?_;rintro _ _ _ ⟨rfl,rfl,rfl⟩ -;obtain ⟨W,hW⟩:∃ W,W=I2 P A:=⟨_,rfl⟩;rw [<- hW] at hR ⊢;have hWl:W.length<=1000000000:=hW▸hb2;have tk:List.take W.length (W.map DV.str)=W.map DV.str:=List.take_of_length_le (by simp);have hMl2:(M.upd (c+8+1) ⟨1,true,W.map DV.str⟩) (c+8)=some ⟨1,true,l.map DV.str++[.str [101,108,115,101]]⟩:=by rw [A2 (by omega)];exact hMl
  simp only [go_sem,seval,ne0,A0,tk,hMl2];refine N1 (E0 (by simp) (by omega) (by omega)) ?_;simp only [go_sem,seval,ne0,A0];repeat' ((with_reducible first|refine wr ?_|refine k_cu ?_ ?_|refine wb2 ?_ ?_<;>(intro hb;try simp only [hb])|fail)<;>try simp only [go_sem,seval,ne0,A0])
  have e1:R.length=l.length+1+W.length:=by rw [hR];simp;omega
  rw [<- e1];exact ⟨_,nil.upd (c+8+1+1) ⟨1,true,R.map DV.str⟩,P9 A0 (fun j hj=>.inl (by rw [A2 hj];rfl)) (by rw [A0,hR];simp),c+8+1+1,rfl,rfl⟩
theorem c_psD (k:Int) (n t:List UInt8) (a:List Ex) (x y:List Pb.St) (p:Int) (P:Pb.St->List (List UInt8)) (hX:OwL 59 [F7 x] (I2 P x)) (hY:OwL 59 [F7 y] (I2 P y))
  (hS:∀ s,y=[s]->OwL 102 [s.v] (P s)) (hb1:(I2 P x).length<=1000000000) (hb2:(I2 P y).length<=1000000000) (hb3:∀ s,y=[s]->(P s).length<=1000000000)
  (l R:List (List UInt8)) (id c:Nat) (hid:2<=id) (hc:id<c) (hl:l.length<=1000000000) (hR:R=l++A2v P k x y) :
  IW Tryz.prog 107 (pz Tryz.prog 102 (.o (.o (.o (.o (.i .h)))))) ⟨(tm [(1,.ptr 0 0),(3,.slc id 0 l.length),(4,.ptr 1 0)]),(((nil.upd 0 (pstB k n t a x y p)).upd 1 (pshB (N2 k))).upd id ⟨1,true,l.map DV.str⟩),c⟩ (rt [.tmp 2] fun v H' c' => ∃ v2 H2,GL H' [v] H2 [v2]/\∃ id,v2=.slc id 0 R.length/\H2=nil.upd id ⟨1,true,R.map DV.str⟩):=by
 unfold A2v at hR;have tk1:List.take (I2 P x).length ((I2 P x).map DV.str)=(I2 P x).map DV.str:=List.take_of_length_le (by simp);have ne0:=O1 0 1 id c (c+1) (by omega);cases hth:(N2 k).thn with
 | false =>
  rw [hth] at hR;rw [if_neg Bool.false_ne_true] at hR;repeat' ((with_reducible first|refine wr ?_|refine k_cu ?_ ?_|refine wb2 ?_ ?_<;>(intro hb;try simp only [hb])|fail)<;>try simp only [go_sem,seval,hth,ne0,A0])
  refine D1 (E0 (by simp) (by omega) (by omega)) ?_;simp only [go_sem,seval,ne0,A0];repeat' ((with_reducible first|refine wr ?_|refine k_cu ?_ ?_|refine wb2 ?_ ?_<;>(intro hb;try simp only [hb])|fail)<;>try simp only [go_sem,seval,ne0,A0])
  have e1:R.length=l.length+1:=by rw [hR];simp
  rw [<- e1];exact ⟨_,nil.upd (c+1) ⟨1,true,R.map DV.str⟩,P9 A0 (fun j hj=>.inl (by rw [A2 hj];rfl)) (by rw [A0,hR];simp),c+1,rfl,rfl⟩
 | true =>
  rw [hth] at hR;rw [if_pos rfl] at hR;repeat' ((with_reducible first|refine wr ?_|refine k_cu ?_ ?_|refine wb2 ?_ ?_<;>(intro hb;try simp only [hb])|fail)<;>try simp only [go_sem,seval,hth,ne0,A0])
  refine AC.call (hX _ _) ?_;rintro _ _ _ ⟨rfl,rfl,rfl⟩ -;simp only [go_sem,seval,ne0,A0,tk1];refine D1 (E0 (by simp) (by omega) (by omega)) ?_;simp only [go_sem,seval,ne0,A0];have e1:l.length+(I2 P x).length=(l++I2 P x).length:=by simp
  rw [e1];refine IW.weaken (Q7 (l:=[(1,.ptr 0 0),(3,.slc (c+1) 0 (l++I2 P x).length)]) ⟨rfl,rfl,trivial⟩) ?_ (c_psE k n t a x y p P hY hS hb2 hb3 (l++I2 P x) R (c+1) _ (by omega) (by omega) (by simp;omega) (by rw [hR,List.append_assoc]));intro j b hj;by_cases e:j=c+1
  ·subst e;rw [A0] at hj ⊢;rw [<- hj,List.map_append]
  ·rw [A2 e] at hj ⊢;by_cases e0:j=0
   ·subst e0;rw [A0] at hj;rw [<- hj];simp only [Hp.del];rw [if_neg (by omega),A2 (by omega),A2 (by omega),A2 (by omega),A0]
   ·rw [A2 e0] at hj;cases hj
theorem c_psC (k:Int) (n t:List UInt8) (a:List Ex) (x y:List Pb.St) (p:Int) (P:Pb.St->List (List UInt8)) (hX:OwL 59 [F7 x] (I2 P x)) (hY:OwL 59 [F7 y] (I2 P y))
  (hS:∀ s,y=[s]->OwL 102 [s.v] (P s)) (hb1:(I2 P x).length<=1000000000) (hb2:(I2 P y).length<=1000000000) (hb3:∀ s,y=[s]->(P s).length<=1000000000)
  (hE:∀ e∈a,OwL 65 [e.v] (txT (exT e))) (ha:a.length<=1000)
  (l R:List (List UInt8)) (id c:Nat) (hid:2<=id) (hc:id<c) (hRl:R.length<=1000000000) (hR:R=l++(agI 0 a++A2v P k x y)) :
  IW Tryz.prog 107 (pz Tryz.prog 102 (.i (.o (.o (.i .h))))) ⟨(tm [(1,.ptr 0 0),(3,.slc id 0 l.length),(4,.ptr 1 0)]),(((nil.upd 0 (pstB k n t a x y p)).upd 1 (pshB (N2 k))).upd id ⟨1,true,l.map DV.str⟩),c⟩ (rt [.tmp 2] fun v H' c' => ∃ v2 H2,GL H' [v] H2 [v2]/\∃ id,v2=.slc id 0 R.length/\H2=nil.upd id ⟨1,true,R.map DV.str⟩):=by
 have ne0:=T4 0 1 id c (by omega);repeat' ((with_reducible first|refine wr ?_|refine k_cu ?_ ?_|refine wb2 ?_ ?_<;>(intro hb;try simp only [hb])|fail)<;>try simp only [go_sem,seval,ne0,A0])
 refine X9 (fun q:Nat × Nat × List (List UInt8)=>[(1,.ptr 0 0),(3,.slc q.2.1 0 q.2.2.length),(4,.ptr 1 0),(44,K3 a),(45,I64 a.length),(46,I64 q.1)]) (fun q=>((nil.upd 0 (pstB k n t a x y p)).upd 1 (pshB (N2 k))).upd q.2.1 ⟨1,true,q.2.2.map DV.str⟩)
  (fun q cc=>q.1<=a.length/\2<=q.2.1/\q.2.1<cc/\R=q.2.2++(agI q.1 (a.drop q.1)++A2v P k x y)) (fun q=>a.length-q.1) (0,id,l) (fun b=>⟨rfl,rfl,rfl,rfl,rfl,rfl,trivial⟩) (by simp [D0,tm,Tm.upd]) (Sub.refl _) ⟨Nat.zero_le _,hid,hc,hR⟩ ?_
 clear ne0 hR hc hid;rintro ⟨i,id,cur⟩ c ⟨hi,hid,hc,hR⟩;simp only at hi hid hc hR;simp only;by_cases hlt:i<a.length
 ·have hd:decide ((i:Int)<a.length)=true:=by simpa using hlt
  have hg:=List.getElem?_eq_getElem hlt;have hw:IntKind.i64.wrap ((i:Int)+1)=((i+1:Nat):Int):=by rw [w64 (by omega) (by omega)];omega
  have hP:=hE _ (List.getElem_mem hlt);rw [List.drop_eq_getElem_cons hlt,agI] at hR;obtain ⟨e,he⟩:∃ e,e=a[i]:=⟨_,rfl⟩;rw [<- he] at hg hP hR;have hgm:(a.map Ex.v)[i]? = some e.v:=by rw [List.getElem?_map,hg];rfl
  rw [Ex.v_w] at hP hgm;have hle:cur.length+(txT (exT e)).length+1<=2000000000:=by
   have:=congrArg List.length hR;simp only [List.length_append] at this;omega
  have tk:List.take (txT (exT e)).length ((txT (exT e)).map DV.str)=(txT (exT e)).map DV.str:=List.take_of_length_le (by simp);have ne0:=nes7 0 1 id c (c+1) (c+1+1) (c+1+1+1) (by omega);by_cases h0:0<i
  ·have hp:decide ((i:Int)>0)=true:=by simpa using h0
   rw [if_pos h0] at hR;repeat' ((with_reducible first|refine wr ?_|refine k_cu ?_ ?_|refine wb2 ?_ ?_<;>(intro hb;try simp only [hb])|fail)<;>try simp only [go_sem,seval,ne0,A0,hd,hgm,hp,hw])
   refine D1 (E0 (by simp) (by omega) (by omega)) ?_;simp only [go_sem,seval,ne0,A0];repeat' ((with_reducible first|refine wr ?_|refine k_cu ?_ ?_|refine wb2 ?_ ?_<;>(intro hb;try simp only [hb])|fail)<;>try simp only [go_sem,seval,ne0,A0,hw])
   refine AC.call (hP _ _) ?_;rintro _ _ _ ⟨rfl,rfl,rfl⟩ -;simp only [go_sem,seval,ne0,A0,tk];refine D1 (E0 (by simp) (by omega) (by omega)) ?_;simp only [go_sem,seval,ne0,A0];repeat' ((with_reducible first|refine wr ?_|refine k_cu ?_ ?_|refine wb2 ?_ ?_<;>(intro hb;try simp only [hb])|fail)<;>try simp only [go_sem,seval,ne0,A0,hw])
   have e1:cur.length+1+(txT (exT e)).length=(cur++([44] :: txT (exT e))).length:=by simp;try omega
   rw [e1];refine ⟨(i+1,c+1+1+1+1,cur++([44] :: txT (exT e))),⟨rfl,rfl⟩,GL.less fun j=>?_,inv ⟨hlt,by simp only;omega,by simp only;omega,by simp only;rw [hR];simp⟩,by simp only;omega⟩;by_cases e:j=c+1+1+1+1
   ·subst e;right;rw [A0,A0];simp
   ·by_cases e2:j=0\/j=1
    ·right;rcases e2 with rfl|rfl<;>(rw [A2 e,A2 e];simp only [Hp.upd,Hp.del,ne0,if_true,if_false])
    ·left;rw [A2 e,A2 (by omega),A2 (by omega)];rfl
  ·have hp:decide ((i:Int)>0)=false:=by simpa using h0
   rw [if_neg h0] at hR;repeat' ((with_reducible first|refine wr ?_|refine k_cu ?_ ?_|refine wb2 ?_ ?_<;>(intro hb;try simp only [hb])|fail)<;>try simp only [go_sem,seval,ne0,A0,hd,hgm,hp,hw])
   refine AC.call (hP _ _) ?_;rintro _ _ _ ⟨rfl,rfl,rfl⟩ -;simp only [go_sem,seval,ne0,A0,tk];refine D1 (E0 (by simp) (by omega) (by omega)) ?_;simp only [go_sem,seval,ne0,A0];repeat' ((with_reducible first|refine wr ?_|refine k_cu ?_ ?_|refine wb2 ?_ ?_<;>(intro hb;try simp only [hb])|fail)<;>try simp only [go_sem,seval,ne0,A0,hw])
   have e1:cur.length+(txT (exT e)).length=(cur++txT (exT e)).length:=by simp;try omega
   rw [e1];refine ⟨(i+1,c+1+1,cur++txT (exT e)),⟨rfl,rfl⟩,GL.less fun j=>?_,inv ⟨hlt,by simp only;omega,by simp only;omega,by simp only;rw [hR];simp⟩,by simp only;omega⟩;by_cases e:j=c+1+1
   ·subst e;right;rw [A0,A0];simp
   ·by_cases e2:j=0\/j=1
    ·right;rcases e2 with rfl|rfl<;>(rw [A2 e,A2 e];simp only [Hp.upd,Hp.del,ne0,if_true,if_false])
    ·left;rw [A2 e,A2 (by omega),A2 (by omega)];rfl
 ·have hd:decide ((i:Int)<a.length)=false:=by simpa using hlt
  rw [List.drop_eq_nil_of_le (by omega),agI,List.nil_append] at hR;repeat' ((with_reducible first|refine E1 (p:=IW _ _ (pz Tryz.prog 102 (.o (.o (.o (.o (.i .h)))))) _ _) ?_|refine wr ?_|refine k_cu ?_ ?_|refine wb2 ?_ ?_<;>(intro hb;try simp only [hb])|fail)<;>try simp only [go_sem,seval,hd])
  unfold W8;exact IW.weaken (Q7 (l:=[(1,.ptr 0 0),(3,.slc id 0 cur.length),(4,.ptr 1 0)]) ⟨rfl,rfl,rfl,trivial⟩) (Sub.refl _) (c_psD k n t a x y p P hX hY hS hb1 hb2 hb3 cur R id c hid hc (by have:=congrArg List.length hR;simp only [List.length_append] at this;omega) hR)
theorem c_psB (k:Int) (n t:List UInt8) (a:List Ex) (x y:List Pb.St) (p:Int) (P:Pb.St->List (List UInt8)) (hX:OwL 59 [F7 x] (I2 P x)) (hY:OwL 59 [F7 y] (I2 P y))
  (hS:∀ s,y=[s]->OwL 102 [s.v] (P s)) (hb1:(I2 P x).length<=1000000000) (hb2:(I2 P y).length<=1000000000) (hb3:∀ s,y=[s]->(P s).length<=1000000000)
  (hE:∀ e∈a,OwL 65 [e.v] (txT (exT e))) (ha:a.length<=1000) (ht:t.length<=1000)
  (l R:List (List UInt8)) (id c:Nat) (hid:2<=id) (hc:id<c) (hRl:R.length<=1000000000) (hR:R=l++(txL k t++(agI 0 a++A2v P k x y))) :
  IW Tryz.prog 107 (pz Tryz.prog 102 (.i (.i (.o (.o .h))))) ⟨(tm [(1,.ptr 0 0),(3,.slc id 0 l.length),(4,.ptr 1 0)]),(((nil.upd 0 (pstB k n t a x y p)).upd 1 (pshB (N2 k))).upd id ⟨1,true,l.map DV.str⟩),c⟩ (rt [.tmp 2] fun v H' c' => ∃ v2 H2,GL H' [v] H2 [v2]/\∃ id,v2=.slc id 0 R.length/\H2=nil.upd id ⟨1,true,R.map DV.str⟩):=by
 have hq:=c_Quote t (by omega);have hl:l.length<=1000000000:=by
  have:=congrArg List.length hR;simp only [List.length_append] at this;omega
 unfold txL at hR;have ne0:=O1 0 1 id c (c+1) (by omega);cases htx:(N2 k).text with
 | false =>
  rw [htx,if_neg Bool.false_ne_true,List.nil_append] at hR;repeat' ((with_reducible first|refine E1 (p:=IW _ _ (pz Tryz.prog 102 (.i (.o (.o (.i .h))))) _ _) ?_|refine wr ?_|refine k_cu ?_ ?_|refine wb2 ?_ ?_<;>(intro hb;try simp only [hb])|fail)<;>try simp only [go_sem,seval,ne0,A0,htx])
  unfold W8;exact IW.weaken (Q7 (l:=[(1,.ptr 0 0),(3,.slc id 0 l.length),(4,.ptr 1 0)]) ⟨rfl,rfl,rfl,trivial⟩) (Sub.refl _) (c_psC k n t a x y p P hX hY hS hb1 hb2 hb3 hE ha l R id c hid hc hRl hR)
 | true =>
  rw [htx,if_pos rfl] at hR;repeat' ((with_reducible first|refine E1 (p:=IW _ _ (pz Tryz.prog 102 (.i (.o (.o (.i .h))))) _ _) ?_|refine wr ?_|refine cpc hq ?_|refine k_cu ?_ ?_|refine wb2 ?_ ?_<;>(intro hb;try simp only [hb])|fail)<;>try simp only [go_sem,seval,ne0,A0,htx])
  refine D1 (E0 (by simp) (by omega) (by omega)) ?_;simp only [go_sem,seval,ne0,A0];repeat' ((with_reducible first|refine E1 (p:=IW _ _ (pz Tryz.prog 102 (.i (.o (.o (.i .h))))) _ _) ?_|refine wr ?_|refine k_cu ?_ ?_|refine wb2 ?_ ?_<;>(intro hb;try simp only [hb])|fail)<;>try simp only [go_sem,seval,ne0,A0])
  unfold W8;have e1:l.length+2=(l++[S9 t,[44]]).length:=by simp
  rw [e1];refine IW.weaken (Q7 (l:=[(1,.ptr 0 0),(3,.slc (c+1) 0 (l++[S9 t,[44]]).length),(4,.ptr 1 0)]) ⟨rfl,rfl,rfl,trivial⟩) ?_ (c_psC k n t a x y p P hX hY hS hb1 hb2 hb3 hE ha (l++[S9 t,[44]]) R (c+1) _ (by omega) (by omega) hRl (by rw [hR];simp));intro j b hj;by_cases e:j=c+1
  ·subst e;rw [A0] at hj ⊢;rw [<- hj];simp
  ·rw [A2 e] at hj ⊢;by_cases e2:j=0\/j=1
   ·rw [<- hj];rcases e2 with rfl|rfl<;>simp only [Hp.upd,Hp.del,ne0,if_true,if_false]
   ·rw [A2 (by omega),A2 (by omega)] at hj;cases hj
theorem c_psA (k:Int) (n t:List UInt8) (a:List Ex) (x y:List Pb.St) (p:Int) (P:Pb.St->List (List UInt8)) (hX:OwL 59 [F7 x] (I2 P x)) (hY:OwL 59 [F7 y] (I2 P y))
  (hS:∀ s,y=[s]->OwL 102 [s.v] (P s)) (hb1:(I2 P x).length<=1000000000) (hb2:(I2 P y).length<=1000000000) (hb3:∀ s,y=[s]->(P s).length<=1000000000)
  (hE:∀ e∈a,OwL 65 [e.v] (txT (exT e))) (ha:a.length<=1000) (ht:t.length<=1000) (hRl:(psL P (.mk k n t a x y p)).length<=1000000000) :
  OwL 102 [(Pb.St.mk k n t a x y p).v] (psL P (.mk k n t a x y p)):=by
 have hsh:PC Tryz.prog 153 [I64 k] (.tup [.agg [.bool (N2 k).name,.bool (N2 k).text,I64 (N2 k).args,.bool (N2 k).thn,.bool (N2 k).els],.bool (kndB k)]):=c_shapeOf k;have hwd:=c_wordOf k;refine OwL.of (by simp [DV.nlL,DV.nl,St.nl]) ?_;refine AC.bodyT A7 rfl (Nat.le_of_ble_eq_true rfl) fun hfr=>?_;rw [Pb.St.v_w];dsimp only [Pb.St.w,Pb.St.kind,Pb.St.name,Pb.St.text,Pb.St.args,Pb.St.thn,Pb.St.els,Pb.St.pos];obtain ⟨R,hR⟩:∃ R,R=psL P (.mk k n t a x y p):=⟨_,rfl⟩;rw [<- hR] at hRl ⊢;rw [psL] at hR;unfold hdL at hR;by_cases h1:k=1
 ·have d1:(k == 1)=true:=by simpa using h1
  rw [if_pos h1] at hR;repeat' ((with_reducible first|refine E1 (p:=IW _ _ (pz Tryz.prog 102 (.i (.i (.o (.o .h))))) _ _) ?_|refine wr ?_|refine cpc hsh ?_|refine cpc hwd ?_|refine k_cu ?_ ?_|refine wb2 ?_ ?_<;>(intro hb;try simp only [hb])|fail)<;>try simp only [go_sem,seval,d1])
  refine D1 (A3v (by decide) (by decide) (by decide)) ?_;simp only [go_sem,seval,A0];repeat' ((with_reducible first|refine E1 (p:=IW _ _ (pz Tryz.prog 102 (.i (.i (.o (.o .h))))) _ _) ?_|refine wr ?_|refine k_cu ?_ ?_|refine wb2 ?_ ?_<;>(intro hb;try simp only [hb])|fail)<;>try simp only [go_sem,seval])
  unfold W8;refine IW.weaken (Q7 (l:=[(1,.ptr 0 0),(3,.slc 3 0 ([n,[61]]).length),(4,.ptr 1 0)]) ⟨rfl,rfl,rfl,trivial⟩) ?_ (c_psB k n t a x y p P hX hY hS hb1 hb2 hb3 hE ha ht ([n,[61]]) R 3 _ (by decide) (by decide) hRl hR);intro j b hj;by_cases e:j=3
  ·subst e;rw [A0] at hj ⊢;exact hj
  ·rw [A2 e] at hj ⊢;by_cases e2:j=0\/j=1
   ·rw [<- hj];rcases e2 with rfl|rfl<;>first|rfl|(unfold pshB;rw [hnm];rfl)
   ·rw [A2 (by omega),A2 (by omega)] at hj;cases hj
 ·have d1:(k == 1)=false:=by simpa using h1
  rw [if_neg h1] at hR;repeat' ((with_reducible first|refine E1 (p:=IW _ _ (pz Tryz.prog 102 (.i (.i (.o (.o .h))))) _ _) ?_|refine wr ?_|refine cpc hsh ?_|refine cpc hwd ?_|refine k_cu ?_ ?_|refine wb2 ?_ ?_<;>(intro hb;try simp only [hb])|fail)<;>try simp only [go_sem,seval,d1])
  refine D1 (A3v (by decide) (by decide) (by decide)) ?_;simp only [go_sem,seval,A0];cases hnm:(N2 k).name with
  | false =>
   rw [hnm,if_neg Bool.false_ne_true] at hR;repeat' ((with_reducible first|refine E1 (p:=IW _ _ (pz Tryz.prog 102 (.i (.i (.o (.o .h))))) _ _) ?_|refine wr ?_|refine k_cu ?_ ?_|refine wb2 ?_ ?_<;>(intro hb;try simp only [hb])|fail)<;>try simp only [go_sem,seval,hnm,A0])
   unfold W8;refine IW.weaken (Q7 (l:=[(1,.ptr 0 0),(3,.slc 3 0 ([O2 B6 U0 k]).length),(4,.ptr 1 0)]) ⟨rfl,rfl,rfl,trivial⟩) ?_ (c_psB k n t a x y p P hX hY hS hb1 hb2 hb3 hE ha ht ([O2 B6 U0 k]) R 3 _ (by decide) (by decide) hRl hR);intro j b hj;by_cases e:j=3
   ·subst e;rw [A0] at hj ⊢;exact hj
   ·rw [A2 e] at hj ⊢;by_cases e2:j=0\/j=1
    ·rw [<- hj];rcases e2 with rfl|rfl<;>first|rfl|(unfold pshB;rw [hnm];rfl)
    ·rw [A2 (by omega),A2 (by omega)] at hj;cases hj
  | true =>
   rw [hnm,if_pos rfl] at hR;repeat' ((with_reducible first|refine E1 (p:=IW _ _ (pz Tryz.prog 102 (.i (.i (.o (.o .h))))) _ _) ?_|refine wr ?_|refine k_cu ?_ ?_|refine wb2 ?_ ?_<;>(intro hb;try simp only [hb])|fail)<;>try simp only [go_sem,seval,hnm,A0])
   refine D1 (E0 rfl (by decide) (by decide)) ?_;simp only [go_sem,seval,A0];repeat' ((with_reducible first|refine E1 (p:=IW _ _ (pz Tryz.prog 102 (.i (.i (.o (.o .h))))) _ _) ?_|refine wr ?_|refine k_cu ?_ ?_|refine wb2 ?_ ?_<;>(intro hb;try simp only [hb])|fail)<;>try simp only [go_sem,seval])
   unfold W8;refine IW.weaken (Q7 (l:=[(1,.ptr 0 0),(3,.slc 5 0 ([O2 B6 U0 k,n]).length),(4,.ptr 1 0)]) ⟨rfl,rfl,rfl,trivial⟩) ?_ (c_psB k n t a x y p P hX hY hS hb1 hb2 hb3 hE ha ht ([O2 B6 U0 k,n]) R 5 _ (by decide) (by decide) hRl hR);intro j b hj;by_cases e:j=5
   ·subst e;rw [A0] at hj ⊢;exact hj
   ·rw [A2 e] at hj ⊢;by_cases e2:j=0\/j=1
    ·rw [<- hj];rcases e2 with rfl|rfl<;>first|rfl|(unfold pshB;rw [hnm];rfl)
    ·rw [A2 (by omega),A2 (by omega)] at hj;cases hj
theorem A0e {d:Nat}:∀ {l:List Pb.St},A1g d l=true->∀ s∈l,A1y d s=true
 | [],_,s,hs=>by cases hs
 | a :: l,h,s,hs=>by
  rw [A1g,Bool.and_eq_true] at h;rcases List.mem_cons.1 hs with rfl|hs
  ·exact h.1
  ·exact A0e h.2 s hs
theorem c_pblkT (l:List Pb.St) (hl:l.length<=4000000) (hP:∀ s∈l,OwL 102 [s.v] (txT (stT s))) (hB:Pb.St.szs l<=4000000):OwL 59 [F7 l] (txT (blT l)):=by
 rw [tx_blk];refine c_pblk _ l hl hP ?_;rw [<- A3n];have:=Z4 l;unfold txT;rw [List.length_map];omega
theorem c_prStmt:∀ (m:Nat) (s:Pb.St) (d:Nat),s.sz<m->s.sz<=4000000->A1y d s=true->OwL 102 [s.v] (txT (stT s)):=by
 intro m
 induction m with
 | zero=>intro s d h;omega
 | succ m ih =>
 intro s d hm hB hv;have hps:=ps_eq hv;have hlen:=(A3s s).2;obtain ⟨k,n,t,a,x,y,p⟩:=s;have hv2:=hv;unfold A1y at hv2;simp only [Bool.and_eq_true,decide_eq_true_eq,beq_iff_eq] at hv2;obtain ⟨⟨⟨⟨⟨k1,k2⟩,⟨ha,hE⟩⟩,⟨hn,ht⟩⟩,⟨hx,hy⟩⟩,⟨⟨⟨hx1,hx2⟩,hx3⟩,⟨⟨hy1,hy2⟩,hy3⟩⟩⟩:=hv2;have hsz:Pb.St.szs x+Pb.St.szs y+Ex.szs a+t.length<(Pb.St.mk k n t a x y p).sz:=by rw [Pb.St.sz];omega
 have hPx:∀ s∈x,OwL 102 [s.v] (txT (stT s)):=fun s hs=>ih s (d+1) (by have:=Pb.St.szs_mem hs;omega) (by have:=Pb.St.szs_mem hs;omega) (A0e hx3 s hs);have hPy:∀ s∈y,OwL 102 [s.v] (txT (stT s)):=fun s hs=>ih s (d+1) (by have:=Pb.St.szs_mem hs;omega) (by have:=Pb.St.szs_mem hs;omega) (A0e hy3 s hs);have hX:=c_pblkT x (by omega) hPx (by omega);have hY:=c_pblkT y (by omega) hPy (by omega);rw [tx_blk] at hX hY;have bl:∀ l:List Pb.St,Pb.St.szs l<=4000000->(I2 (fun s=>txT (stT s)) l).length<=1000000000:=fun l h=>by
  rw [<- tx_blk];have:=(A8q l).2;unfold txT;rw [List.length_map];omega
 have har:a.length<=1000:=by
  rw [ha];unfold N2;repeat' split
  all_goals decide
 have htl:t.length<=1000:=by
  by_cases hc:(N2 k).text=true
  ·rw [if_pos hc] at ht;unfold T7 at ht;simp only [Bool.and_eq_true,decide_eq_true_eq] at ht;omega
  ·rw [if_neg hc] at ht;rw [beq_iff_eq.1 ht];simp
 rw [<- hps];refine c_psA k n t a x y p _ hX hY (fun s hs=>hPy s (by rw [hs];simp)) (bl x (by omega)) (bl y (by omega)) (fun s hs=>?_) (fun e he=>?_) har htl (by rw [hps];unfold txT;rw [List.length_map];omega)
 ·have:=(A3s s).2;unfold txT;rw [List.length_map];have h2:=Pb.St.szs_mem (l:=y) (x:=s) (by rw [hs];simp);omega
 ·exact c_printed _ e (Nat.lt_succ_self _) (by have:=Ex.szs_mem he;omega) (vl_ms (List.all_eq_true.1 hE e he))
end Go.Proofs.YthlpinppaclofaaGreatDoor
namespace Go.Pb
variable [Go.Sym.Tab]
open Go.Sym
def dcL (d:Dc):List (List UInt8):=[C5.getD (d.kind-1).toNat [],d.name]++((if d.kind<7 then (if d.value<0 then [[45]] else [])++[R8 (if d.value<0 then -d.value else d.value)] else [])++[[59]])
theorem tx_num {v:Int} (h1:0<=v) (h2:v<=2147483647):txT (A2i v)=[R8 v]:=by
 unfold A2i;rw [if_neg (by omega)];rfl
theorem dc_eq {d:Dc} (h:A5y d=true):txT (dcT d)=dcL d:=by
 unfold A5y at h;simp only [Bool.and_eq_true,decide_eq_true_eq] at h;obtain ⟨⟨⟨⟨k1,k2⟩,hn⟩,v1⟩,v2⟩:=h;unfold dcT dcL;rw [if_neg (by omega)];dsimp only;by_cases h6:6<d.kind
 ·rw [if_pos h6,if_neg (show ¬ d.kind<7 by omega)];simp [E2,H3,L7,O5 hn]
 ·rw [if_neg h6,if_pos (show d.kind<7 by omega)];have v2':d.value<=2147483647:=by split at v2<;>omega
  by_cases hv:d.value<0
  ·have hk:d.kind=6:=by split at v1<;>omega
   have v1' : -2147483647<=d.value:=by rw [if_pos hk] at v1;exact v1
   rw [if_pos (show d.value<0 /\ -2147483647<=d.value/\d.kind=6 from ⟨hv,v1',hk⟩),if_pos hv,if_pos hv];simp [E2,H3,L7,O5 hn,tx_num (v := -d.value) (by omega) (by omega)]
  ·rw [if_neg (show ¬ (d.value<0 /\ -2147483647<=d.value/\d.kind=6) from fun hc=>hv hc.1),if_neg hv,if_neg hv];simp [E2,H3,L7,O5 hn,tx_num (v:=d.value) (by omega) v2']
def hdPr (h:Hd):List (List UInt8):=[[111,110],C9.getD (h.trig-1).toNat []]++((if 3<=h.trig then [h.name] else [])++txT (blT h.body))
theorem hd_eq {h:Hd} (hv:A1z h=true):txT (hdT h)=hdPr h:=by
 unfold A1z at hv;simp only [Bool.and_eq_true,decide_eq_true_eq] at hv;obtain ⟨⟨⟨k1,k2⟩,hn⟩, -⟩:=hv;unfold hdT hdPr;by_cases h3:3<=h.trig
 ·rw [if_pos h3] at hn;rw [if_pos (by omega),if_pos h3];simp [E2,H3,L7,O5 hn]
 ·rw [if_neg (by omega),if_neg h3];simp [E2,H3,L7]
def mdL (m:Md):List (List UInt8):=[[109,111,100,101],m.name,R8 m.prio,[123]]++(m.hds.flatMap hdPr++[[125]])
theorem A4e {α : Type} {f : α -> List Tok} {g : α -> List (List UInt8)}:∀ {l:List α},(∀ x∈l,txT (f x)=g x)->txT (l.flatMap f)=l.flatMap g
 | [],_=>rfl
 | a :: l,h=>by
  rw [List.flatMap_cons,List.flatMap_cons,E2,h a List.mem_cons_self,A4e fun x hx=>h x (List.mem_cons_of_mem _ hx)]
theorem md_eq {m:Md} (hv:A0n m=true):txT (mdT m)=mdL m:=by
 unfold A0n at hv;simp only [Bool.and_eq_true,decide_eq_true_eq] at hv;obtain ⟨⟨⟨⟨hn,p1⟩,p2⟩, -⟩,hh⟩:=hv;unfold mdT mdL;have hf:=A4e (l:=m.hds) (f:=hdT) (g:=hdPr) fun h hm=>hd_eq (List.all_eq_true.1 hh h hm);simp [E2,H3,L7,O5 hn,tx_num p1 p2,hf]
theorem ru_eq {r:Ru} (h:A7l r=true):txT (ruT r)=r.decls.flatMap dcL++r.modes.flatMap mdL:=by
 have h0:=h;unfold A7l at h;simp only [Bool.and_eq_true,decide_eq_true_eq] at h;obtain ⟨⟨-,h1⟩,h2⟩:=h;unfold ruT;rw [if_neg,E2,A4e fun d hd=>dc_eq (List.all_eq_true.1 h1 d hd),A4e fun m hm=>md_eq (List.all_eq_true.1 h2 m hm)];intro hb;obtain ⟨m,hm,hb⟩:=List.any_eq_true.1 hb;obtain ⟨g,hg,hb⟩:=List.any_eq_true.1 hb;have h3:=List.all_eq_true.1 h2 m hm;unfold A0n at h3;simp only [Bool.and_eq_true] at h3;have h4:=List.all_eq_true.1 h3.2 g hg;unfold A1z at h4;simp only [Bool.and_eq_true,decide_eq_true_eq] at h4;unfold hdBad at hb;simp only [Bool.or_eq_true,decide_eq_true_eq] at hb;omega
def ShT (t:Tok):Prop:=(R5 t).length<=1000
theorem sh_0:ShT Q6:=by show (R5 Q6).length<=1000;rw [show R5 Q6=[] from rfl];simp
theorem clo_sh:Clo ShT:=⟨fun t ht=>by obtain rfl:=List.mem_singleton.1 ht;exact sh_0,fun x h t ht=>by
  obtain rfl:=List.mem_singleton.1 ht;unfold ShT;rw [I8];omega,fun x t ht=>by
  unfold G2 at ht;by_cases h:D3 x=false
  ·rw [if_pos h] at ht;obtain rfl:=List.mem_singleton.1 ht;exact sh_0
  ·rw [if_neg h] at ht;obtain rfl:=List.mem_singleton.1 ht;have h1:D3 x=true:=by cases hx:D3 x with|true=>rfl|false=>exact absurd hx h
   unfold D3 at h1;simp only [Bool.and_eq_true,decide_eq_true_eq] at h1;show x.length<=1000;omega,fun x t ht=>by
  unfold A2i at ht;split at ht
  ·obtain rfl:=List.mem_singleton.1 ht;exact sh_0
  ·obtain rfl:=List.mem_singleton.1 ht;have:=decI_len (n:=x) (by omega) (by omega);show (R8 x).length<=1000;omega,fun x t ht=>by
  unfold A4n at ht;split at ht
  ·obtain rfl:=List.mem_singleton.1 ht;exact sh_0
  ·rename_i hc;obtain rfl:=List.mem_singleton.1 ht;have h2:¬ 32<x.length:=fun h=>hc (.inr h);have:=A6p x;show (S9 x).length<=1000;omega⟩
theorem sh_ruT (r:Ru):∀ t∈txT (ruT r),t.length<=100000:=fun t ht=>by
 obtain ⟨x,hx,rfl⟩:=List.mem_map.1 ht;have:(R5 x).length<=1000:=q_ruT clo_sh r x hx;omega
end Go.Pb
namespace Go.Proofs.YthlpinppaclofaaGreatDoor
open Go.Eng (IC IOper DReg IFn B5)
open Go.Sym Go.Pb
theorem c_fmZ (R:List (List UInt8)) (o:Option Nat) (c:Nat) (ho:∀ i,o=some i->i<c) (hn:o=none->R=[]) (hl:R.length<=1000000000) (hb:∀ t∈R,t.length<=100000) :
  IW Tryz.prog 105 (pz Tryz.prog 25 (.o (.o (.o (.i (.i (.o .h))))))) ⟨tm [(3,B3 o R.length)],C3 Sym.nil o ⟨1,true,R.map DV.str⟩,c⟩ (rt [.tmp 2] fun v H' _ => ∃ H2,GL H' [v] H2 [.str (R6 R)]):=by
 have hL:=c_lines R hl hb;rcases o with _|id
 ·obtain rfl:=hn rfl;repeat' ((with_reducible first|refine wr ?_|refine k_cu ?_ ?_|refine wb2 ?_ ?_<;>(intro hb;try simp only [hb])|fail)<;>try simp only [go_sem,seval])
  refine AC.call (hL.give (H0:=Sym.nil) ⟨fun _ h=>h,fun ρ w vs h1 h2=>⟨ρ,rfl,h1,?_,Ext.refl _ _ _⟩⟩) ?_
  ·exact ⟨h2.1,fun i x y hx hy=>by
    match i with
    | 0=>cases hx;exact (h2.2 0 _ y rfl hy).snil_lst
    | _+1=>cases hx⟩
  ·rintro v H' c' ⟨rfl,rfl,rfl⟩ -;simp only [go_sem,seval];repeat' ((with_reducible first|refine wr ?_|refine k_cu ?_ ?_|refine wb2 ?_ ?_<;>(intro hb;try simp only [hb])|fail)<;>try simp only [go_sem,seval])
   exact A5 rfl
 ·repeat' ((with_reducible first|refine wr ?_|refine k_cu ?_ ?_|refine wb2 ?_ ?_<;>(intro hb;try simp only [hb])|fail)<;>try simp only [go_sem,seval])
  refine AC.call (hL.give (H0:=Sym.nil) (GL.one (id:=id) A0 rfl (.cons _ _ _ _ (M0 (u:=1) (by rw [List.length_map]) (H4 _) ⟨[],by rw [Z9];simp⟩) .nil))) ?_;rintro v H' c' ⟨rfl,rfl,rfl⟩ -;simp only [go_sem,seval];repeat' ((with_reducible first|refine wr ?_|refine k_cu ?_ ?_|refine wb2 ?_ ?_<;>(intro hb;try simp only [hb])|fail)<;>try simp only [go_sem,seval])
  exact A5 rfl
abbrev A7v (ds:List Dc) (ms:List Md):Blk:=⟨0,true,[J5 ds,X7 ms]⟩
theorem W7 {M:Hp} {x y z c:Nat} {a b B0 Bc:Blk} (h0:M 0=some B0) (hc:M c=some Bc) (h1:0<c) (h2:c<x) (h3:x<y) (h4:y<z) :
  (((M.upd y a).del x).upd z b) 0=some B0/\(((M.upd y a).del x).upd z b) c=some Bc/\(((M.upd y a).del x).upd z b) z=some b:=by
 refine ⟨?_,?_,A0⟩
 ·rw [A2 (by omega)];simp only [Hp.del];rw [if_neg (by omega),A2 (by omega)];exact h0
 ·rw [A2 (by omega)];simp only [Hp.del];rw [if_neg (by omega),A2 (by omega)];exact hc
theorem c_fmD (ds:List Dc) (ms:List Md) (R rest:List (List UInt8)) (hds:ds.length<=1000) (hv:∀ d∈ds,A5y d=true) (hRl:R.length<=1000000000)
  (next:∀ (o:Option Nat) (cur:List (List UInt8)) (c:Nat),(∀ i,o=some i->0<i/\i<c)->(o=none->cur=[])->1<=c->R=cur++rest ->
   IW Tryz.prog 105 (pz Tryz.prog 25 (.o (.o (.i (.i (.o .h)))))) ⟨tm [(1,.ptr 0 0),(3,B3 o cur.length)],C3 (nil.upd 0 (A7v ds ms)) o ⟨1,true,cur.map DV.str⟩,c⟩ (rt [.tmp 2] fun v H' _ => ∃ H2,GL H' [v] H2 [.str (R6 R)]))
  (hR:R=ds.flatMap dcL++rest) :
  IW Tryz.prog 105 (pz Tryz.prog 25 (.i (.o (.i .h)))) ⟨tm [(1,.ptr 0 0),(3,.snil)],nil.upd 0 (A7v ds ms),1⟩ (rt [.tmp 2] fun v H' _ => ∃ H2,GL H' [v] H2 [.str (R6 R)]):=by
 repeat' ((with_reducible first|refine wr ?_|refine k_cu ?_ ?_|refine wb2 ?_ ?_<;>(intro hb;try simp only [hb])|fail)<;>try simp only [go_sem,seval,A0])
 refine X9 (fun q:Nat × Option Nat × List (List UInt8)=>[(1,.ptr 0 0),(3,B3 q.2.1 q.2.2.length),(14,J5 ds),(15,I64 ds.length),(16,I64 q.1)]) (fun q=>C3 (nil.upd 0 (A7v ds ms)) q.2.1 ⟨1,true,q.2.2.map DV.str⟩)
  (fun q cc=>q.1<=ds.length/\(∀ i,q.2.1=some i->0<i/\i<cc)/\(q.2.1=none->q.2.2=[])/\1<=cc/\R=q.2.2++((ds.drop q.1).flatMap dcL++rest)) (fun q=>ds.length-q.1) (0,none,[]) (fun b=>⟨rfl,rfl,rfl,rfl,rfl,trivial⟩) (by simp [D0,tm,Tm.upd,B3]) (Sub.refl _) ⟨Nat.zero_le _,by simp,by simp,by decide,hR⟩ ?_
 clear hR;rintro ⟨i,o,cur⟩ c ⟨hi,ho,hn,hc,hR⟩;simp only at hi ho hn hc hR;simp only;by_cases hlt:i<ds.length
 ·have hd:decide ((i:Int)<ds.length)=true:=by simpa using hlt
  have hg:=List.getElem?_eq_getElem hlt;have hw:IntKind.i64.wrap ((i:Int)+1)=((i+1:Nat):Int):=by rw [w64 (by omega) (by omega)];omega
  have hvd:=hv _ (List.getElem_mem hlt);rw [List.drop_eq_getElem_cons hlt,List.flatMap_cons] at hR;obtain ⟨d,hd0⟩:∃ d,d=ds[i]:=⟨_,rfl⟩;rw [<- hd0] at hg hvd hR;have hgm:(ds.map Dc.v)[i]? = some d.v:=by rw [List.getElem?_map,hg];rfl
  unfold A5y at hvd;simp only [Bool.and_eq_true,decide_eq_true_eq] at hvd;obtain ⟨⟨⟨⟨k1,k2⟩,hnm⟩,v1⟩,v2⟩:=hvd;obtain ⟨j,hj⟩:∃ j:Nat,d.kind=1+(j:Int):=⟨(d.kind-1).toNat,by omega⟩;have hwj:IntKind.i64.wrap (d.kind-1)=(j:Int):=by rw [w64 (by omega) (by omega)];omega
  have hjn:(d.kind-1).toNat=j:=by omega
  have hgj:(C5.map DV.str)[j]? = some (.str (C5.getD j [])):=by
   rw [List.getElem?_map,List.getD_eq_getElem?_getD,List.getElem?_eq_getElem (show j<C5.length from (by show j<8;omega))];rfl
  rw [dcL,hjn] at hR;generalize C5.getD j []=kw at hgj hR;repeat' ((with_reducible first|refine wr ?_|refine cpc c_pdecls ?_|refine k_cu ?_ ?_|refine wb2 ?_ ?_<;>(intro hb;try simp only [hb])|fail)<;>try simp only [go_sem,seval,A0,hd,hgm,hw])
  obtain ⟨M,hM⟩:∃ M,M=((C3 (nil.upd 0 (A7v ds ms)) o ⟨1,true,cur.map DV.str⟩).upd c ⟨0,true,[I64 0,.str [],I64 0,I64 0]⟩).upd c ⟨0,true,[I64 d.kind,.str d.name,I64 d.value,I64 d.pos]⟩:=⟨_,rfl⟩;rw [<- hM];have hMn:∀ j,c<j->M j=none:=fun j hj=>by
   rw [hM,A2 (by omega),A2 (by omega)];cases o with
   | none=>rw [opt_n,A2 (by omega)];rfl
   | some id=>have:=ho id rfl;rw [U3,A2 (by omega),A2 (by omega)];rfl
  have hMc:M c=some ⟨0,true,[I64 d.kind,.str d.name,I64 d.value,I64 d.pos]⟩:=by rw [hM];exact A0
  have hM0:M 0=some (A7v ds ms):=by
   rw [hM,A2 (by omega),A2 (by omega)];cases o with
   | none=>exact A0
   | some id=>have:=ho id rfl;rw [U3,A2 (by omega)];exact A0
  have hMo:∀ id,o=some id->M id=some ⟨1,true,cur.map DV.str⟩:=fun id hid=>by
   subst hid;have:=ho id rfl;rw [hM,A2 (by omega),A2 (by omega),U3];exact A0
  clear hM;refine ⟨by and_intros<;>exact hMn _ (by omega),?_⟩;simp only [go_sem,seval,hMc,hwj,hgj];have hcl:cur.length<=1000000000:=by
   have:=congrArg List.length hR;simp only [List.length_append] at this;omega
  refine N1 (F4 (cs:=cur.map DV.str) (fun e=>by rw [hn e];simp) (fun id hid=>by have:=ho id hid;rw [A2 (by omega)];exact hMo id hid) (by simp) (by omega) (by omega) (by omega)) ?_;obtain ⟨x,hx⟩:∃ x,x=c+1+12:=⟨_,rfl⟩;rw [<- hx];obtain ⟨M2,hM2⟩:∃ M2,M2=(R2 (M.upd (c+1+9) ⟨1,true,[.str kw,.str d.name]⟩) o).upd x ⟨1,true,cur.map DV.str++[.str kw,.str d.name]⟩:=⟨_,rfl⟩;rw [<- hM2];have e0:M2 0=some (A7v ds ms):=by
   rw [hM2,A2 (by omega)];cases o with
   | none=>show (M.upd _ _) 0=_;rw [A2 (by omega)];exact hM0
   | some id=>have:=ho id rfl;rw [R7,if_neg (by omega),A2 (by omega)];exact hM0
  have ec:M2 c=some ⟨0,true,[I64 d.kind,.str d.name,I64 d.value,I64 d.pos]⟩:=by
   rw [hM2,A2 (by omega)];cases o with
   | none=>show (M.upd _ _) c=_;rw [A2 (by omega)];exact hMc
   | some id=>have:=ho id rfl;rw [R7,if_neg (by omega),A2 (by omega)];exact hMc
  have el:M2 x=some ⟨1,true,(cur++[kw,d.name]).map DV.str⟩:=by rw [hM2,A0];simp
  clear hM2;have hxc:c<x:=by omega
  clear hx;obtain ⟨l2,hl2⟩:∃ l2,l2=cur++[kw,d.name]:=⟨_,rfl⟩;rw [<- hl2] at el;have hln:cur.length+2=l2.length:=by rw [hl2];simp
  rw [hln];have hl2l:l2.length<=1000000002:=by omega
  have ne0:=O1 0 c x (x+1) (x+1+1) (by omega);by_cases h7:d.kind<7
  ·have d7:decide (d.kind<7)=true:=by simpa using h7
   rw [if_pos h7] at hR;simp only [go_sem,seval,ec,el];by_cases hng:d.value<0
   ·have dn:decide (d.value<0)=true:=by simpa using hng
    have hwn:IntKind.i64.wrap (0-d.value) = -d.value:=by rw [w64 (by omega) (by split at v1<;>omega)];omega
    have hmx:(if -d.value>d.value then -d.value else d.value) = -d.value:=by rw [if_pos (by omega)]
    rw [if_pos hng,if_pos hng] at hR;repeat' ((with_reducible first|refine wr ?_|refine k_cu ?_ ?_|refine wb2 ?_ ?_<;>(intro hb;try simp only [hb])|fail)<;>try simp only [go_sem,seval,ne0,A0,e0,ec,el,d7,hw,dn,hwn,hmx])
    refine D1 (E0 (by simp) (by omega) (by omega)) ?_;simp only [go_sem,seval,ne0,A0];obtain ⟨f0,fc,f2⟩:=W7 (y:=x+1) (z:=x+1+1) (x:=x) (a:=⟨1,true,[.str [45]]⟩) (b:=⟨1,true,l2.map DV.str++[.str [45]]⟩) e0 ec (by omega) (by omega) (by omega) (by omega);obtain ⟨M3,hM3⟩:∃ M3,M3=((M2.upd (x+1) ⟨1,true,[.str [45]]⟩).del x).upd (x+1+1) ⟨1,true,l2.map DV.str++[.str [45]]⟩:=⟨_,rfl⟩;rw [<- hM3] at f0 fc f2 ⊢;clear hM3 e0 ec;obtain ⟨l3,hl3⟩:∃ l3,l3=l2++[[45]]:=⟨_,rfl⟩;have el3:M3 (x+1+1)=some ⟨1,true,l3.map DV.str⟩:=by rw [f2,hl3];simp
    clear f2;have e0:=f0;have ec:=fc;clear f0 fc;have hl3n:l2.length+1=l3.length:=by rw [hl3];simp
    rw [hl3n];obtain ⟨x3,hx3⟩:∃ x3,x3=x+1+1:=⟨_,rfl⟩;rw [<- hx3] at el3 ⊢;have ne0:=O1 0 c x3 (x3+1) (x3+1+1) (by omega);repeat' ((with_reducible first|refine wr ?_|refine k_cu ?_ ?_|refine wb2 ?_ ?_<;>(intro hb;try simp only [hb])|fail)<;>try simp only [go_sem,seval,ne0,A0,e0,ec,el3,d7,hw,dn,hwn,hmx])
    refine cpc (c_Itoa (-d.value) (by omega) (by split at v1<;>omega)) ?_;simp only [go_sem,seval,ne0,A0,el3];repeat' ((with_reducible first|refine wr ?_|refine k_cu ?_ ?_|refine wb2 ?_ ?_<;>(intro hb;try simp only [hb])|fail)<;>try simp only [go_sem,seval,ne0,A0,e0,ec,el3,d7,hw])
    refine D1 (E0 (by simp) (by omega) (by omega)) ?_;simp only [go_sem,seval,ne0,A0];obtain ⟨f0,fc,f2⟩:=W7 (y:=x3+1) (z:=x3+1+1) (x:=x3) (a:=⟨1,true,[.str (R8 (-d.value))]⟩) (b:=⟨1,true,l3.map DV.str++[.str (R8 (-d.value))]⟩) e0 ec (by omega) (by omega) (by omega) (by omega);obtain ⟨M4,hM4⟩:∃ M4,M4=((M3.upd (x3+1) ⟨1,true,[.str (R8 (-d.value))]⟩).del x3).upd (x3+1+1) ⟨1,true,l3.map DV.str++[.str (R8 (-d.value))]⟩:=⟨_,rfl⟩;rw [<- hM4] at f0 fc f2 ⊢;clear hM4 e0 ec;obtain ⟨l4,hl4⟩:∃ l4,l4=l3++[(R8 (-d.value))]:=⟨_,rfl⟩;have el4:M4 (x3+1+1)=some ⟨1,true,l4.map DV.str⟩:=by rw [f2,hl4];simp
    clear f2;have e0:=f0;have ec:=fc;clear f0 fc;have hl4n:l3.length+1=l4.length:=by rw [hl4];simp
    rw [hl4n];obtain ⟨x4,hx4⟩:∃ x4,x4=x3+1+1:=⟨_,rfl⟩;rw [<- hx4] at el4 ⊢;have ne0:=O1 0 c x4 (x4+1) (x4+1+1) (by omega);repeat' ((with_reducible first|refine wr ?_|refine k_cu ?_ ?_|refine wb2 ?_ ?_<;>(intro hb;try simp only [hb])|fail)<;>try simp only [go_sem,seval,ne0,A0,e0,ec,el4,d7,hw])
    refine D1 (E0 (by simp) (by omega) (by omega)) ?_;simp only [go_sem,seval,ne0,A0];repeat' ((with_reducible first|refine wr ?_|refine k_cu ?_ ?_|refine wb2 ?_ ?_<;>(intro hb;try simp only [hb])|fail)<;>try simp only [go_sem,seval,ne0,A0,hw])
    have e1:l4.length+1=(l4++[[59]]).length:=by simp
    rw [e1];obtain ⟨f0, -,f2⟩:=W7 (y:=x4+1) (z:=x4+1+1) (x:=x4) (a:=⟨1,true,[.str [59]]⟩) (b:=⟨1,true,l4.map DV.str++[.str [59]]⟩) e0 ec (by omega) (by omega) (by omega) (by omega);refine ⟨(i+1,some (x4+1+1),l4++[[59]]),⟨rfl,rfl⟩,GL.less' fun j b hj=>?_,inv ⟨hlt,(fun i h=>by cases h;omega),(fun h=>by cases h),by omega,by simp only;rw [hR,hl4,hl3,hl2];simp⟩,by simp only;omega⟩;simp only [U3] at hj;by_cases e:j=x4+1+1
    ·subst e;rw [A0] at hj;rw [f2, <- hj];simp
    ·rw [A2 e] at hj;by_cases e2:j=0
     ·subst e2;rw [A0] at hj;rw [f0, <- hj]
     ·rw [A2 e2] at hj;cases hj
   ·have dn:decide (d.value<0)=false:=by simpa using hng
    have hwn:IntKind.i64.wrap (0-d.value) = -d.value:=by rw [w64 (by split at v2<;>omega) (by omega)];omega
    have hmx:(if -d.value>d.value then -d.value else d.value)=d.value:=by
     by_cases h0 : -d.value>d.value
     ·omega
     ·rw [if_neg h0]
    rw [if_neg hng,if_neg hng] at hR;repeat' ((with_reducible first|refine wr ?_|refine k_cu ?_ ?_|refine wb2 ?_ ?_<;>(intro hb;try simp only [hb])|fail)<;>try simp only [go_sem,seval,ne0,A0,e0,ec,el,d7,hw,dn,hwn,hmx])
    refine cpc (c_Itoa d.value (by omega) (by split at v2<;>omega)) ?_;simp only [go_sem,seval,ne0,A0,el];repeat' ((with_reducible first|refine wr ?_|refine k_cu ?_ ?_|refine wb2 ?_ ?_<;>(intro hb;try simp only [hb])|fail)<;>try simp only [go_sem,seval,ne0,A0,e0,ec,el,d7,hw])
    refine D1 (E0 (by simp) (by omega) (by omega)) ?_;simp only [go_sem,seval,ne0,A0];obtain ⟨f0,fc,f2⟩:=W7 (y:=x+1) (z:=x+1+1) (x:=x) (a:=⟨1,true,[.str (R8 d.value)]⟩) (b:=⟨1,true,l2.map DV.str++[.str (R8 d.value)]⟩) e0 ec (by omega) (by omega) (by omega) (by omega);obtain ⟨M4,hM4⟩:∃ M4,M4=((M2.upd (x+1) ⟨1,true,[.str (R8 d.value)]⟩).del x).upd (x+1+1) ⟨1,true,l2.map DV.str++[.str (R8 d.value)]⟩:=⟨_,rfl⟩;rw [<- hM4] at f0 fc f2 ⊢;clear hM4 e0 ec;obtain ⟨l4,hl4⟩:∃ l4,l4=l2++[(R8 d.value)]:=⟨_,rfl⟩;have el4:M4 (x+1+1)=some ⟨1,true,l4.map DV.str⟩:=by rw [f2,hl4];simp
    clear f2;have e0:=f0;have ec:=fc;clear f0 fc;have hl4n:l2.length+1=l4.length:=by rw [hl4];simp
    rw [hl4n];obtain ⟨x4,hx4⟩:∃ x4,x4=x+1+1:=⟨_,rfl⟩;rw [<- hx4] at el4 ⊢;have ne0:=O1 0 c x4 (x4+1) (x4+1+1) (by omega);repeat' ((with_reducible first|refine wr ?_|refine k_cu ?_ ?_|refine wb2 ?_ ?_<;>(intro hb;try simp only [hb])|fail)<;>try simp only [go_sem,seval,ne0,A0,e0,ec,el4,d7,hw])
    refine D1 (E0 (by simp) (by omega) (by omega)) ?_;simp only [go_sem,seval,ne0,A0];repeat' ((with_reducible first|refine wr ?_|refine k_cu ?_ ?_|refine wb2 ?_ ?_<;>(intro hb;try simp only [hb])|fail)<;>try simp only [go_sem,seval,ne0,A0,hw])
    have e1:l4.length+1=(l4++[[59]]).length:=by simp
    rw [e1];obtain ⟨f0, -,f2⟩:=W7 (y:=x4+1) (z:=x4+1+1) (x:=x4) (a:=⟨1,true,[.str [59]]⟩) (b:=⟨1,true,l4.map DV.str++[.str [59]]⟩) e0 ec (by omega) (by omega) (by omega) (by omega);refine ⟨(i+1,some (x4+1+1),l4++[[59]]),⟨rfl,rfl⟩,GL.less' fun j b hj=>?_,inv ⟨hlt,(fun i h=>by cases h;omega),(fun h=>by cases h),by omega,by simp only;rw [hR,hl4,hl2];simp⟩,by simp only;omega⟩;simp only [U3] at hj;by_cases e:j=x4+1+1
    ·subst e;rw [A0] at hj;rw [f2, <- hj];simp
    ·rw [A2 e] at hj;by_cases e2:j=0
     ·subst e2;rw [A0] at hj;rw [f0, <- hj]
     ·rw [A2 e2] at hj;cases hj
  ·have d7:decide (d.kind<7)=false:=by simpa using h7
   rw [if_neg h7] at hR;simp only [go_sem,seval,ec,el];repeat' ((with_reducible first|refine wr ?_|refine k_cu ?_ ?_|refine wb2 ?_ ?_<;>(intro hb;try simp only [hb])|fail)<;>try simp only [go_sem,seval,ne0,A0,e0,ec,el,d7,hw])
   refine D1 (E0 (by simp) (by omega) (by omega)) ?_;simp only [go_sem,seval,ne0,A0];repeat' ((with_reducible first|refine wr ?_|refine k_cu ?_ ?_|refine wb2 ?_ ?_<;>(intro hb;try simp only [hb])|fail)<;>try simp only [go_sem,seval,ne0,A0,hw])
   have e1:l2.length+1=(l2++[[59]]).length:=by simp
   rw [e1];obtain ⟨f0, -,f2⟩:=W7 (y:=x+1) (z:=x+1+1) (x:=x) (a:=⟨1,true,[.str [59]]⟩) (b:=⟨1,true,l2.map DV.str++[.str [59]]⟩) e0 ec (by omega) (by omega) (by omega) (by omega);refine ⟨(i+1,some (x+1+1),l2++[[59]]),⟨rfl,rfl⟩,GL.less' fun j b hj=>?_,inv ⟨hlt,(fun i h=>by cases h;omega),(fun h=>by cases h),by omega,by simp only;rw [hR,hl2];simp⟩,by simp only;omega⟩;simp only [U3] at hj;by_cases e:j=x+1+1
   ·subst e;rw [A0] at hj;rw [f2, <- hj];simp
   ·rw [A2 e] at hj;by_cases e2:j=0
    ·subst e2;rw [A0] at hj;rw [f0, <- hj]
    ·rw [A2 e2] at hj;cases hj
 ·have hd:decide ((i:Int)<ds.length)=false:=by simpa using hlt
  rw [List.drop_eq_nil_of_le (by omega),List.flatMap_nil,List.nil_append] at hR;repeat' ((with_reducible first|refine E1 (p:=IW _ _ (pz Tryz.prog 25 (.o (.o (.i (.i (.o .h)))))) _ _) ?_|refine wr ?_|refine k_cu ?_ ?_|refine wb2 ?_ ?_<;>(intro hb;try simp only [hb])|fail)<;>try simp only [go_sem,seval,hd])
  unfold W8;exact IW.weaken (Q7 (l:=[(1,.ptr 0 0),(3,B3 o cur.length)]) ⟨rfl,rfl,trivial⟩) (Sub.refl _) (next o cur c ho hn hc hR)
abbrev pmdB (m:Md):Blk:=⟨0,true,[.str m.name,I64 m.prio,A2l m.hds,I64 m.pos]⟩
theorem A7h {M:Hp} {x y z c:Nat} {a b Bc:Blk} (hc:M c=some Bc) (h2:¬ c=x) (h3:¬ c=y) (h4:¬ c=z) :
  (((M.upd y a).del x).upd z b) c=some Bc/\(((M.upd y a).del x).upd z b) z=some b:=by
 refine ⟨?_,A0⟩;rw [A2 h4];simp only [Hp.del];rw [if_neg h2,A2 h3];exact hc
theorem c_fmH (m:Md) (Q:Exit->Go.Sym.St->Prop) (a55 a56 a57:DV) (R rest:List (List UInt8)) (hh:m.hds.length<=1000) (hv:∀ h∈m.hds,A1z h=true) (hS:∀ h∈m.hds,Pb.St.szs h.body<=4000000) (hRl:R.length<=1000000000)
  (l:List (List UInt8)) (id b c:Nat) (hid:id<c) (hb:b<c) (hne:¬ b=id) (hR:R=l++(m.hds.flatMap hdPr++rest))
  (next:∀ (id:Nat) (cur:List (List UInt8)) (c2:Nat),id<c2->c<=c2->R=cur++rest ->
   IW Tryz.prog 105 (pz Tryz.prog 25 (.o (.i (.i (.o (.i (.o .h))))))) ⟨tm [(3,.slc id 0 cur.length),(55,a55),(56,a56),(57,a57)],nil.upd id ⟨1,true,cur.map DV.str⟩,c2⟩ Q) :
  IW Tryz.prog 105 (pz Tryz.prog 25 (.i (.o (.i (.i (.i .h)))))) ⟨tm [(3,.slc id 0 l.length),(7,.ptr b 0),(55,a55),(56,a56),(57,a57)],(nil.upd b (pmdB m)).upd id ⟨1,true,l.map DV.str⟩,c⟩ Q:=by
 have hb0:((nil.upd b (pmdB m)).upd id ⟨1,true,l.map DV.str⟩) b=some (pmdB m):=by rw [A2 hne];exact A0
 repeat' ((with_reducible first|refine wr ?_|refine k_cu ?_ ?_|refine wb2 ?_ ?_<;>(intro hb;try simp only [hb])|fail)<;>try simp only [go_sem,seval,hb0])
 refine X9 (fun q:Nat × Nat × List (List UInt8)=>[(3,.slc q.2.1 0 q.2.2.length),(55,a55),(56,a56),(57,a57),(70,A2l m.hds),(71,I64 m.hds.length),(72,I64 q.1)]) (fun q=>nil.upd q.2.1 ⟨1,true,q.2.2.map DV.str⟩)
  (fun q cc=>q.1<=m.hds.length/\q.2.1<cc/\c<=cc/\R=q.2.2++((m.hds.drop q.1).flatMap hdPr++rest)) (fun q=>m.hds.length-q.1) (0,id,l) (fun b=>⟨rfl,rfl,rfl,rfl,rfl,rfl,rfl,trivial⟩) (by simp [D0,tm,Tm.upd]) (fun j b hj=>by
   by_cases e:j=id
   ·subst e;rw [A0] at hj ⊢;exact hj
   ·rw [A2 e] at hj;cases hj) ⟨Nat.zero_le _,hid,Nat.le_refl _,hR⟩ ?_
 clear hR hid hne hb0;rintro ⟨i,id,cur⟩ c3 ⟨hi,hid,hc3,hR⟩;simp only at hi hid hc3 hR;simp only;by_cases hlt:i<m.hds.length
 ·have hd:decide ((i:Int)<m.hds.length)=true:=by simpa using hlt
  have hg:=List.getElem?_eq_getElem hlt;have hw:IntKind.i64.wrap ((i:Int)+1)=((i+1:Nat):Int):=by rw [w64 (by omega) (by omega)];omega
  have hvd:=hv _ (List.getElem_mem hlt);have hsz:=hS _ (List.getElem_mem hlt);rw [List.drop_eq_getElem_cons hlt,List.flatMap_cons] at hR;obtain ⟨h,hh0⟩:∃ h,h=m.hds[i]:=⟨_,rfl⟩;rw [<- hh0] at hg hvd hR hsz;have hgm:(m.hds.map Hd.v)[i]? = some h.v:=by rw [List.getElem?_map,hg];rfl
  have hbk:=c_pblkT h.body (by have:=Pb.St.szs_len h.body;omega) (fun s hs=>by
   unfold A1z A1h at hvd;simp only [Bool.and_eq_true] at hvd;exact c_prStmt _ s 1 (Nat.lt_succ_self _) (by have:=Pb.St.szs_mem hs;omega) (A0e hvd.2.2 s hs)) hsz
  have hbl:(txT (blT h.body)).length<=1000000000:=by
   have:=(A8q h.body).2;unfold txT;rw [List.length_map];omega
  unfold A1z at hvd;simp only [Bool.and_eq_true,decide_eq_true_eq] at hvd;obtain ⟨⟨⟨k1,k2⟩,hnm⟩, -⟩:=hvd;obtain ⟨j,hj⟩:∃ j:Nat,h.trig=1+(j:Int):=⟨(h.trig-1).toNat,by omega⟩;have hwj:IntKind.i64.wrap (h.trig-1)=(j:Int):=by rw [w64 (by omega) (by omega)];omega
  have hjn:(h.trig-1).toNat=j:=by omega
  have hgj:(C9.map DV.str)[j]? = some (.str (C9.getD j [])):=by
   rw [List.getElem?_map,List.getD_eq_getElem?_getD,List.getElem?_eq_getElem (show j<C9.length from (by show j<6;omega))];rfl
  rw [hdPr,hjn] at hR;generalize C9.getD j []=kw at hgj hR;generalize txT (blT h.body)=W at hbk hbl hR;have hcl:cur.length<=1000000000:=by
   have:=congrArg List.length hR;simp only [List.length_append] at this;omega
  repeat' ((with_reducible first|refine wr ?_|refine cpc c_ptrigs ?_|refine k_cu ?_ ?_|refine wb2 ?_ ?_<;>(intro hb;try simp only [hb])|fail)<;>try simp only [go_sem,seval,A0,hd,hgm,hw])
  obtain ⟨M,hM⟩:∃ M,M=((nil.upd id ⟨1,true,cur.map DV.str⟩).upd c3 ⟨0,true,[I64 0,.str [],.snil,I64 0]⟩).upd c3 ⟨0,true,[I64 h.trig,.str h.name,F7 h.body,I64 h.pos]⟩:=⟨_,rfl⟩;rw [<- hM];have hMn:∀ j,c3<j->M j=none:=fun j hj=>by
   rw [hM,A2 (by omega),A2 (by omega),A2 (by omega)];rfl
  have hMc:M c3=some ⟨0,true,[I64 h.trig,.str h.name,F7 h.body,I64 h.pos]⟩:=by rw [hM];exact A0
  have hMo:M id=some ⟨1,true,cur.map DV.str⟩:=by rw [hM,A2 (by omega),A2 (by omega)];exact A0
  clear hM;refine ⟨by and_intros<;>exact hMn _ (by omega),?_⟩;simp only [go_sem,seval,hMc,hMo,hwj,hgj];rw [A2 (show ¬ id=c3+1+7 by omega),hMo];refine N1 (E0 (by simp) (by omega) (by omega)) ?_;obtain ⟨ec,el⟩:=A7h (M:=M) (x:=id) (y:=c3+1+7) (z:=c3+1+10) (c:=c3) (a:=⟨1,true,[.str [111,110],.str kw]⟩) (b:=⟨1,true,cur.map DV.str++[.str [111,110],.str kw]⟩) hMc (by omega) (by omega) (by omega);obtain ⟨M2,hM2⟩:∃ M2,M2=((M.upd (c3+1+7) ⟨1,true,[.str [111,110],.str kw]⟩).del id).upd (c3+1+10) ⟨1,true,cur.map DV.str++[.str [111,110],.str kw]⟩:=⟨_,rfl⟩;rw [<- hM2] at ec el ⊢;clear hM2;obtain ⟨x,hx⟩:∃ x,x=c3+1+10:=⟨_,rfl⟩;rw [<- hx] at el ⊢;have hxc:c3<x:=by omega
  clear hx;obtain ⟨l2,hl2⟩:∃ l2,l2=cur++[[111,110],kw]:=⟨_,rfl⟩;rw [show cur.map DV.str++[.str [111,110],.str kw]=l2.map DV.str by rw [hl2];simp] at el;have hln:cur.length+2=l2.length:=by rw [hl2];simp
  rw [hln];have hl2l:l2.length<=1000000002:=by omega
  have ne0:=T4 c3 x (x+1) (x+1+1) (by omega);by_cases h3:3<=h.trig
  ·have d3:decide (h.trig≥3)=true:=by simpa using h3
   rw [if_pos h3] at hR;simp only [go_sem,seval,ec,el];repeat' ((with_reducible first|refine wr ?_|refine k_cu ?_ ?_|refine wb2 ?_ ?_<;>(intro hb;try simp only [hb])|fail)<;>try simp only [go_sem,seval,ne0,A0,ec,el,d3,hw])
   refine D1 (E0 (by simp) (by omega) (by omega)) ?_;simp only [go_sem,seval,ne0,A0];obtain ⟨fc,f2⟩:=A7h (M:=M2) (x:=x) (y:=x+1) (z:=x+1+1) (c:=c3) (a:=⟨1,true,[.str h.name]⟩) (b:=⟨1,true,l2.map DV.str++[.str h.name]⟩) ec (by omega) (by omega) (by omega);obtain ⟨M3,hM3⟩:∃ M3,M3=((M2.upd (x+1) ⟨1,true,[.str h.name]⟩).del x).upd (x+1+1) ⟨1,true,l2.map DV.str++[.str h.name]⟩:=⟨_,rfl⟩;rw [<- hM3] at fc f2 ⊢;clear hM3 ec;obtain ⟨l3,hl3⟩:∃ l3,l3=l2++[h.name]:=⟨_,rfl⟩;have el3:M3 (x+1+1)=some ⟨1,true,l3.map DV.str⟩:=by rw [f2,hl3];simp
   clear f2;have hl3n:l2.length+1=l3.length:=by rw [hl3];simp
   rw [hl3n];obtain ⟨x3,hx3⟩:∃ x3,x3=x+1+1:=⟨_,rfl⟩;rw [<- hx3] at el3 ⊢;have ne0:=T4 c3 x3 (x3+1) (x3+1+1) (by omega);repeat' ((with_reducible first|refine wr ?_|refine k_cu ?_ ?_|refine wb2 ?_ ?_<;>(intro hb;try simp only [hb])|fail)<;>try simp only [go_sem,seval,ne0,A0,fc,el3,d3,hw])
   refine AC.call (hbk _ _) ?_;rintro _ _ _ ⟨rfl,rfl,rfl⟩ -;have tk:List.take W.length (W.map DV.str)=W.map DV.str:=List.take_of_length_le (by simp);simp only [go_sem,seval,ne0,A0,tk,el3];refine D1 (E0 (by simp) (by omega) (by omega)) ?_;simp only [go_sem,seval,ne0,A0];repeat' ((with_reducible first|refine wr ?_|refine k_cu ?_ ?_|refine wb2 ?_ ?_<;>(intro hb;try simp only [hb])|fail)<;>try simp only [go_sem,seval,ne0,A0,hw])
   have e1:l3.length+W.length=(l3++W).length:=by simp
   rw [e1];refine ⟨(i+1,x3+1+1,l3++W),⟨rfl,rfl⟩,GL.less' fun j b hj=>?_,inv ⟨hlt,by simp only;omega,by omega,by simp only;rw [hR,hl3,hl2];simp⟩,by simp only;omega⟩;simp only at hj;by_cases e:j=x3+1+1
   ·subst e;rw [A0] at hj ⊢;rw [<- hj];simp
   ·rw [A2 e] at hj;cases hj
  ·have d3:decide (h.trig≥3)=false:=by simpa using h3
   rw [if_neg h3] at hR;simp only [go_sem,seval,ec,el];repeat' ((with_reducible first|refine wr ?_|refine k_cu ?_ ?_|refine wb2 ?_ ?_<;>(intro hb;try simp only [hb])|fail)<;>try simp only [go_sem,seval,ne0,A0,ec,el,d3,hw])
   refine AC.call (hbk _ _) ?_;rintro _ _ _ ⟨rfl,rfl,rfl⟩ -;have tk:List.take W.length (W.map DV.str)=W.map DV.str:=List.take_of_length_le (by simp);simp only [go_sem,seval,ne0,A0,tk,el];refine D1 (E0 (by simp) (by omega) (by omega)) ?_;simp only [go_sem,seval,ne0,A0];repeat' ((with_reducible first|refine wr ?_|refine k_cu ?_ ?_|refine wb2 ?_ ?_<;>(intro hb;try simp only [hb])|fail)<;>try simp only [go_sem,seval,ne0,A0,hw])
   have e1:l2.length+W.length=(l2++W).length:=by simp
   rw [e1];refine ⟨(i+1,x+1+1,l2++W),⟨rfl,rfl⟩,GL.less' fun j b hj=>?_,inv ⟨hlt,by simp only;omega,by omega,by simp only;rw [hR,hl2];simp⟩,by simp only;omega⟩;simp only at hj;by_cases e:j=x+1+1
   ·subst e;rw [A0] at hj ⊢;rw [<- hj];simp
   ·rw [A2 e] at hj;cases hj
 ·have hd:decide ((i:Int)<m.hds.length)=false:=by simpa using hlt
  rw [List.drop_eq_nil_of_le (by omega),List.flatMap_nil,List.nil_append] at hR;repeat' ((with_reducible first|refine E1 (p:=IW _ _ (pz Tryz.prog 25 (.o (.i (.i (.o (.i (.o .h))))))) _ _) ?_|refine wr ?_|refine k_cu ?_ ?_|refine wb2 ?_ ?_<;>(intro hb;try simp only [hb])|fail)<;>try simp only [go_sem,seval,hd])
  unfold W8;exact IW.weaken (Q7 (l:=[(3,.slc id 0 cur.length),(55,a55),(56,a56),(57,a57)]) ⟨rfl,rfl,rfl,rfl,trivial⟩) (Sub.refl _) (next id cur c3 hid hc3 hR)
theorem c_fmM (ds:List Dc) (ms:List Md) (R:List (List UInt8)) (hms:ms.length<=1000) (hv:∀ m∈ms,A0n m=true) (hS:∀ m∈ms, ∀ h∈m.hds,Pb.St.szs h.body<=4000000) (hRl:R.length<=1000000000) (hRb:∀ t∈R,t.length<=100000)
  (o:Option Nat) (l:List (List UInt8)) (c:Nat) (ho:∀ i,o=some i->0<i/\i<c) (hn:o=none->l=[]) (hc:1<=c) (hR:R=l++ms.flatMap mdL) :
  IW Tryz.prog 105 (pz Tryz.prog 25 (.o (.o (.i (.i (.o .h)))))) ⟨tm [(1,.ptr 0 0),(3,B3 o l.length)],C3 (nil.upd 0 (A7v ds ms)) o ⟨1,true,l.map DV.str⟩,c⟩ (rt [.tmp 2] fun v H' _ => ∃ H2,GL H' [v] H2 [.str (R6 R)]):=by
 have h0:(C3 (nil.upd 0 (A7v ds ms)) o ⟨1,true,l.map DV.str⟩) 0=some (A7v ds ms):=by
  cases o with
  | none=>exact A0
  | some id=>have:=ho id rfl;rw [U3,A2 (by omega)];exact A0
 repeat' ((with_reducible first|refine wr ?_|refine k_cu ?_ ?_|refine wb2 ?_ ?_<;>(intro hb;try simp only [hb])|fail)<;>try simp only [go_sem,seval,h0])
 refine X9 (fun q:Nat × Option Nat × List (List UInt8)=>[(3,B3 q.2.1 q.2.2.length),(55,X7 ms),(56,I64 ms.length),(57,I64 q.1)]) (fun q=>C3 Sym.nil q.2.1 ⟨1,true,q.2.2.map DV.str⟩)
  (fun q cc=>q.1<=ms.length/\(∀ i,q.2.1=some i->i<cc)/\(q.2.1=none->q.2.2=[])/\R=q.2.2++(ms.drop q.1).flatMap mdL) (fun q=>ms.length-q.1) (0,o,l) (fun b=>⟨rfl,rfl,rfl,rfl,trivial⟩) (by simp [D0,tm,Tm.upd,B3]) (fun j b hj=>by
   cases o with
   | none=>cases hj
   | some id =>
    simp only [U3] at hj ⊢;by_cases e:j=id
    ·subst e;rw [A0] at hj ⊢;exact hj
    ·rw [A2 e] at hj;cases hj) ⟨Nat.zero_le _,fun i h=>(ho i h).2,hn,hR⟩ ?_
 clear hR hn ho h0;rintro ⟨i,o,cur⟩ c3 ⟨hi,ho,hn,hR⟩;simp only at hi ho hn hR;simp only;by_cases hlt:i<ms.length
 ·have hd:decide ((i:Int)<ms.length)=true:=by simpa using hlt
  have hg:=List.getElem?_eq_getElem hlt;have hw:IntKind.i64.wrap ((i:Int)+1)=((i+1:Nat):Int):=by rw [w64 (by omega) (by omega)];omega
  have hvd:=hv _ (List.getElem_mem hlt);have hsz:=hS _ (List.getElem_mem hlt);rw [List.drop_eq_getElem_cons hlt,List.flatMap_cons] at hR;obtain ⟨m,hm0⟩:∃ m,m=ms[i]:=⟨_,rfl⟩;rw [<- hm0] at hg hvd hR hsz;have hgm:(ms.map Md.v)[i]? = some m.v:=by rw [List.getElem?_map,hg];rfl
  unfold A0n at hvd;simp only [Bool.and_eq_true,decide_eq_true_eq] at hvd;obtain ⟨⟨⟨⟨hnm,p1⟩,p2⟩,hhl⟩,hh⟩:=hvd;have hit:=c_Itoa m.prio (by omega) (by omega);rw [mdL] at hR;have hcl:cur.length<=1000000000:=by
   have:=congrArg List.length hR;simp only [List.length_append] at this;omega
  repeat' ((with_reducible first|refine wr ?_|refine cpc hit ?_|refine k_cu ?_ ?_|refine wb2 ?_ ?_<;>(intro hb;try simp only [hb])|fail)<;>try simp only [go_sem,seval,A0,hd,hgm,hw])
  obtain ⟨M,hM⟩:∃ M,M=((C3 Sym.nil o ⟨1,true,cur.map DV.str⟩).upd c3 ⟨0,true,[.str [],I64 0,.snil,I64 0]⟩).upd c3 ⟨0,true,[.str m.name,I64 m.prio,A2l m.hds,I64 m.pos]⟩:=⟨_,rfl⟩;rw [<- hM];have hMn:∀ j,c3<j->M j=none:=fun j hj=>by
   rw [hM,A2 (by omega),A2 (by omega)];cases o with
   | none=>rfl
   | some id=>have:=ho id rfl;rw [U3,A2 (by omega)];rfl
  have hMc:M c3=some ⟨0,true,[.str m.name,I64 m.prio,A2l m.hds,I64 m.pos]⟩:=by rw [hM];exact A0
  have hMo:∀ id,o=some id->M id=some ⟨1,true,cur.map DV.str⟩:=fun id hid=>by
   subst hid;have:=ho id rfl;rw [hM,A2 (by omega),A2 (by omega),U3];exact A0
  clear hM;refine ⟨by and_intros<;>exact hMn _ (by omega),?_⟩;refine N1 (F4 (cs:=cur.map DV.str) (fun e=>by rw [hn e];simp) (fun id hid=>by have:=ho id hid;rw [A2 (by omega)];exact hMo id hid) (by simp) (by omega) (by omega) (by omega)) ?_;simp only [go_sem,seval];repeat' ((with_reducible first|refine E1 (p:=IW _ _ (pz Tryz.prog 25 (.i (.o (.i (.i (.i .h)))))) _ _) ?_|refine wr ?_|refine k_cu ?_ ?_|refine wb2 ?_ ?_<;>(intro hb;try simp only [hb])|fail)<;>try simp only [go_sem,seval,A0])
  unfold W8;have e4:cur.length+4=(cur++[[109,111,100,101],m.name,R8 m.prio,[123]]).length:=by simp
  rw [e4];refine IW.weaken (Q7 (l:=[(3,.slc (c3+1+9) 0 (cur++[[109,111,100,101],m.name,R8 m.prio,[123]]).length),(7,.ptr c3 0),(55,X7 ms),(56,I64 ms.length),(57,I64 i)]) ⟨rfl,rfl,rfl,rfl,rfl,trivial⟩) ?_ (c_fmH m _ _ _ _ R ([[125]]++(ms.drop (i+1)).flatMap mdL) (by omega) (fun h hm=>List.all_eq_true.1 hh h hm) hsz hRl (cur++[[109,111,100,101],m.name,R8 m.prio,[123]]) (c3+1+9) c3 _ (by omega) (by omega) (by omega) (by rw [hR];simp) ?_)
  ·intro j b hj;by_cases e:j=c3+1+9
   ·subst e;rw [A0] at hj ⊢;rw [<- hj];simp
   ·rw [A2 e] at hj ⊢;by_cases e2:j=c3
    ·subst e2;rw [A0] at hj;rw [<- hj];cases o with
     | none=>show (M.upd _ _) _=_;rw [A2 (by omega)];exact hMc
     | some id=>have:=ho id rfl;rw [R7,if_neg (by omega),A2 (by omega)];exact hMc
    ·rw [A2 e2] at hj;cases hj
  ·intro id cur2 c4 hid hc4 hR2;have hl2:cur2.length<=1000000000:=by
    have:=congrArg List.length hR2;simp only [List.length_append] at this;omega
   have ne0:=K0 id c4 (c4+1) (by omega);repeat' ((with_reducible first|refine wr ?_|refine k_cu ?_ ?_|refine wb2 ?_ ?_<;>(intro hb;try simp only [hb])|fail)<;>try simp only [go_sem,seval,ne0,A0,hw])
   refine D1 (E0 (by simp) (by omega) (by omega)) ?_;simp only [go_sem,seval,ne0,A0];repeat' ((with_reducible first|refine wr ?_|refine k_cu ?_ ?_|refine wb2 ?_ ?_<;>(intro hb;try simp only [hb])|fail)<;>try simp only [go_sem,seval,ne0,A0,hw])
   have e1:cur2.length+1=(cur2++[[125]]).length:=by simp
   rw [e1];refine ⟨(i+1,some (c4+1),cur2++[[125]]),⟨rfl,rfl⟩,GL.less' fun j b hj=>?_,inv ⟨hlt,(fun i h=>by cases h;omega),(fun h=>by cases h),by simp only;rw [hR2];simp⟩,by simp only;omega⟩;simp only [U3] at hj;by_cases e:j=c4+1
   ·subst e;rw [A0] at hj ⊢;rw [<- hj];simp
   ·rw [A2 e] at hj;cases hj
 ·have hd:decide ((i:Int)<ms.length)=false:=by simpa using hlt
  rw [List.drop_eq_nil_of_le (by omega),List.flatMap_nil,List.append_nil] at hR;subst hR;repeat' ((with_reducible first|refine E1 (p:=IW _ _ (pz Tryz.prog 25 (.o (.o (.o (.i (.i (.o .h))))))) _ _) ?_|refine wr ?_|refine k_cu ?_ ?_|refine wb2 ?_ ?_<;>(intro hb;try simp only [hb])|fail)<;>try simp only [go_sem,seval,hd])
  unfold W8;exact IW.weaken (Q7 (l:=[(3,B3 o R.length)]) ⟨rfl,trivial⟩) (Sub.refl _) (c_fmZ R o c3 ho hn hRl hRb)
theorem c_PFormat (r:Ru) (hB:r.sz<=3000000):PC Tryz.prog 25 [r.v] (.str (fmtR r)):=by
 have hv:=c_Valid r (by omega);refine PC.ofT A7 rfl (Nat.le_of_ble_eq_true rfl) (by simp [DV.nlL,DV.nl,X4,X3]) rfl ?_;unfold fmtR;cases hb:A7l r with
 | false =>
  rw [hb] at hv;rw [if_neg Bool.false_ne_true];repeat' ((with_reducible first|refine wr ?_|refine cpc hv ?_|refine k_cu ?_ ?_|refine wb2 ?_ ?_<;>(intro hb;try simp only [hb])|fail)<;>try simp only [go_sem,seval])
  exact A5 rfl
 | true =>
  rw [hb] at hv;rw [if_pos rfl];have hR:=ru_eq hb;have hsh:=sh_ruT r;have hl:=(ruT_len r).1;have hlen:(txT (ruT r)).length<=1000000000:=by unfold txT;rw [List.length_map];omega
  generalize txT (ruT r)=R at hR hsh hlen ⊢;unfold A7l at hb;simp only [Bool.and_eq_true,decide_eq_true_eq] at hb;obtain ⟨⟨⟨hd,hm⟩,h1⟩,h2⟩:=hb;have hbod:∀ m∈r.modes, ∀ h∈m.hds,Pb.St.szs h.body<=4000000:=fun m hm h hh=>by
   have e1:h.sz<=(m.hds.map Hd.sz).sum:=N8 hh;have e2:m.sz<=(r.modes.map Md.sz).sum:=N8 hm;have e3:h.sz=1+h.name.length+Pb.St.szs h.body:=rfl;have e4:m.sz=1+m.name.length+(m.hds.map Hd.sz).sum:=rfl;have e5:r.sz=(r.decls.map Dc.sz).sum+(r.modes.map Md.sz).sum:=rfl;omega
  repeat' ((with_reducible first|refine E1 (p:=IW _ _ (pz Tryz.prog 25 (.i (.o (.i .h)))) _ _) ?_|refine wr ?_|refine cpc hv ?_|refine k_cu ?_ ?_|refine wb2 ?_ ?_<;>(intro hb;try simp only [hb])|fail)<;>try simp only [go_sem,seval])
  unfold W8;refine IW.weaken (Q7 (l:=[(1,.ptr 0 0),(3,.snil)]) ⟨rfl,rfl,trivial⟩) (Sub.refl _) ?_;exact c_fmD r.decls r.modes R (r.modes.flatMap mdL) (by omega) (fun d hd=>List.all_eq_true.1 h1 d hd) hlen (fun o cur c ho hn hc hR2=>c_fmM r.decls r.modes R (by omega) (fun m hm=>List.all_eq_true.1 h2 m hm) hbod hlen hsh o cur c ho hn hc hR2) hR
open Go.Sym
abbrev x12:XT Tryz.prog 12:=mkF (by unfold B5;conv=>lhs;reduce;simp only [seval,u8n]) (fun h=>by conv=>lhs;cbv)
instance t12:FT Tryz.prog 12 x12.d:=x12.ft
abbrev x14:XT Tryz.prog 14:=mkF (by unfold B5;conv=>lhs;reduce;simp only [seval,u8n]) (fun h=>by conv=>lhs;cbv)
instance t14:FT Tryz.prog 14 x14.d:=x14.ft
abbrev x35:XT Tryz.prog 35:=mkF (by unfold B5;conv=>lhs;reduce;simp only [seval,u8n]) (fun h=>by conv=>lhs;cbv)
instance t35:FT Tryz.prog 35 x35.d:=x35.ft
abbrev x8:XT Tryz.prog 8:=mkF (by unfold B5;conv=>lhs;reduce;simp only [seval,u8n]) (fun h=>by conv=>lhs;cbv)
instance t8:FT Tryz.prog 8 x8.d:=x8.ft
end Go.Proofs.YthlpinppaclofaaGreatDoor
namespace Go.Pb
variable [Go.Sym.Tab]
open Go.Sym
abbrev T3:=Int × List UInt8 × Int
def st3 (t:Tok):T3:=(t.kind,t.text,t.value)
end Go.Pb
set_option maxHeartbeats 1000000
namespace Go.Pb
variable [Go.Sym.Tab]
open Go.Sym
def kwL:List (List UInt8):=C5++C9++B6++C4++F1++P5++[[41],[59],[44],[61],[123],[125],[101,108,115,101],[109,111,100,101],[111,110]]
structure Clv (Q:Tok->Prop):Prop where
 w:∀ x∈kwL,Q (C8 x)
 n:∀ x,D3 x=true->Q ⟨1,x,0,0⟩
 v:∀ x,0<=x->x<=2147483647->Q ⟨3,[],x,0⟩
 t:∀ x,T7 x=true->Q ⟨4,x,0,0⟩
section
variable {Q:Tok->Prop} (C:Clv Q)
include C
end
end Go.Pb
namespace Go.Pb
variable [Go.Sym.Tab]
open Go.Sym
theorem lines_ne {l:List (List UInt8)} (h:l≠[]):R6 l≠[]:=by
 cases l with
 | nil=>exact absurd rfl h
 | cons w l =>
  unfold R6 lnT;rw [List.map_cons,List.flatten_cons];split<;>simp
theorem ruT_ne {r:Ru} (h:r≠⟨[],[]⟩):ruT r≠[]:=by
 unfold ruT;split
 ·simp
 obtain ⟨D,M⟩:=r;dsimp only;intro e;rw [List.append_eq_nil_iff] at e;cases D with
 | cons d D =>
  have h1:=e.1;rw [List.flatMap_cons,List.append_eq_nil_iff] at h1;have h2:=h1.1;unfold dcT at h2;split at h2
  ·cases h2
  ·simp at h2
 | nil =>
  cases M with
  | nil=>exact h rfl
  | cons m M =>
   have h1:=e.2;rw [List.flatMap_cons,List.append_eq_nil_iff] at h1;have h2:=h1.1;unfold mdT at h2;simp at h2
theorem fmt_ne {r:Ru} (hv:A7l r=true) (h:r≠⟨[],[]⟩):fmtR r≠[]:=by
 unfold fmtR;rw [if_pos hv];refine lines_ne ?_;unfold txT;intro e;rw [List.map_eq_nil_iff] at e;exact ruT_ne h e
section
variable {L:List Tok} {E:Int}
end
end Go.Pb
namespace Go.Pb
variable [Go.Sym.Tab]
open Go.Sym
def Mo {α : Type} (a b:Option α):Prop:=∀ r,a=some r->b=some r
theorem Mo.refl {α : Type} (a:Option α):Mo a a:=fun _ h=>h
theorem Mo.none {α : Type} (b:Option α):Mo none b:=fun _ h=>by cases h
section
variable (L:List Tok) (E:Int)
theorem ME.all:∀ f:Nat,(∀ n s,Mo (E5 L E f n s) (E5 L E (f+1) n s))/\(∀ n e s,Mo (K2 L E f n e s) (K2 L E (f+1) n e s))/\(∀ s,Mo (J6 L E f s) (J6 L E (f+1) s))
 | 0=>⟨fun _ _=>Mo.none _,fun _ _ _=>Mo.none _,fun _=>Mo.none _⟩
 | f+1=>by
  obtain ⟨hb,hl,hu⟩:=ME.all f;refine ⟨fun n s=>?_,fun n e s=>?_,fun s=>?_⟩
  ·rw [E5,E5];split
   ·exact hu s
   cases h:E5 L E f (n+1) s with
   | none=>exact Mo.none _
   | some q=>rw [hb _ _ _ h];exact hl _ _ _
  ·rw [K2,K2];dsimp only;split
   ·exact Mo.refl _
   cases h:E5 L E f (n+1) (A8 s) with
   | none=>exact Mo.none _
   | some q =>
    rw [hb _ _ _ h];dsimp only;split
    ·exact Mo.refl _
    ·exact hl _ _ _
  ·rw [J6,J6];dsimp only;split
   ·exact Mo.refl _
   split
   ·exact Mo.refl _
   split
   ·cases h:E5 L E f 1 { i:=(B7 L E s (s.par+1) 16 50).i+1,e:=(B7 L E s (s.par+1) 16 50).e,pos:=(B7 L E s (s.par+1) 16 50).pos,ops:=(B7 L E s (s.par+1) 16 50).ops,par:=(B7 L E s (s.par+1) 16 50).par+1 } with
    | none=>exact Mo.none _
    | some q=>rw [hb _ _ _ h];exact Mo.refl _
   ·cases h:J6 L E f { i:=(B7 L E s (s.par+1) 16 50).i+1,e:=(B7 L E s (s.par+1) 16 50).e,pos:=(B7 L E s (s.par+1) 16 50).pos,ops:=(B7 L E s (s.par+1) 16 50).ops,par:=(B7 L E s (s.par+1) 16 50).par+1 } with
    | none=>exact Mo.none _
    | some q=>rw [hu _ _ h];exact Mo.refl _
theorem X6 (f:Nat) (s:Rd):Mo (F2 L E f s) (F2 L E (f+1) s):=(ME.all L E f).1 _ _
theorem mo_tail (f:Nat) (k p:Int) (s:Rd):Mo (P6 L E f k p s) (P6 L E (f+1) k p s):=by
 unfold P6;split
 ·cases h:F2 L E f s with
  | none=>exact Mo.none _
  | some q=>rw [X6 L E f _ _ h];exact Mo.refl _
 split
 ·cases h:F2 L E f (C1 L E (A6 L E s 4).2 [44]) with
  | none=>exact Mo.none _
  | some q=>rw [X6 L E f _ _ h];exact Mo.refl _
 split
 ·exact Mo.refl _
 dsimp only;split
 ·cases h:F2 L E f (A6 L E s 1).2 with
  | none=>exact Mo.none _
  | some q =>
   rw [X6 L E f _ _ h];dsimp only;split
   ·cases h2:F2 L E f (C1 L E q.2 [44]) with
    | none=>exact Mo.none _
    | some q2=>rw [X6 L E f _ _ h2];exact Mo.refl _
   ·exact Mo.refl _
 ·exact Mo.refl _
theorem MS.all:∀ f:Nat,(∀ d s,Mo (E9 L E f d s) (E9 L E (f+1) d s))/\(∀ d l s,Mo (J0 L E f d l s) (J0 L E (f+1) d l s)) /\
  (∀ d s,Mo (G5 L E f d s) (G5 L E (f+1) d s))/\(∀ d s,Mo (K9 L E f d s) (K9 L E (f+1) d s))
 | 0=>⟨fun _ _=>Mo.none _,fun _ _ _=>Mo.none _,fun _ _=>Mo.none _,fun _ _=>Mo.none _⟩
 | f+1=>by
  obtain ⟨hb,hl,hs,ho⟩:=MS.all f;refine ⟨fun d s=>?_,fun d l s=>?_,fun d s=>?_,fun d s=>?_⟩
  ·rw [E9,E9];exact hl _ _ _
  ·rw [J0,J0];split
   ·split
    ·exact Mo.refl _
    cases h:G5 L E f d (B7 L E s ((l.length:Int)+1) 64 9) with
    | none=>exact Mo.none _
    | some q=>rw [hs _ _ _ h];exact hl _ _ _
   ·exact Mo.refl _
  ·rw [G5,G5];dsimp only;split
   ·exact Mo.refl _
   split
   ·cases h:F2 L E f (C1 L E (A6 L E (B7 L E s d 8 50) 1).2 [61]) with
    | none=>exact Mo.none _
    | some q=>rw [X6 L E f _ _ h];exact Mo.refl _
   split
   ·cases h:F2 L E f (A8 (B7 L E s d 8 50)) with
    | none=>exact Mo.none _
    | some q =>
     rw [X6 L E f _ _ h];dsimp only;cases h2:E9 L E f (d+1) q.2 with
     | none=>exact Mo.none _
     | some q2 =>
      rw [hb _ _ _ h2];dsimp only;split
      ·cases h3:K9 L E f d (A8 q2.2) with
       | none=>exact Mo.none _
       | some q3=>rw [ho _ _ _ h3];exact Mo.refl _
      ·exact Mo.refl _
   ·exact mo_tail L E f _ _ _
  ·rw [K9,K9];split
   ·cases h:G5 L E f (d+1) s with
    | none=>exact Mo.none _
    | some q=>rw [hs _ _ _ h];exact Mo.refl _
   ·exact hb _ _
theorem mo_mlp:∀ (f:Nat) (l:List Hd) (s:Rd),Mo (L9 L E f l s) (L9 L E (f+1) l s)
 | 0,_,_=>Mo.none _
 | f+1,l,s=>by
  rw [L9,L9];split
  ·split
   ·exact Mo.refl _
   dsimp only;split
   ·exact Mo.refl _
   generalize hk:(if 2<=B4 L E (C1 L E (B7 L E s ((l.length:Int)+1) 32 9) [111,110]) C9 then (A6 L E (A8 (C1 L E (B7 L E s ((l.length:Int)+1) 32 9) [111,110])) 1).2 else A8 (C1 L E (B7 L E s ((l.length:Int)+1) 32 9) [111,110]))=s4;cases h:E9 L E f 1 s4 with
   | none=>exact Mo.none _
   | some q=>rw [(MS.all L E f).1 _ _ _ h];exact mo_mlp f _ _
  ·exact Mo.refl _
theorem mo_mod (f:Nat) (s:Rd):Mo (Z8 L E f s) (Z8 L E (f+1) s):=by
 unfold Z8;dsimp only;cases h:L9 L E f [] (C1 L E (A6 L E (A6 L E (C1 L E s [109,111,100,101]) 1).2 3).2 [123]) with
 | none=>exact Mo.none _
 | some q=>rw [mo_mlp L E f _ _ _ h];exact Mo.refl _
theorem mo_rld:∀ (f:Nat) (l:List Dc) (s:Rd),Mo (O0 L E f l s) (O0 L E (f+1) l s)
 | 0,_,_=>Mo.none _
 | f+1,l,s=>by
  rw [O0,O0];dsimp only;split
  ·exact Mo.refl _
  split
  ·exact mo_rld f _ _
  ·exact mo_rld f _ _
theorem mo_rlm:∀ (f:Nat) (l:List Md) (s:Rd),Mo (L8 L E f l s) (L8 L E (f+1) l s)
 | 0,_,_=>Mo.none _
 | f+1,l,s=>by
  rw [L8,L8];dsimp only;split
  ·split
   ·exact Mo.refl _
   split
   ·cases h:Z8 L E f (B7 L E s ((l.length:Int)+1) 16 9) with
    | none=>exact Mo.none _
    | some q=>rw [mo_mod L E f _ _ h];exact mo_rlm f _ _
   ·exact mo_rlm f _ _
  ·exact Mo.refl _
theorem mo_rul (f:Nat) (s:Rd):Mo (A0x L E f s) (A0x L E (f+1) s):=by
 unfold A0x;cases h:O0 L E f [] s with
 | none=>exact Mo.none _
 | some q =>
  rw [mo_rld L E f _ _ _ h];dsimp only;cases h2:L8 L E f [] q.2 with
  | none=>exact Mo.none _
  | some q2=>rw [mo_rlm L E f _ _ _ h2];exact Mo.refl _
end
theorem mo_evt {α : Type} {g:Nat->Option α} (h:∀ f,Mo (g f) (g (f+1))) {f:Nat} {r : α} (hf:g f=some r):Evt g r:=by
 refine ⟨f,fun k hk=>?_⟩
 induction k with
 | zero =>
  obtain rfl:f=0:=(by omega);exact hf
 | succ k ih =>
  by_cases e:f=k+1
  ·subst e;exact hf
  ·exact h k r (ih (by omega))
theorem rulF_at {L:List Tok} {E:Int} {f:Nat} {r:Ru × Rd} (h:A0x L E f rd0=some r):Z5 L E=r:=(A7u L E).uniq (mo_evt (mo_rul L E · rd0) h)
theorem xpnF_at {L:List Tok} {E:Int} {f:Nat} {r:Ex × Rd} (h:F2 L E f rd0=some r):xpnF L E=r:=(xpnF_e L E).uniq (mo_evt (X6 L E · rd0) h)
def errK (s:List UInt8) (N:Nat):Option Int :=
 let q:=B9 s
 if q.2.2≠0 then some q.2.2 else match A0x q.1 s.length N rd0 with
  | none=>none
  | some w=>some w.2.e
theorem err_par {s:List UInt8} {N:Nat} {e:Int} (h:errK s N=some e):(M8 s).2.2=e:=by
 unfold errK at h;dsimp only at h;unfold M8;dsimp only;split at h
 ·rename_i g;rw [if_pos g];exact Option.some.inj h
 ·rename_i g;rw [if_neg g];split at h
  ·cases h
  ·rename_i w hw;rw [rulF_at hw];have h:=Option.some.inj h;unfold okR;rw [h];split
   ·rfl
   ·rename_i g2;have:(e == 0)=true:=by simpa using g2
    exact (by simpa using this:e=0).symm
theorem parM_at {s:List UInt8} {r:Ru} {i N:Nat} {p o q:Int} (h1:(B9 s).2.2=0) (h2:A0x (B9 s).1 s.length N rd0=some (r,⟨i,0,p,o,q⟩)):M8 s=(r,0,0):=by
 unfold M8;dsimp only;rw [if_neg (by rw [h1];decide),rulF_at h2,if_neg (by show ¬ ((0:Int) == 0)=false;decide)]
theorem parE_at {s:List UInt8} {r:Ex} {i N:Nat} {p o q:Int} (h1:(B9 s).2.2=0) (h2:F2 (B9 s).1 s.length N rd0=some (r,⟨i,0,p,o,q⟩)) (hi:(B9 s).1.length<=i):A8b s=(r,0,0):=by
 unfold A8b;dsimp only;rw [if_neg (by rw [h1];decide),xpnF_at h2];dsimp only;have hz:(if okR (⟨i,0,p,o,q⟩:Rd)=true/\i<(B9 s).1.length then J2 (B9 s).1 s.length ⟨i,0,p,o,q⟩ else ⟨i,0,p,o,q⟩)=⟨i,0,p,o,q⟩:=if_neg fun h=>absurd h.2 (Nat.not_lt.2 hi);rw [hz,if_neg (by show ¬ ((0:Int) == 0)=false;decide)]
end Go.Pb
set_option maxHeartbeats 8000000
namespace Go.Proofs.YthlpinppaclofaaGreatDoor
open Go.Eng (IC IOper DReg IFn B5)
open Go.Sym Go.Pb
def sl1:List UInt8:=[49,43,50,42,120]
def sl2:List UInt8:=[40,49,43,50,41,42,120]
def sl3:List UInt8:=[108,97,109,112,32,108,32,51,59,32,109,111,100,101,32,109,32,49,32,123,32,111,110,32,115,116,97,114,116,32,123,32,108,105,103,104,116,32,108,32,56,59,32,125,32,125]
def se1:Ex:=.mk 15 0 [] [.mk 1 1 [] [] 0,.mk 12 0 [] [.mk 1 2 [] [] 2,.mk 2 0 [120] [] 4] 3] 1
def se2:Ex:=.mk 12 0 [] [.mk 15 0 [] [.mk 1 1 [] [] 1,.mk 1 2 [] [] 3] 2,.mk 2 0 [120] [] 6] 5
def sr3:Ru:=⟨[⟨3,[108],3,0⟩],[⟨[109],1,[⟨1,[],[.mk 8 [108] [] [.mk 1 8 [] [] 40] [] [] 32],21⟩],10⟩]⟩
theorem sp1:A8b sl1=(se1,0,0):=parE_at (N:=60) (i:=5) (p:=0) (o:=3) (q:=0) (by decide +kernel) (by kernel_rfl) (by decide +kernel)
theorem sp2:A8b sl2=(se2,0,0):=parE_at (N:=60) (i:=7) (p:=0) (o:=3) (q:=0) (by decide +kernel) (by kernel_rfl) (by decide +kernel)
theorem sp3:M8 sl3=(sr3,0,0):=parM_at (N:=60) (i:=17) (p:=0) (o:=1) (q:=0) (by decide +kernel) (by kernel_rfl)
theorem sf2:fmtE se2=[40,32,49,32,43,32,50,32,41,32,42,32,120]:=by decide +kernel
theorem sv3:A7l sr3=true:=by decide +kernel
theorem c_sane31:PC Tryz.prog 12 [] (.bool true):=by
 have p1:=c_PParseE sl1 (by decide);have p2:=c_PParseE sl2 (by decide);have p3:=c_PParse sl3 (by decide);rw [sp1] at p1;rw [sp2] at p2;rw [sp3] at p3;have f2:=c_PFormatE se2 (by decide);rw [sf2] at f2;have f3:=c_PFormat sr3 (by decide);have v3:=c_Valid sr3 (by decide);rw [sv3] at v3;have hne:(fmtR sr3 == [])=false:=by
  have:=fmt_ne sv3 (by unfold sr3;simp);simpa using this
 generalize fmtR sr3=t3 at f3 hne;dsimp only [parV,parEV] at p1 p2 p3;have e3:sr3.v=.agg [J5 sr3.decls,.lst [(sr3.modes.map Md.v).getD 0 (.bool true)]]:=rfl;rw [e3] at p3 f3 v3;generalize sr3.decls.map Dc.v=d1 at *;generalize (sr3.modes.map Md.v).getD 0 (.bool true)=m1 at *;have e2:=Ex.v_w se2;have e1:se1.v=.agg [I64 15,I64 0,.str [],.lst [(Ex.mk 1 1 [] [] 0).v,.agg [I64 12,I64 0,.str [],K3 [.mk 1 2 [] [] 2,.mk 2 0 [120] [] 4],I64 3]],I64 1]:=by unfold se1;rw [Ex.v_w];simp [Ex.v_w,Ex.kind,Ex.value,Ex.name,Ex.args,Ex.pos]
 rw [e1] at p1;generalize (Ex.mk 1 1 [] [] 0).v=x1 at *;generalize K3 [.mk 1 2 [] [] 2,.mk 2 0 [120] [] 4]=x2 at *;rw [e2] at p2 f2;unfold sl1 at p1;unfold sl2 at p2;unfold sl3 at p3;have hi1:A5f 5 (.lst [x1,.agg [I64 12,I64 0,.str [],x2,I64 3]]) (.int .i64 1)=some (.fptr [I64 12,I64 0,.str [],x2,I64 3]):=r_iadn (l:=1);refine PC.ofT A7 rfl (Nat.le_of_ble_eq_true rfl) (by simp [DV.nlL,DV.nl]) (by simp [DV.nlL,DV.nl]) ?_;repeat' ((with_reducible first|refine wr ?_|refine cpc p1 ?_|refine cpc p2 ?_|refine cpc p3 ?_|refine cpc f2 ?_|refine cpc f3 ?_|refine cpc v3 ?_|refine k_cu ?_ ?_|refine wb2 ?_ ?_<;>(intro hb;try simp only [hb])|fail)<;>try simp only [go_sem,seval,hne,hi1])
 all_goals exact A5 rfl
theorem c_parses (s:List UInt8) (hs:s.length<=100000):PC Tryz.prog 14 [.str s] (.bool true):=by
 have h1:=c_PParse s hs;have h2:=c_Parse s (by omega);have hz:=parM_sz s;have h3:=c_Same31 (M8 s).1 (M8 s).1 (by omega);rw [ruEq_t rfl] at h3;have hpv:parV (M8 s)=.tup [(M8 s).1.v,I64 (M8 s).2.1,I64 (M8 s).2.2]:=rfl;rw [hpv] at h1 h2;generalize (M8 s).1=r at h1 h2 h3;generalize (M8 s).2.1=r1 at h1 h2;generalize (M8 s).2.2=r2 at h1 h2;have hrv:r.v=.agg [J5 r.decls,X7 r.modes]:=rfl;rw [hrv] at h1 h2 h3;have b1:(r1 == r1)=true:=by simp
 have b2:(r2 == r2)=true:=by simp
 refine PC.ofT A7 rfl (Nat.le_of_ble_eq_true rfl) (by simp [DV.nlL,DV.nl]) (by simp [DV.nlL,DV.nl]) ?_;repeat' ((with_reducible first|refine wr ?_|refine cpc h1 ?_|refine cpc h2 ?_|refine cpc h3 ?_|refine k_cu ?_ ?_|refine wb2 ?_ ?_<;>(intro hb;try simp only [hb])|fail)<;>try simp only [go_sem,seval,b1,b2])
 all_goals exact A5 rfl
theorem cat2 (a b:List UInt8) (h:a.length+b.length<=100000000):∃ x,x=a++b/\x.length=a.length+b.length/\binR .add (.str a) (.str b)=some (.str x) :=
 ⟨_,rfl,by simp,sadd (by omega)⟩
end Go.Proofs.YthlpinppaclofaaGreatDoor
namespace Go.Pb
variable [Go.Sym.Tab]
open Go.Sym
def tmS (s:List UInt8):Nat->List UInt8
 | 0=>[]
 | n+1=>tmS s n++s
theorem E6 (s:List UInt8):∀ n,(tmS s n).length=n * s.length
 | 0=>by simp [tmS]
 | n+1=>by rw [tmS,List.length_append,E6 s n,Nat.succ_mul]
def lmP:List UInt8:=[109,111,100,101,32,109,32,49,32,123,32]
def lmS:List UInt8:=[109,111,100,101,32,109,32,49,32,123,32,111,110,32,115,116,97,114,116,32,123,32]
def lmC:List UInt8:=[109,111,100,101,32,109,32,49,32,123,32,111,110,32,115,116,97,114,116,32,123,32,115,99,111,114,101,32]
def lm1:List UInt8:=[109,111,100,101,32,109,32,49,32,123,32,111,110,32,115,116,97,114,116,32,123,32,115,99,111,114,101,32,49]
def lmE:List UInt8:=[59,32,125,32,125]
def lmT0 (d:Nat):List UInt8:=tmS [116,105,109,101,114,32,116,59,32] (127+d)
def lmT1 (d:Nat):List UInt8:=tmS [109,111,100,101,32,109,32,49,32,123,32,125,32] (15+d)
def lmT2 (d:Nat):List UInt8:=(lmP++tmS [111,110,32,115,116,97,114,116,32,123,32,125,32] (31+d))++[125]
def lmT3 (d:Nat):List UInt8:=(lmS++tmS [99,111,110,115,117,109,101,59,32] (63+d))++[125,32,125]
def lmT4 (d:Nat):List UInt8:=(((lmS++tmS [105,102,32,116,114,117,101,32,123,32] (6+d))++[99,111,110,115,117,109,101,59,32])++tmS [125,32] (6+d))++[125,32,125]
def lmT5 (d:Nat):List UInt8:=(lm1++tmS [32,43,32,49] (30+d))++lmE
def lmT6 (d:Nat):List UInt8:=(((lmC++tmS [40] (15+d))++[49])++tmS [41] (15+d))++lmE
def lmT7 (d:Nat):List UInt8:=(lmC++tmS [45] (15+d))++[49,59,32,125,32,125]
def lmB (t:Nat->List UInt8) (ov:Int) (N:Nat):Bool:=(List.range 3).all fun d=>errK (t d) N == some (if d=2 then ov else 0)
theorem A3a {t:Nat->List UInt8} {ov:Int} {N:Nat} (h:lmB t ov N=true) {d:Nat} (hd:d<3):(M8 (t d)).2.2=if d=2 then ov else 0:=by
 have h1:=List.all_eq_true.1 h d (List.mem_range.2 hd);exact err_par (by simpa using h1)
theorem lm0:lmB lmT0 9 400=true:=by decide +kernel
theorem lm1':lmB lmT1 9 400=true:=by decide +kernel
theorem lm2:lmB lmT2 9 400=true:=by decide +kernel
theorem lm3:lmB lmT3 9 400=true:=by decide +kernel
theorem lm4:lmB lmT4 50 400=true:=by decide +kernel
theorem lm5:lmB lmT5 9 400=true:=by decide +kernel
theorem lm6:lmB lmT6 50 400=true:=by decide +kernel
theorem lm7:lmB lmT7 50 400=true:=by decide +kernel
end Go.Pb
namespace Go.Proofs.YthlpinppaclofaaGreatDoor
open Go.Eng (IC IOper DReg IFn B5)
open Go.Sym Go.Pb
theorem c_times (s:List UInt8) (hs:s.length<=100) (n:Nat) (hn:n<=200):PC Tryz.prog 35 [.str s,I64 (n:Nat)] (.str (tmS s n)):=by
 refine PC.ofT A7 rfl (Nat.le_of_ble_eq_true rfl) (by simp [DV.nlL,DV.nl]) rfl ?_;repeat' ((with_reducible first|refine wr ?_|refine k_cu ?_ ?_|refine wb2 ?_ ?_<;>(intro hb;try simp only [hb])|fail)<;>try simp only [go_sem,seval])
 refine D5 (fun k:Nat=>[(0,.str s),(1,I64 ((n-k:Nat):Int)),(5,.str (tmS s k))]) (fun _=>Sym.nil) (fun k c=>k<=n) (fun k=>n-k) 0 (by simp [D0,tm,Tm.upd,tmS]) (Sub.nil _) (Nat.zero_le _) ?_;rintro k c hk;by_cases hlt:k<n
 ·have hd:decide (((n-k:Nat):Int)>0)=true:=decide_eq_true (by omega);have hw:IntKind.i64.wrap (((n-k:Nat):Int)-1)=((n-(k+1):Nat):Int):=by rw [w64 (by omega) (by omega)];omega
  have hlen:=E6 s k;have hm:k * s.length<=200 * 100:=Nat.mul_le_mul (by omega) hs;obtain ⟨x,hx, -,h2⟩:=cat2 (tmS s k) s (by omega);subst hx;repeat' ((with_reducible first|refine wr ?_|refine k_cu ?_ ?_|refine wb2 ?_ ?_<;>(intro hb;try simp only [hb])|fail)<;>try simp only [go_sem,seval,hd,hw,h2])
  exact ⟨k+1,by simp [D0,tm,Tm.upd,tmS],Sub.nil _,inv (by omega),by omega⟩
 ·have hd:decide (((n-k:Nat):Int)>0)=false:=decide_eq_false (by omega);have he:k=n:=by omega
  subst he;repeat' ((with_reducible first|refine wr ?_|refine k_cu ?_ ?_|refine wb2 ?_ ?_<;>(intro hb;try simp only [hb])|fail)<;>try simp only [go_sem,seval,hd])
  exact A5 rfl
theorem c_lmF (d:Nat) (hd:d<3) (s:List UInt8) (hs:s.length<=100000) (ov:Int) (h:(M8 s).2.2=if d=2 then ov else 0) :
  IW Tryz.prog 109 (pz Tryz.prog 8 (.o (.o (.i (.i (.o .h)))))) ⟨tm [(5,I64 ((d:Int)-1)),(6,.str s),(7,I64 ov)],Sym.nil,0⟩ (rt [Eng.RV.tmp 4] fun v H' x => ∃ H2,GL H' [v] H2 [DV.bool true]):=by
 have hs1:=c_sane31;have hp:=c_PParse s hs;have hps:=c_parses s hs;have hpv:parV (M8 s)=.tup [(M8 s).1.v,I64 (M8 s).2.1,I64 (M8 s).2.2]:=rfl;have hrv:∀ r:Ru,r.v=.agg [J5 r.decls,X7 r.modes]:=fun _=>rfl;rw [hpv,h,hrv] at hp;by_cases h2:d=2
 ·have hdd:decide (((d:Int)-1)>0)=true:=decide_eq_true (by omega);rw [if_pos h2] at hp;have hoo:(ov == ov)=true:=by simp
  repeat' ((with_reducible first|refine wr ?_|refine cpc hp ?_|refine cpc hps ?_|refine cpc hs1 ?_|refine k_cu ?_ ?_|refine wb2 ?_ ?_<;>(intro hb;try simp only [hb])|fail)<;>try simp only [go_sem,seval,hdd,hoo])
  all_goals exact A5 rfl
 ·have hdd:decide (((d:Int)-1)>0)=false:=decide_eq_false (by omega);rw [if_neg h2] at hp;repeat' ((with_reducible first|refine wr ?_|refine cpc hp ?_|refine cpc hps ?_|refine cpc hs1 ?_|refine k_cu ?_ ?_|refine wb2 ?_ ?_<;>(intro hb;try simp only [hb])|fail)<;>try simp only [go_sem,seval,hdd])
  all_goals exact A5 rfl
theorem c_SyntaxLimits (x y:UInt8):PC Tryz.prog 8 [.int .u8 (x.toNat:Int),.int .u8 (y.toNat:Int)] (.bool true):=by
 have hs:=c_sane31;have hx:=x.toNat_lt;have hy:=y.toNat_lt;have hr1:binR .rem (.int .u8 (x.toNat:Int)) (.int .u8 3)=some (.int .u8 ((x.toNat % 3:Nat):Int)):=by rw [r_rem (by decide)];rfl
 have hr2:binR .rem (.int .u8 (y.toNat:Int)) (.int .u8 8)=some (.int .u8 ((y.toNat % 8:Nat):Int)):=by rw [r_rem (by decide)];rfl
 have hd:x.toNat % 3<3:=Nat.mod_lt _ (by decide);have hj:y.toNat % 8<8:=Nat.mod_lt _ (by decide);generalize x.toNat % 3=d at hr1 hd;generalize y.toNat % 8=j at hr2 hj;have w0:IntKind.i64.wrap (d:Int)=(d:Int):=w64 (by omega) (by omega);have w1:IntKind.i64.wrap ((d:Int)-1)=(d:Int)-1:=w64 (by omega) (by omega);refine PC.ofT A7 rfl (Nat.le_of_ble_eq_true rfl) (by simp [DV.nlL,DV.nl]) rfl ?_;have hcat:∀ a b:List UInt8,a.length+b.length<=100000000->binR .add (.str a) (.str b)=some (.str (a++b)):=fun a b h=>by
  obtain ⟨x,rfl, -,h2⟩:=cat2 a b h;exact h2
 obtain h|h|h|h|h|h|h|h:j=0\/j=1\/j=2\/j=3\/j=4\/j=5\/j=6\/j=7:=by omega
 ·subst h;have v0:IntKind.i64.wrap (128+((d:Int)-1))=((127+d:Nat):Int):=by rw [w64 (by omega) (by omega)];omega
  have t0:=c_times [116,105,109,101,114,32,116,59,32] (by decide) (127+d) (by omega);have hq:=A3a lm0 hd;repeat' ((with_reducible first|refine E1 (p:=IW _ _ (pz Tryz.prog 8 (.o (.o (.i (.i (.o .h)))))) _ _) ?_|refine wr ?_|refine cpc t0 ?_|refine k_cu ?_ ?_|refine wb2 ?_ ?_<;>(intro hb;try simp only [hb])|fail)<;>try simp only [go_sem,seval,hr1,hr2,w0,w1,v0])
  refine IW.stage (L:=[(5,I64 ((d:Int)-1)),(6,.str (lmT0 d)),(7,I64 9)]) ?_ (c_lmF d hd (lmT0 d) (by simp [lmT0,E6,lmP,lmS,lmC,lm1,lmE];try omega) 9 hq);exact ⟨rfl,rfl,rfl,trivial⟩
 ·subst h;have v0:IntKind.i64.wrap (16+((d:Int)-1))=((15+d:Nat):Int):=by rw [w64 (by omega) (by omega)];omega
  have t0:=c_times [109,111,100,101,32,109,32,49,32,123,32,125,32] (by decide) (15+d) (by omega);have hq:=A3a lm1' hd;repeat' ((with_reducible first|refine E1 (p:=IW _ _ (pz Tryz.prog 8 (.o (.o (.i (.i (.o .h)))))) _ _) ?_|refine wr ?_|refine cpc t0 ?_|refine k_cu ?_ ?_|refine wb2 ?_ ?_<;>(intro hb;try simp only [hb])|fail)<;>try simp only [go_sem,seval,hr1,hr2,w0,w1,v0])
  refine IW.stage (L:=[(5,I64 ((d:Int)-1)),(6,.str (lmT1 d)),(7,I64 9)]) ?_ (c_lmF d hd (lmT1 d) (by simp [lmT1,E6,lmP,lmS,lmC,lm1,lmE];try omega) 9 hq);exact ⟨rfl,rfl,rfl,trivial⟩
 ·subst h;have v0:IntKind.i64.wrap (32+((d:Int)-1))=((31+d:Nat):Int):=by rw [w64 (by omega) (by omega)];omega
  have t0:=c_times [111,110,32,115,116,97,114,116,32,123,32,125,32] (by decide) (31+d) (by omega);obtain ⟨s0,e0,a0⟩:∃ z:List UInt8,z=(([109,111,100,101,32,109,32,49,32,123,32]:List UInt8))++(tmS [111,110,32,115,116,97,114,116,32,123,32,125,32] (31+d))/\binR .add (.str (([109,111,100,101,32,109,32,49,32,123,32]:List UInt8))) (.str (tmS [111,110,32,115,116,97,114,116,32,123,32,125,32] (31+d)))=some (.str z):=⟨_,rfl,hcat _ _ (by simp [E6,lmP,lmS,lmC,lm1,lmE];omega)⟩;obtain ⟨s1,e1,a1⟩:∃ z:List UInt8,z=s0++(([125]:List UInt8))/\binR .add (.str s0) (.str (([125]:List UInt8)))=some (.str z):=⟨_,rfl,hcat _ _ (by rw [e0];simp [E6,lmP,lmS,lmC,lm1,lmE];omega)⟩;have hq:=A3a lm2 hd;repeat' ((with_reducible first|refine E1 (p:=IW _ _ (pz Tryz.prog 8 (.o (.o (.i (.i (.o .h)))))) _ _) ?_|refine wr ?_|refine cpc t0 ?_|refine k_cu ?_ ?_|refine wb2 ?_ ?_<;>(intro hb;try simp only [hb])|fail)<;>try simp only [go_sem,seval,hr1,hr2,w0,w1,v0,a0,a1])
  have hz:s1=lmT2 d:=by rw [e1,e0];rfl
  rw [<- hz] at hq;refine IW.stage (L:=[(5,I64 ((d:Int)-1)),(6,.str s1),(7,I64 9)]) ?_ (c_lmF d hd s1 (by rw [hz];simp [lmT2,E6,lmP,lmS,lmC,lm1,lmE];try omega) 9 hq);exact ⟨rfl,rfl,rfl,trivial⟩
 ·subst h;have v0:IntKind.i64.wrap (64+((d:Int)-1))=((63+d:Nat):Int):=by rw [w64 (by omega) (by omega)];omega
  have t0:=c_times [99,111,110,115,117,109,101,59,32] (by decide) (63+d) (by omega);obtain ⟨s0,e0,a0⟩:∃ z:List UInt8,z=(([109,111,100,101,32,109,32,49,32,123,32,111,110,32,115,116,97,114,116,32,123,32]:List UInt8))++(tmS [99,111,110,115,117,109,101,59,32] (63+d))/\binR .add (.str (([109,111,100,101,32,109,32,49,32,123,32,111,110,32,115,116,97,114,116,32,123,32]:List UInt8))) (.str (tmS [99,111,110,115,117,109,101,59,32] (63+d)))=some (.str z):=⟨_,rfl,hcat _ _ (by simp [E6,lmP,lmS,lmC,lm1,lmE];omega)⟩;obtain ⟨s1,e1,a1⟩:∃ z:List UInt8,z=s0++(([125,32,125]:List UInt8))/\binR .add (.str s0) (.str (([125,32,125]:List UInt8)))=some (.str z):=⟨_,rfl,hcat _ _ (by rw [e0];simp [E6,lmP,lmS,lmC,lm1,lmE];omega)⟩;have hq:=A3a lm3 hd;repeat' ((with_reducible first|refine E1 (p:=IW _ _ (pz Tryz.prog 8 (.o (.o (.i (.i (.o .h)))))) _ _) ?_|refine wr ?_|refine cpc t0 ?_|refine k_cu ?_ ?_|refine wb2 ?_ ?_<;>(intro hb;try simp only [hb])|fail)<;>try simp only [go_sem,seval,hr1,hr2,w0,w1,v0,a0,a1])
  have hz:s1=lmT3 d:=by rw [e1,e0];rfl
  rw [<- hz] at hq;refine IW.stage (L:=[(5,I64 ((d:Int)-1)),(6,.str s1),(7,I64 9)]) ?_ (c_lmF d hd s1 (by rw [hz];simp [lmT3,E6,lmP,lmS,lmC,lm1,lmE];try omega) 9 hq);exact ⟨rfl,rfl,rfl,trivial⟩
 ·subst h;have v0:IntKind.i64.wrap (8+((d:Int)-1))=((7+d:Nat):Int):=by rw [w64 (by omega) (by omega)];omega
  have v1:IntKind.i64.wrap (((7+d:Nat):Int)-1)=((6+d:Nat):Int):=by rw [w64 (by omega) (by omega)];omega
  have t0:=c_times [105,102,32,116,114,117,101,32,123,32] (by decide) (6+d) (by omega);have t1:=c_times [125,32] (by decide) (6+d) (by omega);obtain ⟨s0,e0,a0⟩:∃ z:List UInt8,z=(([109,111,100,101,32,109,32,49,32,123,32,111,110,32,115,116,97,114,116,32,123,32]:List UInt8))++(tmS [105,102,32,116,114,117,101,32,123,32] (6+d))/\binR .add (.str (([109,111,100,101,32,109,32,49,32,123,32,111,110,32,115,116,97,114,116,32,123,32]:List UInt8))) (.str (tmS [105,102,32,116,114,117,101,32,123,32] (6+d)))=some (.str z):=⟨_,rfl,hcat _ _ (by simp [E6,lmP,lmS,lmC,lm1,lmE];omega)⟩;obtain ⟨s1,e1,a1⟩:∃ z:List UInt8,z=s0++(([99,111,110,115,117,109,101,59,32]:List UInt8))/\binR .add (.str s0) (.str (([99,111,110,115,117,109,101,59,32]:List UInt8)))=some (.str z):=⟨_,rfl,hcat _ _ (by rw [e0];simp [E6,lmP,lmS,lmC,lm1,lmE];omega)⟩;obtain ⟨s2,e2,a2⟩:∃ z:List UInt8,z=s1++(tmS [125,32] (6+d))/\binR .add (.str s1) (.str (tmS [125,32] (6+d)))=some (.str z):=⟨_,rfl,hcat _ _ (by rw [e1,e0];simp [E6,lmP,lmS,lmC,lm1,lmE];omega)⟩;obtain ⟨s3,e3,a3⟩:∃ z:List UInt8,z=s2++(([125,32,125]:List UInt8))/\binR .add (.str s2) (.str (([125,32,125]:List UInt8)))=some (.str z):=⟨_,rfl,hcat _ _ (by rw [e2,e1,e0];simp [E6,lmP,lmS,lmC,lm1,lmE];omega)⟩;have hq:=A3a lm4 hd;repeat' ((with_reducible first|refine E1 (p:=IW _ _ (pz Tryz.prog 8 (.o (.o (.i (.i (.o .h)))))) _ _) ?_|refine wr ?_|refine cpc t0 ?_|refine cpc t1 ?_|refine k_cu ?_ ?_|refine wb2 ?_ ?_<;>(intro hb;try simp only [hb])|fail)<;>try simp only [go_sem,seval,hr1,hr2,w0,w1,v0,v1,a0,a1,a2,a3])
  have hz:s3=lmT4 d:=by rw [e3,e2,e1,e0];rfl
  rw [<- hz] at hq;refine IW.stage (L:=[(5,I64 ((d:Int)-1)),(6,.str s3),(7,I64 50)]) ?_ (c_lmF d hd s3 (by rw [hz];simp [lmT4,E6,lmP,lmS,lmC,lm1,lmE];try omega) 50 hq);exact ⟨rfl,rfl,rfl,trivial⟩
 ·subst h;have v0:IntKind.i64.wrap (32+((d:Int)-1))=((31+d:Nat):Int):=by rw [w64 (by omega) (by omega)];omega
  have v1:IntKind.i64.wrap (((31+d:Nat):Int)-1)=((30+d:Nat):Int):=by rw [w64 (by omega) (by omega)];omega
  have t0:=c_times [32,43,32,49] (by decide) (30+d) (by omega);obtain ⟨s0,e0,a0⟩:∃ z:List UInt8,z=(([109,111,100,101,32,109,32,49,32,123,32,111,110,32,115,116,97,114,116,32,123,32,115,99,111,114,101,32,49]:List UInt8))++(tmS [32,43,32,49] (30+d))/\binR .add (.str (([109,111,100,101,32,109,32,49,32,123,32,111,110,32,115,116,97,114,116,32,123,32,115,99,111,114,101,32,49]:List UInt8))) (.str (tmS [32,43,32,49] (30+d)))=some (.str z):=⟨_,rfl,hcat _ _ (by simp [E6,lmP,lmS,lmC,lm1,lmE];omega)⟩;obtain ⟨s1,e1,a1⟩:∃ z:List UInt8,z=s0++(([59,32,125,32,125]:List UInt8))/\binR .add (.str s0) (.str (([59,32,125,32,125]:List UInt8)))=some (.str z):=⟨_,rfl,hcat _ _ (by rw [e0];simp [E6,lmP,lmS,lmC,lm1,lmE];omega)⟩;have hq:=A3a lm5 hd;repeat' ((with_reducible first|refine E1 (p:=IW _ _ (pz Tryz.prog 8 (.o (.o (.i (.i (.o .h)))))) _ _) ?_|refine wr ?_|refine cpc t0 ?_|refine k_cu ?_ ?_|refine wb2 ?_ ?_<;>(intro hb;try simp only [hb])|fail)<;>try simp only [go_sem,seval,hr1,hr2,w0,w1,v0,v1,a0,a1])
  have hz:s1=lmT5 d:=by rw [e1,e0];rfl
  rw [<- hz] at hq;refine IW.stage (L:=[(5,I64 ((d:Int)-1)),(6,.str s1),(7,I64 9)]) ?_ (c_lmF d hd s1 (by rw [hz];simp [lmT5,E6,lmP,lmS,lmC,lm1,lmE];try omega) 9 hq);exact ⟨rfl,rfl,rfl,trivial⟩
 ·subst h;have v0:IntKind.i64.wrap (16+((d:Int)-1))=((15+d:Nat):Int):=by rw [w64 (by omega) (by omega)];omega
  have t0:=c_times [40] (by decide) (15+d) (by omega);have t1:=c_times [41] (by decide) (15+d) (by omega);obtain ⟨s0,e0,a0⟩:∃ z:List UInt8,z=(([109,111,100,101,32,109,32,49,32,123,32,111,110,32,115,116,97,114,116,32,123,32,115,99,111,114,101,32]:List UInt8))++(tmS [40] (15+d))/\binR .add (.str (([109,111,100,101,32,109,32,49,32,123,32,111,110,32,115,116,97,114,116,32,123,32,115,99,111,114,101,32]:List UInt8))) (.str (tmS [40] (15+d)))=some (.str z):=⟨_,rfl,hcat _ _ (by simp [E6,lmP,lmS,lmC,lm1,lmE];omega)⟩;obtain ⟨s1,e1,a1⟩:∃ z:List UInt8,z=s0++(([49]:List UInt8))/\binR .add (.str s0) (.str (([49]:List UInt8)))=some (.str z):=⟨_,rfl,hcat _ _ (by rw [e0];simp [E6,lmP,lmS,lmC,lm1,lmE];omega)⟩;obtain ⟨s2,e2,a2⟩:∃ z:List UInt8,z=s1++(tmS [41] (15+d))/\binR .add (.str s1) (.str (tmS [41] (15+d)))=some (.str z):=⟨_,rfl,hcat _ _ (by rw [e1,e0];simp [E6,lmP,lmS,lmC,lm1,lmE];omega)⟩;obtain ⟨s3,e3,a3⟩:∃ z:List UInt8,z=s2++(([59,32,125,32,125]:List UInt8))/\binR .add (.str s2) (.str (([59,32,125,32,125]:List UInt8)))=some (.str z):=⟨_,rfl,hcat _ _ (by rw [e2,e1,e0];simp [E6,lmP,lmS,lmC,lm1,lmE];omega)⟩;have hq:=A3a lm6 hd;repeat' ((with_reducible first|refine E1 (p:=IW _ _ (pz Tryz.prog 8 (.o (.o (.i (.i (.o .h)))))) _ _) ?_|refine wr ?_|refine cpc t0 ?_|refine cpc t1 ?_|refine k_cu ?_ ?_|refine wb2 ?_ ?_<;>(intro hb;try simp only [hb])|fail)<;>try simp only [go_sem,seval,hr1,hr2,w0,w1,v0,a0,a1,a2,a3])
  have hz:s3=lmT6 d:=by rw [e3,e2,e1,e0];rfl
  rw [<- hz] at hq;refine IW.stage (L:=[(5,I64 ((d:Int)-1)),(6,.str s3),(7,I64 50)]) ?_ (c_lmF d hd s3 (by rw [hz];simp [lmT6,E6,lmP,lmS,lmC,lm1,lmE];try omega) 50 hq);exact ⟨rfl,rfl,rfl,trivial⟩
 ·subst h;have v0:IntKind.i64.wrap (16+((d:Int)-1))=((15+d:Nat):Int):=by rw [w64 (by omega) (by omega)];omega
  have t0:=c_times [45] (by decide) (15+d) (by omega);obtain ⟨s0,e0,a0⟩:∃ z:List UInt8,z=(([109,111,100,101,32,109,32,49,32,123,32,111,110,32,115,116,97,114,116,32,123,32,115,99,111,114,101,32]:List UInt8))++(tmS [45] (15+d))/\binR .add (.str (([109,111,100,101,32,109,32,49,32,123,32,111,110,32,115,116,97,114,116,32,123,32,115,99,111,114,101,32]:List UInt8))) (.str (tmS [45] (15+d)))=some (.str z):=⟨_,rfl,hcat _ _ (by simp [E6,lmP,lmS,lmC,lm1,lmE];omega)⟩;obtain ⟨s1,e1,a1⟩:∃ z:List UInt8,z=s0++(([49,59,32,125,32,125]:List UInt8))/\binR .add (.str s0) (.str (([49,59,32,125,32,125]:List UInt8)))=some (.str z):=⟨_,rfl,hcat _ _ (by rw [e0];simp [E6,lmP,lmS,lmC,lm1,lmE];omega)⟩;have hq:=A3a lm7 hd;repeat' ((with_reducible first|refine E1 (p:=IW _ _ (pz Tryz.prog 8 (.o (.o (.i (.i (.o .h)))))) _ _) ?_|refine wr ?_|refine cpc t0 ?_|refine k_cu ?_ ?_|refine wb2 ?_ ?_<;>(intro hb;try simp only [hb])|fail)<;>try simp only [go_sem,seval,hr1,hr2,w0,w1,v0,a0,a1])
  have hz:s1=lmT7 d:=by rw [e1,e0];rfl
  rw [<- hz] at hq;refine IW.stage (L:=[(5,I64 ((d:Int)-1)),(6,.str s1),(7,I64 50)]) ?_ (c_lmF d hd s1 (by rw [hz];simp [lmT7,E6,lmP,lmS,lmC,lm1,lmE];try omega) 50 hq);exact ⟨rfl,rfl,rfl,trivial⟩
end Go.Proofs.YthlpinppaclofaaGreatDoor
end

/-
  HELPERS of the claim: part 10 of its texts.
-/
import Derived.Test.YthlpinppaclofaaGreatDoorSyxi
noncomputable section
set_option maxHeartbeats 8000000
set_option maxRecDepth 100000
set_option linter.unusedSimpArgs false
set_option linter.unusedVariables false
namespace Go.Proofs.YthlpinppaclofaaGreatDoor
open Go.Eng (IC IOper DReg IFn B5)
open Go.Sym Go.Pb
def sl1:List UInt8:=[49,43,50,42,120]
def sl2:List UInt8:=[40,49,43,50,41,42,120]
def sl3:List UInt8:=[108,97,109,112,32,108,32,51,59,32,109,111,100,101,32,109,32,49,32,123,32,111,110,32,115,116,97,114,116,32,123,32,108,105,103,104,116,32,108,32,56,59,32,125,32,125]
def se1:Ex:=.mk 15 0 [] [.mk 1 1 [] [] 0,.mk 12 0 [] [.mk 1 2 [] [] 2,.mk 2 0 [120] [] 4] 3] 1
def se2:Ex:=.mk 12 0 [] [.mk 15 0 [] [.mk 1 1 [] [] 1,.mk 1 2 [] [] 3] 2,.mk 2 0 [120] [] 6] 5
def sr3:Ru:=⟨[⟨3,[108],3,0⟩],[⟨[109],1,[⟨1,[],[.mk 8 [108] [] [.mk 1 8 [] [] 40] [] [] 32],21⟩],10⟩]⟩
theorem sp1:X8 sl1=(se1,0,0):=parE_at (N:=60) (i:=5) (p:=0) (o:=3) (q:=0) (by decide +kernel) (by kernel_rfl) (by decide +kernel)
theorem sp2:X8 sl2=(se2,0,0):=parE_at (N:=60) (i:=7) (p:=0) (o:=3) (q:=0) (by decide +kernel) (by kernel_rfl) (by decide +kernel)
theorem sp3:parM sl3=(sr3,0,0):=parM_at (N:=60) (i:=17) (p:=0) (o:=1) (q:=0) (by decide +kernel) (by kernel_rfl)
theorem sf2:Y4 se2=[40,32,49,32,43,32,50,32,41,32,42,32,120]:=by decide +kernel
theorem sv3:A9o sr3=true:=by decide +kernel
theorem c_sane31:PC Tryz.prog 12 [] (.bool true):=by
 have p1:=c_PParseE sl1 (by decide);have p2:=c_PParseE sl2 (by decide);have p3:=c_PParse sl3 (by decide);rw [sp1] at p1;rw [sp2] at p2;rw [sp3] at p3;have f2:=c_PFormatE se2 (by decide);rw [sf2] at f2;have f3:=c_PFormat sr3 (by decide);have v3:=c_Valid sr3 (by decide);rw [sv3] at v3;have hne:(fmtR sr3 == [])=false:=by
  have:=fmt_ne sv3 (by unfold sr3;simp);simpa using this
 generalize fmtR sr3=t3 at f3 hne;dsimp only [parV,A6t] at p1 p2 p3;have e3:sr3.v=.agg [A0p sr3.decls,.lst [(sr3.modes.map Md.v).getD 0 (.bool true)]]:=rfl;rw [e3] at p3 f3 v3;generalize sr3.decls.map Dc.v=d1 at *;generalize (sr3.modes.map Md.v).getD 0 (.bool true)=m1 at *;have e2:=Ex.v_w se2;have e1:se1.v=.agg [I64 15,I64 0,.str [],.lst [(Ex.mk 1 1 [] [] 0).v,.agg [I64 12,I64 0,.str [],H9 [.mk 1 2 [] [] 2,.mk 2 0 [120] [] 4],I64 3]],I64 1]:=by unfold se1;rw [Ex.v_w];simp [Ex.v_w,Ex.kind,Ex.value,Ex.name,Ex.args,Ex.pos]
 rw [e1] at p1;generalize (Ex.mk 1 1 [] [] 0).v=x1 at *;generalize H9 [.mk 1 2 [] [] 2,.mk 2 0 [120] [] 4]=x2 at *;rw [e2] at p2 f2;unfold sl1 at p1;unfold sl2 at p2;unfold sl3 at p3;have hi1:Y3 5 (.lst [x1,.agg [I64 12,I64 0,.str [],x2,I64 3]]) (.int .i64 1)=some (.fptr [I64 12,I64 0,.str [],x2,I64 3]):=A9z (l:=1);refine PC.ofT A6 rfl (Nat.le_of_ble_eq_true rfl) (by simp [DV.nlL,DV.nl]) (by simp [DV.nlL,DV.nl]) ?_;repeat' ((with_reducible first|refine wr ?_|refine cpc p1 ?_|refine cpc p2 ?_|refine cpc p3 ?_|refine cpc f2 ?_|refine cpc f3 ?_|refine cpc v3 ?_|refine k_cu ?_ ?_|refine wb2 ?_ ?_<;>(intro hb;try simp only [hb])|fail)<;>try simp only [go_sem,seval,hne,hi1])
 all_goals exact A4 rfl
abbrev mkB (L:List UInt8) (w i:Nat):Blk:=⟨0,true,[.lst (bytesC L),I64 i,I64 w]⟩
theorem bytesC_get {L:List UInt8} {i:Nat} {b:UInt8} (h:L[i]? = some b):(bytesC L)[i]? = some (.int .u8 (b.toNat:Int)):=by
 simp [bytesC,h]
theorem c_Next (L:List UInt8) (hL:L.length<=300) (w i:Nat) (hi:i<=300) (n:Nat) (hn:0<n) (hn2:n<=1000) (H:Hp) (cc t:Nat) (ht:H t=some (mkB L w i)) (htc:t<cc) :
  AC Tryz.prog 41 [.ptr t 0,I64 n] H cc (fun v H' c'=>v=I64 (nxK L n i).1/\H'=H.upd t (mkB L w (nxK L n i).2)):=by
 refine AC.bodyT A6 rfl (Nat.le_of_ble_eq_true rfl) fun hfr=>?_;have hlen:(bytesC L).length=L.length:=by simp [bytesC]
 unfold nxK;by_cases hlt:i<L.length
 ·have hd:decide ((i:Int)≥L.length)=false:=by simp;omega
  have hg:=bytesC_get (List.getElem?_eq_getElem hlt);rw [dif_pos hlt];generalize L[i]=b at hg;have hw:=w64 (n:=(i:Int)+1) (by omega) (by omega);have hw3:IntKind.i64.wrap ((i:Int)+1-1)=(i:Int):=by rw [w64 (by omega) (by omega)];omega
  have hb:=b.toNat_lt;have hw4:=w64 (n:=(b.toNat:Int)) (by omega) (by omega);have hrm:binR .rem (.int .i64 (b.toNat:Int)) (I64 (n:Int))=some (I64 ((b.toNat % n:Nat):Int)):=by
   rw [A6o (by omega)];rfl
  repeat' ((with_reducible first|refine wr ?_|refine k_cu ?_ ?_|refine wb2 ?_ ?_<;>(intro hb;try simp only [hb])|fail)<;>try simp only [go_sem,seval,ht,hd,hg,hw,hw3,hw4,hrm,hlen,A0,A1])
  exact ⟨_,_,GL.refl _ _,rfl,rfl⟩
 ·have hd:decide ((i:Int)≥L.length)=true:=by simp;omega
  rw [dif_neg hlt];repeat' ((with_reducible first|refine wr ?_|refine k_cu ?_ ?_|refine wb2 ?_ ?_<;>(intro hb;try simp only [hb])|fail)<;>try simp only [go_sem,seval,ht,hd,hlen,A0,A1])
  exact ⟨_,_,GL.refl _ _,rfl,(upd_same ht).symm⟩
theorem F6 {L:List UInt8} (hL:L.length<=300) {n i:Nat} (hi:i<=300):(nxK L n i).2<=300:=by
 unfold nxK;split<;>simp<;>omega
theorem c_name32 (L:List UInt8) (hL:L.length<=300) (w i:Nat) (hw:w<=100) (hi:i<=300) (p:List UInt8) (hp:p.length<=100) (n:Nat) (hn:0<n) (hn2:n<=1000) (H:Hp) (cc t:Nat) (ht:H t=some (mkB L w i)) (htc:t<cc) :
  AC Tryz.prog 46 [.ptr t 0,.str p,I64 n] H cc (fun v H' c'=>v=.str (nmK L w p n i).1/\H'=H.upd t (mkB L w (nmK L w p n i).2)):=by
 refine AC.bodyT A6 rfl (Nat.le_of_ble_eq_true rfl) fun hfr=>?_;unfold nmK;by_cases h0:0<w
 ·have q0:decide ((w:Int)>0)=true:=by simpa using h0
  repeat' ((with_reducible first|refine wr ?_|refine k_cu ?_ ?_|refine wb2 ?_ ?_<;>(intro hb;try simp only [hb])|fail)<;>try simp only [go_sem,seval,ht,q0,A0,A1])
  refine AC.call (c_Next L hL w i hi w h0 (by omega) _ _ t ht (by omega)) ?_;rintro v' H' c2 ⟨rfl,rfl⟩ hc2;have hi2:=F6 hL (n:=w) hi;have hw1:=w64 (n:=(w:Int)-1) (by omega) (by omega);simp only [go_sem,seval,A0,A1];repeat' ((with_reducible first|refine wr ?_|refine k_cu ?_ ?_|refine wb2 ?_ ?_<;>(intro hb;try simp only [hb])|fail)<;>try simp only [go_sem,seval,A0,A1,hw1])
  refine ⟨by and_intros<;>(rw [A2 (by omega)];exact hfr _ (by omega)),?_⟩;by_cases hq:(nxK L w i).1+1=w
  ·have qq:(((nxK L w i).1:Int) == IntKind.i64.wrap ((w:Int)-1))=true:=by rw [hw1];simp;omega
   rw [if_pos ⟨h0,hq⟩];repeat' ((with_reducible first|refine wr ?_|refine k_cu ?_ ?_|refine wb2 ?_ ?_<;>(intro hb;try simp only [hb])|fail)<;>try simp only [go_sem,seval,A0,A1,qq])
   refine AC.call (c_Next L hL w _ hi2 10 (by decide) (by decide) _ _ t (by rw [A2 (by omega)];exact A0) (by omega)) ?_;rintro v' H' c3 ⟨rfl,rfl⟩ hc3;have hlt:=R6 L (nxK L w i).2 (n:=10) (by decide);generalize (nxK L 10 (nxK L w i).2)=kq at hlt ⊢;obtain ⟨k,i3⟩:=kq;dsimp only at hlt ⊢;have hia:Y3 1 (.slc c2 0 10) (I64 (k:Int))=some (.ptr c2 k):=by simp [Y3];omega
   have hld:([.str [115,119,48],.str [99,111,105,108,48],.str [108,97,109,112,48],.str [118,48],.str [116,109,48],.str [101,118,48],.str [109,111,100,101,48],.str [110,111,110,101],.str [115,110,100,48],.str [115,104,111,119,48]]:List DV)[k]? = some (.str (X1.getD k [])):=by
    match k,hlt with
    | 0,_=>rfl
    | 1,_=>rfl
    | 2,_=>rfl
    | 3,_=>rfl
    | 4,_=>rfl
    | 5,_=>rfl
    | 6,_=>rfl
    | 7,_=>rfl
    | 8,_=>rfl
    | 9,_=>rfl
   have ne0:=U0 t c2 (by omega);generalize hWL:([.str [115,119,48],.str [99,111,105,108,48],.str [108,97,109,112,48],.str [118,48],.str [116,109,48],.str [101,118,48],.str [109,111,100,101,48],.str [110,111,110,101],.str [115,110,100,48],.str [115,104,111,119,48]]:List DV)=WL at hld ⊢;simp only [go_sem,seval,A0,A1,ne0,hia,hld];repeat' ((with_reducible first|refine wr ?_|refine k_cu ?_ ?_|refine wb2 ?_ ?_<;>(intro hb;try simp only [hb])|fail)<;>try simp only [go_sem,seval,A0,A1,ne0,hia,hld])
   refine ⟨_,_,GL.less' (fun j b hj=>?_),rfl,rfl⟩;by_cases e:j=t
   ·subst e;rw [A0] at hj ⊢;exact hj
   ·rw [A2 e] at hj;have:j≠c2:=by rintro rfl;rw [hfr _ (by omega)] at hj;cases hj
    rw [A2 e,A2 this,A2 e];exact hj
  ·have qq:(((nxK L w i).1:Int) == IntKind.i64.wrap ((w:Int)-1))=false:=by rw [hw1];simp;omega
   rw [if_neg (fun h=>hq h.2),if_pos h0];repeat' ((with_reducible first|refine wr ?_|refine k_cu ?_ ?_|refine wb2 ?_ ?_<;>(intro hb;try simp only [hb])|fail)<;>try simp only [go_sem,seval,A0,A1,qq])
   refine AC.call (c_Next L hL w _ hi2 n hn hn2 _ _ t A0 (by omega)) ?_;rintro v' H' c3 ⟨rfl,rfl⟩ hc3;have hlt:=R6 L (nxK L w i).2 hn;have hdc:=c_Dec' ((nxK L n (nxK L w i).2).1:Int) (by omega) (by omega);have hdl:=N6 (n:=((nxK L n (nxK L w i).2).1:Int)) (by omega) (by omega);have hadd:=N9 (s:=p) (t:=G5 ((nxK L n (nxK L w i).2).1:Int)) (by omega);simp only [go_sem,seval,A1];repeat' ((with_reducible first|refine wr ?_|refine cpc hdc ?_|refine k_cu ?_ ?_|refine wb2 ?_ ?_<;>(intro hb;try simp only [hb])|fail)<;>try simp only [go_sem,seval,A0,A1,hadd])
   exact ⟨_,_,GL.refl _ _,rfl,rfl⟩
 ·have q0:decide ((w:Int)>0)=false:=by simpa using h0
  rw [if_neg (fun h=>h0 h.1),if_neg h0];repeat' ((with_reducible first|refine wr ?_|refine k_cu ?_ ?_|refine wb2 ?_ ?_<;>(intro hb;try simp only [hb])|fail)<;>try simp only [go_sem,seval,ht,q0,A0,A1])
  refine ⟨by and_intros<;>exact hfr _ (by omega),?_⟩;repeat' ((with_reducible first|refine wr ?_|refine k_cu ?_ ?_|refine wb2 ?_ ?_<;>(intro hb;try simp only [hb])|fail)<;>try simp only [go_sem,seval,ht,q0,A0,A1])
  refine AC.call (c_Next L hL w i hi n hn hn2 _ _ t ht (by omega)) ?_;rintro v' H' c2 ⟨rfl,rfl⟩ hc2;have hlt:=R6 L i hn;have hdc:=c_Dec' ((nxK L n i).1:Int) (by omega) (by omega);have hdl:=N6 (n:=((nxK L n i).1:Int)) (by omega) (by omega);have hadd:=N9 (s:=p) (t:=G5 ((nxK L n i).1:Int)) (by omega);simp only [go_sem,seval];repeat' ((with_reducible first|refine wr ?_|refine cpc hdc ?_|refine k_cu ?_ ?_|refine wb2 ?_ ?_<;>(intro hb;try simp only [hb])|fail)<;>try simp only [go_sem,seval,A0,A1,hadd])
  exact ⟨_,_,GL.refl _ _,rfl,rfl⟩
theorem A5r {L:List UInt8} (hL:L.length<=300) {w n i:Nat} {p:List UInt8} (hi:i<=300):(nmK L w p n i).2<=300:=by
 unfold nmK;dsimp only;split
 ·exact F6 hL (F6 hL hi)
 ·split
  ·exact F6 hL (F6 hL hi)
  ·exact F6 hL hi
theorem Z7 {L:List UInt8} {w n i:Nat} {p:List UInt8} (hn:0<n) (hn2:n<=1000):(nmK L w p n i).1.length<=p.length+100:=by
 unfold nmK;dsimp only;split
 ·have:=R6 L (nxK L w i).2 (n:=10) (by decide);generalize (nxK L 10 (nxK L w i).2).1=k at this
  match k,this with
  | 0,_=>simp [X1]
  | 1,_=>simp [X1]
  | 2,_=>simp [X1]
  | 3,_=>simp [X1]
  | 4,_=>simp [X1]
  | 5,_=>simp [X1]
  | 6,_=>simp [X1]
  | 7,_=>simp [X1]
  | 8,_=>simp [X1]
  | 9,_=>simp [X1]
 ·have:=R6 L (if 0<w then (nxK L w i).2 else i) hn;have h:=N6 (n:=((nxK L n (if 0<w then (nxK L w i).2 else i)).1:Int)) (by omega) (by omega);rw [List.length_append];omega
theorem c_bl0 (L:List UInt8) (hL:L.length<=300) (w:Nat) (hw:w<=100) (i:Nat) (hi:i<=300) (d:Int) (hd:d<=0) (H:Hp) (cc t:Nat) (ht:H t=some (mkB L w i)) (htc:t<cc) :
  AC Tryz.prog 21 [.ptr t 0,I64 d] H cc (fun v H' c'=>v=.str (bl0 L w i).1/\H'=H.upd t (mkB L w (bl0 L w i).2)):=by
 refine AC.bodyT A6 rfl (Nat.le_of_ble_eq_true rfl) fun hfr=>?_;have qd:decide (d<=0)=true:=by simpa using hd
 unfold bl0;repeat' ((with_reducible first|refine wr ?_|refine k_cu ?_ ?_|refine wb2 ?_ ?_<;>(intro hb;try simp only [hb])|fail)<;>try simp only [go_sem,seval,qd])
 refine AC.call (c_Next L hL w i hi 5 (by decide) (by decide) _ _ t ht (by omega)) ?_;rintro v' H' c2 ⟨rfl,rfl⟩ hc2;have hi2:=F6 hL (n:=5) hi;generalize nxK L 5 i=k at hi2 ⊢;obtain ⟨k,i2⟩:=k;dsimp only at hi2 ⊢;by_cases k0:k=0
 ·subst k0;simp only [go_sem,seval];repeat' ((with_reducible first|refine wr ?_|refine k_cu ?_ ?_|refine wb2 ?_ ?_<;>(intro hb;try simp only [hb])|fail)<;>try simp only [go_sem,seval])
  exact ⟨_,_,GL.refl _ _,rfl,rfl⟩
 have q0:((k:Int) == 0)=false:=by simpa using k0
 rw [if_neg k0];by_cases k1:k=1
 ·subst k1;simp only [go_sem,seval];repeat' ((with_reducible first|refine wr ?_|refine k_cu ?_ ?_|refine wb2 ?_ ?_<;>(intro hb;try simp only [hb])|fail)<;>try simp only [go_sem,seval])
  exact ⟨_,_,GL.refl _ _,rfl,rfl⟩
 have q1:((k:Int) == 1)=false:=by simp;omega
 rw [if_neg k1];by_cases k2:k=2
 ·subst k2;rw [if_pos rfl];simp only [go_sem,seval];repeat' ((with_reducible first|refine wr ?_|refine k_cu ?_ ?_|refine wb2 ?_ ?_<;>(intro hb;try simp only [hb])|fail)<;>try simp only [go_sem,seval])
  refine AC.call (c_name32 L hL w i2 hw hi2 [109,111,100,101] (by decide) 3 (by decide) (by decide) _ _ t A0 (by omega)) ?_;rintro v' H' c3 ⟨rfl,rfl⟩ hc3;have hl:=Z7 (L:=L) (w:=w) (i:=i2) (p:=[109,111,100,101]) (n:=3) (by decide) (by decide);generalize nmK L w [109,111,100,101] 3 i2=a at hl ⊢;have hadd:=N9 (s:=[97,99,116,105,118,101,32]) (t:=a.1) (by simp at hl ⊢;omega);simp only [go_sem,seval,A1,hadd];repeat' ((with_reducible first|refine wr ?_|refine k_cu ?_ ?_|refine wb2 ?_ ?_<;>(intro hb;try simp only [hb])|fail)<;>try simp only [go_sem,seval,A1,hadd])
  exact ⟨_,_,GL.refl _ _,rfl,rfl⟩
 have q2:((k:Int) == 2)=false:=by simp;omega
 rw [if_neg k2];simp only [go_sem,seval,q0,q1,q2];repeat' ((with_reducible first|refine wr ?_|refine k_cu ?_ ?_|refine wb2 ?_ ?_<;>(intro hb;try simp only [hb])|fail)<;>try simp only [go_sem,seval,q0,q1,q2])
 refine AC.call (c_name32 L hL w i2 hw hi2 [115,119] (by decide) 4 (by decide) (by decide) _ _ t A0 (by omega)) ?_;rintro v' H' c3 ⟨rfl,rfl⟩ hc3;have hl:=Z7 (L:=L) (w:=w) (i:=i2) (p:=[115,119]) (n:=4) (by decide) (by decide);generalize nmK L w [115,119] 4 i2=a at hl ⊢;have hadd:=N9 (s:=[99,108,111,115,101,100,32]) (t:=a.1) (by simp at hl ⊢;omega);simp only [go_sem,seval,A1,hadd];repeat' ((with_reducible first|refine wr ?_|refine k_cu ?_ ?_|refine wb2 ?_ ?_<;>(intro hb;try simp only [hb])|fail)<;>try simp only [go_sem,seval,A1,hadd])
 exact ⟨_,_,GL.refl _ _,rfl,rfl⟩
theorem B0t {H:Hp} {cc t c2:Nat} {b0 b1 b:Blk} {ds:List DV} (hfr:∀ i,cc<=i->H i=none) (htc:t<cc) (hc:cc<=c2):GL (((H.upd t b0).upd c2 b1).upd t b) ds (H.upd t b) ds:=GL.less' fun j q hj=>by
 by_cases e:j=t
 ·subst e;rw [A0] at hj ⊢;exact hj
 ·rw [A2 e] at hj;have:j≠c2:=by rintro rfl;rw [hfr _ (by omega)] at hj;cases hj
  rw [A2 e,A2 this,A2 e];exact hj
theorem c_in0 (L:List UInt8) (hL:L.length<=300) (w:Nat) (hw:w<=100) (i:Nat) (hi:i<=300) (d:Int) (hd:d<=0) (hd2 : -1000<=d) (H:Hp) (cc t:Nat) (ht:H t=some (mkB L w i)) (htc:t<cc) :
  AC Tryz.prog 20 [.ptr t 0,I64 d] H cc (fun v H' c'=>v=.str (in0 L w i).1/\H'=H.upd t (mkB L w (in0 L w i).2)):=by
 refine AC.bodyT A6 rfl (Nat.le_of_ble_eq_true rfl) fun hfr=>?_;have qd:decide (d<=0)=true:=by simpa using hd
 have kI:∀ (j c0:Nat),j<=300->cc<=c0->IW Tryz.prog 86 (pz Tryz.prog 20 (.i (.i (.o .h)))) ⟨tm [(0,.ptr t 0),(1,I64 d)],H.upd t (mkB L w j),c0⟩ (rt [.tmp 4] fun v H' c' => ∃ v2 H2,GL H' [v] H2 [v2]/\v2=.str (in1 L w j).1/\H2=H.upd t (mkB L w (in1 L w j).2)):=by
  intro j c0 hj hc0;unfold in1;repeat' ((with_reducible first|refine wr ?_|refine k_cu ?_ ?_|refine wb2 ?_ ?_<;>(intro hb;try simp only [hb])|fail)<;>try simp only [go_sem,seval,qd])
  refine AC.call (c_Next L hL w j hj 7 (by decide) (by decide) _ _ t A0 (by omega)) ?_;rintro v' H' c2 ⟨rfl,rfl⟩ hc2;rw [A1];have hi2:=F6 hL (n:=7) hj;generalize nxK L 7 j=k at hi2 ⊢;obtain ⟨k,i2⟩:=k;dsimp only at hi2 ⊢;by_cases k0:k=0
  ·subst k0;rw [if_pos (.inl rfl)];simp only [go_sem,seval];repeat' ((with_reducible first|refine wr ?_|refine k_cu ?_ ?_|refine wb2 ?_ ?_<;>(intro hb;try simp only [hb])|fail)<;>try simp only [go_sem,seval])
   refine AC.call (c_name32 L hL w i2 hw hi2 [118] (by decide) 3 (by decide) (by decide) _ _ t A0 (by omega)) ?_;rintro v' H' c3 ⟨rfl,rfl⟩ hc3;rw [A1];simp only [go_sem,seval];repeat' ((with_reducible first|refine wr ?_|refine k_cu ?_ ?_|refine wb2 ?_ ?_<;>(intro hb;try simp only [hb])|fail)<;>try simp only [go_sem,seval])
   exact ⟨_,_,GL.refl _ _,rfl,rfl⟩
  have q0:((k:Int) == 0)=false:=by simpa using k0
  by_cases k1:k=1
  ·subst k1;rw [if_pos (.inr rfl)];simp only [go_sem,seval];repeat' ((with_reducible first|refine wr ?_|refine k_cu ?_ ?_|refine wb2 ?_ ?_<;>(intro hb;try simp only [hb])|fail)<;>try simp only [go_sem,seval])
   refine AC.call (c_name32 L hL w i2 hw hi2 [118] (by decide) 3 (by decide) (by decide) _ _ t A0 (by omega)) ?_;rintro v' H' c3 ⟨rfl,rfl⟩ hc3;rw [A1];simp only [go_sem,seval];repeat' ((with_reducible first|refine wr ?_|refine k_cu ?_ ?_|refine wb2 ?_ ?_<;>(intro hb;try simp only [hb])|fail)<;>try simp only [go_sem,seval])
   exact ⟨_,_,GL.refl _ _,rfl,rfl⟩
  have q1:((k:Int) == 1)=false:=by simp;omega
  rw [if_neg (by omega)];by_cases k2:k=2
  ·subst k2;simp only [go_sem,seval];repeat' ((with_reducible first|refine wr ?_|refine k_cu ?_ ?_|refine wb2 ?_ ?_<;>(intro hb;try simp only [hb])|fail)<;>try simp only [go_sem,seval])
   exact ⟨_,_,GL.refl _ _,rfl,rfl⟩
  have q2:((k:Int) == 2)=false:=by simp;omega
  rw [if_neg k2];by_cases k3:k=3
  ·subst k3;simp only [go_sem,seval];repeat' ((with_reducible first|refine wr ?_|refine k_cu ?_ ?_|refine wb2 ?_ ?_<;>(intro hb;try simp only [hb])|fail)<;>try simp only [go_sem,seval])
   exact ⟨_,_,GL.refl _ _,rfl,rfl⟩
  have q3:((k:Int) == 3)=false:=by simp;omega
  rw [if_neg k3];by_cases k4:k=4
  ·subst k4;rw [if_pos rfl];simp only [go_sem,seval];repeat' ((with_reducible first|refine wr ?_|refine k_cu ?_ ?_|refine wb2 ?_ ?_<;>(intro hb;try simp only [hb])|fail)<;>try simp only [go_sem,seval])
   refine AC.call (c_name32 L hL w i2 hw hi2 [116,109] (by decide) 2 (by decide) (by decide) _ _ t A0 (by omega)) ?_;rintro v' H' c3 ⟨rfl,rfl⟩ hc3;have hl:=Z7 (L:=L) (w:=w) (i:=i2) (p:=[116,109]) (n:=2) (by decide) (by decide);generalize nmK L w [116,109] 2 i2=a at hl ⊢;have hadd:=N9 (s:=[108,101,102,116,32]) (t:=a.1) (by simp at hl ⊢;omega);simp only [go_sem,seval,A1,hadd];repeat' ((with_reducible first|refine wr ?_|refine k_cu ?_ ?_|refine wb2 ?_ ?_<;>(intro hb;try simp only [hb])|fail)<;>try simp only [go_sem,seval,A1,hadd])
   exact ⟨_,_,GL.refl _ _,rfl,rfl⟩
  have q4:((k:Int) == 4)=false:=by simp;omega
  rw [if_neg k4];by_cases k5:k=5
  ·subst k5;rw [if_pos rfl];simp only [go_sem,seval];repeat' ((with_reducible first|refine wr ?_|refine k_cu ?_ ?_|refine wb2 ?_ ?_<;>(intro hb;try simp only [hb])|fail)<;>try simp only [go_sem,seval])
   refine AC.call (c_Next L hL w i2 hi2 4 (by decide) (by decide) _ _ t (by rw [A2 (by omega)];exact A0) (by omega)) ?_;rintro v' H' c3 ⟨rfl,rfl⟩ hc3;have hlt:=R6 L i2 (n:=4) (by decide);generalize (nxK L 4 i2)=kq at hlt ⊢;obtain ⟨k,i3⟩:=kq;dsimp only at hlt ⊢;have hia:Y3 1 (.slc c2 0 4) (I64 (k:Int))=some (.ptr c2 k):=by simp [Y3];omega
   have hld:([.str [50,49,52,55,52,56,51,54,52,55],.str [49,48,48,48,48,48,48],.str [54,53,53,51,54],.str [49,48,48,48,48,48]]:List DV)[k]? = some (.str (bigL.getD k [])):=by
    match k,hlt with
    | 0,_=>rfl
    | 1,_=>rfl
    | 2,_=>rfl
    | 3,_=>rfl
   have ne0:=U0 t c2 (by omega);generalize hWL:([.str [50,49,52,55,52,56,51,54,52,55],.str [49,48,48,48,48,48,48],.str [54,53,53,51,54],.str [49,48,48,48,48,48]]:List DV)=WL at hld ⊢;simp only [go_sem,seval,A0,A1,ne0,hia,hld];repeat' ((with_reducible first|refine wr ?_|refine k_cu ?_ ?_|refine wb2 ?_ ?_<;>(intro hb;try simp only [hb])|fail)<;>try simp only [go_sem,seval,A0,A1,ne0,hia,hld])
   exact ⟨_,_,B0t hfr htc (by omega),rfl,rfl⟩
  have q5:((k:Int) == 5)=false:=by simp;omega
  rw [if_neg k5];simp only [go_sem,seval,q0,q1,q2,q3,q4,q5];repeat' ((with_reducible first|refine wr ?_|refine k_cu ?_ ?_|refine wb2 ?_ ?_<;>(intro hb;try simp only [hb])|fail)<;>try simp only [go_sem,seval,q0,q1,q2,q3,q4,q5])
  refine AC.call (c_Next L hL w i2 hi2 12 (by decide) (by decide) _ _ t A0 (by omega)) ?_;rintro v' H' c3 ⟨rfl,rfl⟩ hc3;rw [A1];have hlt:=R6 L i2 (n:=12) (by decide);have hdc:=c_Dec' ((nxK L 12 i2).1:Int) (by omega) (by omega);simp only [go_sem,seval];repeat' ((with_reducible first|refine wr ?_|refine cpc hdc ?_|refine k_cu ?_ ?_|refine wb2 ?_ ?_<;>(intro hb;try simp only [hb])|fail)<;>try simp only [go_sem,seval])
  exact ⟨_,_,GL.refl _ _,rfl,rfl⟩
 unfold in0 wlK;by_cases h0:0<w
 ·have q0:decide ((w:Int)>0)=true:=by simpa using h0
  have hw4:IntKind.i64.wrap (4 * (w:Int))=((4 * w:Nat):Int):=by rw [w64 (by omega) (by omega)];omega
  repeat' ((with_reducible first|refine wr ?_|refine k_cu ?_ ?_|refine wb2 ?_ ?_<;>(intro hb;try simp only [hb])|fail)<;>try simp only [go_sem,seval,ht,q0,hw4])
  refine AC.call (c_Next L hL w i hi (4 * w) (by omega) (by omega) _ _ t ht (by omega)) ?_;rintro v' H' c2 ⟨rfl,rfl⟩ hc2;have hi2:=F6 hL (n:=4 * w) hi;generalize nxK L (4 * w) i=k at hi2 ⊢;obtain ⟨k,i2⟩:=k;dsimp only at hi2 ⊢;by_cases k1:k=1
  ·subst k1;rw [if_pos ⟨h0,rfl⟩];have hw1:=w64 (n:=d-1) (by omega) (by omega);simp only [go_sem,seval];repeat' ((with_reducible first|refine wr ?_|refine k_cu ?_ ?_|refine wb2 ?_ ?_<;>(intro hb;try simp only [hb])|fail)<;>try simp only [go_sem,seval,hw1])
   refine AC.call (c_bl0 L hL w hw i2 hi2 (d-1) (by omega) _ _ t A0 (by omega)) ?_;rintro v' H' c3 ⟨rfl,rfl⟩ hc3;rw [A1];simp only [go_sem,seval];repeat' ((with_reducible first|refine wr ?_|refine k_cu ?_ ?_|refine wb2 ?_ ?_<;>(intro hb;try simp only [hb])|fail)<;>try simp only [go_sem,seval])
   exact ⟨_,_,GL.refl _ _,rfl,rfl⟩
  have q1:((k:Int) == 1)=false:=by simp;omega
  rw [if_neg (fun h=>k1 h.2),if_pos h0];simp only [go_sem,seval,q1];repeat' ((with_reducible first|refine E7 (p:=IW _ _ (pz Tryz.prog 20 (.i (.i (.o .h)))) _ _) ?_|refine wr ?_|refine k_cu ?_ ?_|refine wb2 ?_ ?_<;>(intro hb;try simp only [hb])|fail)<;>try simp only [go_sem,seval,q1])
  exact IW.stage (by simp [C5,tm,Tm.upd]) (kI i2 _ hi2 hc2)
 ·have q0:decide ((w:Int)>0)=false:=by simpa using h0
  rw [if_neg (fun h=>h0 h.1),if_neg h0];have hHt:H=H.upd t (mkB L w i):=(upd_same ht).symm;repeat' ((with_reducible first|refine E7 (p:=IW _ _ (pz Tryz.prog 20 (.i (.i (.o .h)))) _ _) ?_|refine wr ?_|refine k_cu ?_ ?_|refine wb2 ?_ ?_<;>(intro hb;try simp only [hb])|fail)<;>try simp only [go_sem,seval,ht,q0])
  have:=kI i cc hi (Nat.le_refl _);rw [upd_same ht] at this;exact IW.stage (by simp [C5,tm,Tm.upd]) this
def lnB:Nat->Nat
 | 0=>300
 | d+1=>2 * lnB d+300
theorem lnB_300 (d:Nat):300<=lnB d:=by cases d<;>simp only [lnB]<;>omega
def A7w (n:Nat) (f:Nat->Mk):Prop:=∀ i,i<=300->(f i).1.length<=n/\(f i).2<=300
theorem B0h {L:List UInt8} (hL:L.length<=300) (w:Nat):A7w 300 (bl0 L w):=by
 intro i hi;unfold bl0;dsimp only;have h2:=F6 hL (n:=5) hi;split
 ·exact ⟨by simp,h2⟩
 ·split
  ·exact ⟨by simp,h2⟩
  ·split
   ·have:=Z7 (L:=L) (w:=w) (i:=(nxK L 5 i).2) (p:=[109,111,100,101]) (n:=3) (by decide) (by decide);exact ⟨by simp at this ⊢;omega,A5r hL h2⟩
   ·have:=Z7 (L:=L) (w:=w) (i:=(nxK L 5 i).2) (p:=[115,119]) (n:=4) (by decide) (by decide);exact ⟨by simp at this ⊢;omega,A5r hL h2⟩
theorem A0y {l:List (List UInt8)} {n:Nat} (h:∀ x∈l,x.length<=n) (k:Nat):(l.getD k []).length<=n:=by
 rw [List.getD_eq_getElem?_getD];cases hk:l[k]? with
 | none=>simp
 | some x=>exact h x (List.mem_of_getElem? hk)
theorem ok_in1 {L:List UInt8} (hL:L.length<=300) (w:Nat):A7w 300 (in1 L w):=by
 intro i hi;unfold in1;dsimp only;have h2:=F6 hL (n:=7) hi;split
 ·have:=Z7 (L:=L) (w:=w) (i:=(nxK L 7 i).2) (p:=[118]) (n:=3) (by decide) (by decide);exact ⟨by simp at this ⊢;omega,A5r hL h2⟩
 ·split
  ·exact ⟨by simp,h2⟩
  ·split
   ·exact ⟨by simp,h2⟩
   ·split
    ·have:=Z7 (L:=L) (w:=w) (i:=(nxK L 7 i).2) (p:=[116,109]) (n:=2) (by decide) (by decide);exact ⟨by simp at this ⊢;omega,A5r hL h2⟩
    ·split
     ·exact ⟨Nat.le_trans (A0y (n:=300) (by decide) _) (by decide),F6 hL h2⟩
     ·have hlt:=R6 L (nxK L 7 i).2 (n:=12) (by decide);have h:=N6 (n:=((nxK L 12 (nxK L 7 i).2).1:Int)) (by omega) (by omega);exact ⟨Nat.le_trans h (by decide),F6 hL h2⟩
theorem ok_wl {L:List UInt8} (hL:L.length<=300) {w n:Nat} {f g:Nat->Mk} (hf:A7w n f) (hg:A7w n g):A7w n (wlK L w f g):=by
 intro i hi;unfold wlK;dsimp only;have h2:=F6 hL (n:=4 * w) hi;split
 ·exact hf _ h2
 ·split
  ·exact hg _ h2
  ·exact hg _ hi
theorem A7w.mono {n m:Nat} {f:Nat->Mk} (h:A7w n f) (hnm:n<=m):A7w m f:=fun i hi=>⟨Nat.le_trans (h i hi).1 hnm,(h i hi).2⟩
theorem B0g {L:List UInt8} (hL:L.length<=300) (w:Nat):A7w 300 (in0 L w):=ok_wl hL (B0h hL w) (ok_in1 hL w)
theorem A1i {L:List UInt8} (hL:L.length<=300) (w:Nat):∀ d,A7w (lnB d) (inK L w d)/\A7w (lnB d) (blK L w d)
 | 0=>⟨fun i hi=>by rw [inK];exact B0g hL w i hi,fun i hi=>by rw [blK];exact B0h hL w i hi⟩
 | d+1=>by
  obtain ⟨h1,h2⟩:=A1i hL w d;have h300:=lnB_300 d;have e:lnB (d+1)=2 * lnB d+300:=rfl;refine ⟨fun i hi=>?_,fun i hi=>?_⟩
  ·rw [inK];refine ok_wl hL (h2.mono (by omega)) (fun i hi=>?_) i hi;dsimp only;have hk:=F6 hL (n:=5) hi;split
   ·exact (B0g hL w).mono (by omega) _ hk
   ·split
    ·have:=B0g hL w _ hk;exact ⟨by simp;omega,this.2⟩
    ·have ha:=h1 _ hk;have hc:=h1 _ ha.2;refine ⟨?_,F6 hL hc.2⟩;have ho:=A0y (l:=aopL) (n:=5) (by decide) (nxK L 5 (inK L w d (inK L w d (nxK L 5 i).2).2).2).1;simp only [List.length_append,List.length_cons,List.length_nil];omega
  ·rw [blK];dsimp only;have hk:=F6 hL (n:=6) hi;split
   ·have:=B0h hL w _ hk;exact ⟨by simp;omega,this.2⟩
   ·split
    ·have ha:=h2 _ hk;have hc:=h2 _ ha.2;exact ⟨by simp only [List.length_append,List.length_cons,List.length_nil];omega,hc.2⟩
    ·split
     ·have ha:=h2 _ hk;have hc:=h2 _ ha.2;exact ⟨by simp only [List.length_append,List.length_cons,List.length_nil];omega,hc.2⟩
     ·have ha:=h1 _ hk;have ho:=F6 hL (n:=6) ha.2;have hc:=h1 _ ho;have hg:=A0y (l:=copL) (n:=5) (by decide) (nxK L 6 (inK L w d (nxK L 6 i).2).2).1;exact ⟨by simp only [List.length_append,List.length_cons,List.length_nil];omega,hc.2⟩
def InC (L:List UInt8) (w d:Nat):Prop:=∀ (i:Nat) (hi:i<=300) (H:Hp) (cc t:Nat) (ht:H t=some (mkB L w i)) (htc:t<cc),
  AC Tryz.prog 20 [.ptr t 0,I64 d] H cc (fun v H' c'=>v=.str (inK L w d i).1/\H'=H.upd t (mkB L w (inK L w d i).2))
def BlC (L:List UInt8) (w d:Nat):Prop:=∀ (i:Nat) (hi:i<=300) (H:Hp) (cc t:Nat) (ht:H t=some (mkB L w i)) (htc:t<cc),
  AC Tryz.prog 21 [.ptr t 0,I64 d] H cc (fun v H' c'=>v=.str (blK L w d i).1/\H'=H.upd t (mkB L w (blK L w d i).2))
theorem hide1 {G:Hp} {k t:Nat} {b:Blk} (h:¬ t=k):N2 (G.upd k b) [k] t=G t:=by
 simp only [N2];rw [if_neg (by simpa using h),A2 h]
theorem mg_upd1 {X:Hp} {k t:Nat} {B:Blk} (h:¬ t=k):H4 [k] X ((N2 X [k]).upd t B)=X.upd t B:=by
 funext j
 simp only [H4];by_cases e:j=k
 ·subst e;rw [if_pos (by simp),A2 (Ne.symm h)]
 ·rw [if_neg (by simpa using e)];by_cases e2:j=t
  ·subst e2;rw [A0,A0]
  ·rw [A2 e2,A2 e2];simp only [N2];rw [if_neg (by simpa using e)]
theorem c_bl1 (L:List UInt8) (hL:L.length<=300) (w:Nat) (hw:w<=100) (d:Nat) (hd:d<=10) (h1:InC L w d) (h2:BlC L w d):BlC L w (d+1):=by
 intro i hi H cc t ht htc;obtain ⟨o1,o2⟩:=A1i hL w d;have hB:lnB d<=1000000:=by
  have:∀ d,d<=10->lnB d<=1000000:=by decide
  exact this d hd
 refine AC.bodyT A6 rfl (Nat.le_of_ble_eq_true rfl) fun hfr=>?_;have qd:decide (((d+1:Nat):Int)<=0)=false:=by simp<;>omega
 have hw1:IntKind.i64.wrap (((d+1:Nat):Int)-1)=(d:Int):=by rw [w64 (by omega) (by omega)];omega
 rw [blK];dsimp only;generalize hD:((d+1:Nat):Int)=D at qd hw1 ⊢;repeat' ((with_reducible first|refine wr ?_|refine k_cu ?_ ?_|refine wb2 ?_ ?_<;>(intro hb;try simp only [hb])|fail)<;>try simp only [go_sem,seval,qd])
 refine AC.call (c_Next L hL w i hi 6 (by decide) (by decide) _ _ t ht (by omega)) ?_;rintro v' H' c2 ⟨rfl,rfl⟩ hc2;have hi2:=F6 hL (n:=6) hi;generalize nxK L 6 i=k at hi2 ⊢;obtain ⟨k,i2⟩:=k;dsimp only at hi2 ⊢;by_cases k0:k=0
 ·subst k0;rw [if_pos rfl];simp only [go_sem,seval];repeat' ((with_reducible first|refine wr ?_|refine k_cu ?_ ?_|refine wb2 ?_ ?_<;>(intro hb;try simp only [hb])|fail)<;>try simp only [go_sem,seval])
  refine AC.call (c_bl0 L hL w hw i2 hi2 0 (by omega) _ _ t A0 (by omega)) ?_;rintro v' H' c3 ⟨rfl,rfl⟩ hc3;have hl:=(B0h hL w i2 hi2).1;have hadd:=N9 (s:=[33]) (t:=(bl0 L w i2).1) (by simp;omega);rw [A1];simp only [go_sem,seval,hadd];repeat' ((with_reducible first|refine wr ?_|refine k_cu ?_ ?_|refine wb2 ?_ ?_<;>(intro hb;try simp only [hb])|fail)<;>try simp only [go_sem,seval,hadd])
  exact ⟨_,_,GL.refl _ _,rfl,rfl⟩
 have q0:((k:Int) == 0)=false:=by simpa using k0
 rw [if_neg k0];by_cases k1:k=1
 ·subst k1;rw [if_pos rfl];simp only [go_sem,seval];repeat' ((with_reducible first|refine wr ?_|refine k_cu ?_ ?_|refine wb2 ?_ ?_<;>(intro hb;try simp only [hb])|fail)<;>try simp only [go_sem,seval,hw1])
  refine AC.call (h2 i2 hi2 _ _ t A0 (by omega)) ?_;rintro v' H' c3 ⟨rfl,rfl⟩ hc3;have hl:=o2 i2 hi2;generalize blK L w d i2=a at hl ⊢;have a1:=N9 (s:=[40]) (t:=a.1) (by simp;omega);have a2:=N9 (s:=40 :: a.1) (t:=[32,38,38,32]) (by simp;omega);rw [A1];simp only [go_sem,seval,a1,a2];repeat' ((with_reducible first|refine wr ?_|refine k_cu ?_ ?_|refine wb2 ?_ ?_<;>(intro hb;try simp only [hb])|fail)<;>try simp only [go_sem,seval,hw1,a1,a2])
  refine AC.call (h2 a.2 hl.2 _ _ t A0 (by omega)) ?_;rintro v' H' c4 ⟨rfl,rfl⟩ hc4;have hl2:=o2 a.2 hl.2;generalize blK L w d a.2=c at hl2 ⊢;have a3:=N9 (s:=40 :: (a.1++[32,38,38,32])) (t:=c.1) (by simp;omega);have a4:=N9 (s:=40 :: (a.1++[32,38,38,32]++c.1)) (t:=[41]) (by simp;omega);rw [A1];simp only [go_sem,seval,a3,a4];repeat' ((with_reducible first|refine wr ?_|refine k_cu ?_ ?_|refine wb2 ?_ ?_<;>(intro hb;try simp only [hb])|fail)<;>try simp only [go_sem,seval,a3,a4])
  refine ⟨_,_,GL.refl _ _,?_,rfl⟩;simp
 have q1:((k:Int) == 1)=false:=by simp;omega
 rw [if_neg k1];by_cases k2:k=2
 ·subst k2;rw [if_pos rfl];simp only [go_sem,seval];repeat' ((with_reducible first|refine wr ?_|refine k_cu ?_ ?_|refine wb2 ?_ ?_<;>(intro hb;try simp only [hb])|fail)<;>try simp only [go_sem,seval,hw1])
  refine AC.call (h2 i2 hi2 _ _ t A0 (by omega)) ?_;rintro v' H' c3 ⟨rfl,rfl⟩ hc3;have hl:=o2 i2 hi2;generalize blK L w d i2=a at hl ⊢;have a1:=N9 (s:=[40]) (t:=a.1) (by simp;omega);have a2:=N9 (s:=40 :: a.1) (t:=[32,124,124,32]) (by simp;omega);rw [A1];simp only [go_sem,seval,a1,a2];repeat' ((with_reducible first|refine wr ?_|refine k_cu ?_ ?_|refine wb2 ?_ ?_<;>(intro hb;try simp only [hb])|fail)<;>try simp only [go_sem,seval,hw1,a1,a2])
  refine AC.call (h2 a.2 hl.2 _ _ t A0 (by omega)) ?_;rintro v' H' c4 ⟨rfl,rfl⟩ hc4;have hl2:=o2 a.2 hl.2;generalize blK L w d a.2=c at hl2 ⊢;have a3:=N9 (s:=40 :: (a.1++[32,124,124,32])) (t:=c.1) (by simp;omega);have a4:=N9 (s:=40 :: (a.1++[32,124,124,32]++c.1)) (t:=[41]) (by simp;omega);rw [A1];simp only [go_sem,seval,a3,a4];repeat' ((with_reducible first|refine wr ?_|refine k_cu ?_ ?_|refine wb2 ?_ ?_<;>(intro hb;try simp only [hb])|fail)<;>try simp only [go_sem,seval,a3,a4])
  refine ⟨_,_,GL.refl _ _,?_,rfl⟩;simp
 have q2:((k:Int) == 2)=false:=by simp;omega
 rw [if_neg k2];simp only [go_sem,seval,q0,q1,q2];repeat' ((with_reducible first|refine wr ?_|refine k_cu ?_ ?_|refine wb2 ?_ ?_<;>(intro hb;try simp only [hb])|fail)<;>try simp only [go_sem,seval,q0,q1,q2,hw1])
 refine AC.call (h1 i2 hi2 _ _ t A0 (by omega)) ?_;rintro v' H' c3 ⟨rfl,rfl⟩ hc3;have hl:=o1 i2 hi2;generalize inK L w d i2=a at hl ⊢;have a1:=N9 (s:=a.1) (t:=[32]) (by simp;omega);rw [A1];simp only [go_sem,seval,a1,hw1];repeat' ((with_reducible first|refine wr ?_|refine k_cu ?_ ?_|refine wb2 ?_ ?_<;>(intro hb;try simp only [hb])|fail)<;>try simp only [go_sem,seval,hw1,a1])
 refine AC.call (c_Next L hL w a.2 hl.2 6 (by decide) (by decide) _ _ t (by rw [hide1 (by omega)];exact A0) (by omega)) ?_;rintro v' H' c4 ⟨rfl,rfl⟩ hc4;have hlt:=R6 L a.2 (n:=6) (by decide);have ho2:=F6 hL (n:=6) hl.2;generalize nxK L 6 a.2=kq at hlt ho2 ⊢;obtain ⟨k3,i3⟩:=kq;dsimp only at hlt ho2 ⊢;have hmg:∀ (X:Hp) (B:Blk),H4 [c3+2] X ((N2 X [c3+2]).upd t B)=X.upd t B:=fun X B=>mg_upd1 (by omega);have hia:Y3 1 (.slc (c3+2) 0 6) (I64 (k3:Int))=some (.ptr (c3+2) k3):=by simp [Y3];omega
 have hld:([.str [60],.str [60,61],.str [62],.str [62,61],.str [61,61],.str [33,61]]:List DV)[k3]? = some (.str (copL.getD k3 [])):=by
  match k3,hlt with
  | 0,_=>rfl
  | 1,_=>rfl
  | 2,_=>rfl
  | 3,_=>rfl
  | 4,_=>rfl
  | 5,_=>rfl
 have hg:=A0y (l:=copL) (n:=5) (by decide) k3;generalize copL.getD k3 []=og at hg hld ⊢;generalize hWL:([.str [60],.str [60,61],.str [62],.str [62,61],.str [61,61],.str [33,61]]:List DV)=WL at hld ⊢;have ne0:=U0 t (c3+2) (by omega);have a2:=N9 (s:=a.1++[32]) (t:=og) (by simp;omega);have a3:=N9 (s:=a.1++[32]++og) (t:=[32]) (by simp;omega);simp only [go_sem,seval,hmg,A0,A1,ne0,hia,hld,a1,a2,a3,hw1];refine ⟨by and_intros<;>first|rfl|(rw [<- hWL];done)|((repeat rw [A2 (by omega)]);exact hfr _ (by omega)),?_⟩;refine AC.call (h1 i3 ho2 _ _ t (by simp only [N2];rw [if_neg (by simp;omega)];exact A0) (by omega)) ?_;rintro v' H' c5 ⟨rfl,rfl⟩ hc5;have hl3:=o1 i3 ho2;generalize inK L w d i3=c at hl3 ⊢;have a4:=N9 (s:=a.1++[32]++og++[32]) (t:=c.1) (by simp;omega);simp only [go_sem,seval,hmg,A0,A1,ne0,hia,hld,a1,a2,a3,a4,hw1];refine ⟨by and_intros<;>first|rfl|(rw [<- hWL];done)|((repeat rw [A2 (by omega)]);exact hfr _ (by omega)),?_⟩;repeat' ((with_reducible first|refine wr ?_|refine k_cu ?_ ?_|refine wb2 ?_ ?_<;>(intro hb;try simp only [hb])|fail)<;>try simp only [go_sem,seval])
 exact ⟨_,_,B0t hfr htc (by omega),by simp,rfl⟩
def in2 (L:List UInt8) (w d i:Nat):Mk :=
 let k:=nxK L 5 i
 if k.1=0 then in0 L w k.2
 else if k.1=1 then let a:=in0 L w k.2;([45]++a.1,a.2)
 else
  let a:=inK L w d k.2
  let c:=inK L w d a.2
  let o:=nxK L 5 c.2
  (((((([40]++a.1)++[32])++aopL.getD o.1 [])++[32])++c.1)++[41],o.2)
theorem c_in2 (L:List UInt8) (hL:L.length<=300) (w:Nat) (hw:w<=100) (d:Nat) (hd:d<=10) (h1:InC L w d) (h2:BlC L w d):InC L w (d+1):=by
 intro i hi H cc t ht htc;obtain ⟨o1,o2⟩:=A1i hL w d;have hB:lnB d<=1000000:=by
  have:∀ d,d<=10->lnB d<=1000000:=by decide
  exact this d hd
 refine AC.bodyT A6 rfl (Nat.le_of_ble_eq_true rfl) fun hfr=>?_;have qd:decide (((d+1:Nat):Int)<=0)=false:=by simp<;>omega
 have hw1:IntKind.i64.wrap (((d+1:Nat):Int)-1)=(d:Int):=by rw [w64 (by omega) (by omega)];omega
 rw [show inK L w (d+1) i=wlK L w (blK L w d) (in2 L w d) i from by rw [inK];rfl];generalize hD:((d+1:Nat):Int)=D at qd hw1 ⊢;have kI:∀ (j c0:Nat),j<=300->cc<=c0->IW Tryz.prog 86 (pz Tryz.prog 20 (.i (.i (.o .h)))) ⟨tm [(0,.ptr t 0),(1,I64 D)],H.upd t (mkB L w j),c0⟩ (rt [.tmp 4] fun v H' c' => ∃ v2 H2,GL H' [v] H2 [v2]/\v2=.str (in2 L w d j).1/\H2=H.upd t (mkB L w (in2 L w d j).2)):=by
  intro j c0 hj hc0;unfold in2;repeat' ((with_reducible first|refine wr ?_|refine k_cu ?_ ?_|refine wb2 ?_ ?_<;>(intro hb;try simp only [hb])|fail)<;>try simp only [go_sem,seval,qd])
  refine AC.call (c_Next L hL w j hj 5 (by decide) (by decide) _ _ t A0 (by omega)) ?_;rintro v' H' c2 ⟨rfl,rfl⟩ hc2;rw [A1];have hi2:=F6 hL (n:=5) hj;generalize nxK L 5 j=k at hi2 ⊢;obtain ⟨k,i2⟩:=k;dsimp only at hi2 ⊢;by_cases k0:k=0
  ·subst k0;rw [if_pos rfl];simp only [go_sem,seval];repeat' ((with_reducible first|refine wr ?_|refine k_cu ?_ ?_|refine wb2 ?_ ?_<;>(intro hb;try simp only [hb])|fail)<;>try simp only [go_sem,seval])
   refine AC.call (c_in0 L hL w hw i2 hi2 0 (by omega) (by omega) _ _ t A0 (by omega)) ?_;rintro v' H' c3 ⟨rfl,rfl⟩ hc3;rw [A1];simp only [go_sem,seval];repeat' ((with_reducible first|refine wr ?_|refine k_cu ?_ ?_|refine wb2 ?_ ?_<;>(intro hb;try simp only [hb])|fail)<;>try simp only [go_sem,seval])
   exact ⟨_,_,GL.refl _ _,rfl,rfl⟩
  have q0:((k:Int) == 0)=false:=by simpa using k0
  rw [if_neg k0];by_cases k1:k=1
  ·subst k1;rw [if_pos rfl];simp only [go_sem,seval];repeat' ((with_reducible first|refine wr ?_|refine k_cu ?_ ?_|refine wb2 ?_ ?_<;>(intro hb;try simp only [hb])|fail)<;>try simp only [go_sem,seval])
   refine AC.call (c_in0 L hL w hw i2 hi2 0 (by omega) (by omega) _ _ t A0 (by omega)) ?_;rintro v' H' c3 ⟨rfl,rfl⟩ hc3;rw [A1];have hl:=(B0g hL w i2 hi2).1;have hadd:=N9 (s:=[45]) (t:=(in0 L w i2).1) (by simp;omega);simp only [go_sem,seval,hadd];repeat' ((with_reducible first|refine wr ?_|refine k_cu ?_ ?_|refine wb2 ?_ ?_<;>(intro hb;try simp only [hb])|fail)<;>try simp only [go_sem,seval,hadd])
   exact ⟨_,_,GL.refl _ _,rfl,rfl⟩
  have q1:((k:Int) == 1)=false:=by simp;omega
  rw [if_neg k1];simp only [go_sem,seval,q0,q1];repeat' ((with_reducible first|refine wr ?_|refine k_cu ?_ ?_|refine wb2 ?_ ?_<;>(intro hb;try simp only [hb])|fail)<;>try simp only [go_sem,seval,q0,q1,hw1])
  refine AC.call (h1 i2 hi2 _ _ t A0 (by omega)) ?_;rintro v' H' c3 ⟨rfl,rfl⟩ hc3;have hl:=o1 i2 hi2;generalize inK L w d i2=a at hl ⊢;rw [A1];simp only [go_sem,seval,hw1];repeat' ((with_reducible first|refine wr ?_|refine k_cu ?_ ?_|refine wb2 ?_ ?_<;>(intro hb;try simp only [hb])|fail)<;>try simp only [go_sem,seval,hw1])
  refine AC.call (h1 a.2 hl.2 _ _ t A0 (by omega)) ?_;rintro v' H' c4 ⟨rfl,rfl⟩ hc4;have hl2:=o1 a.2 hl.2;generalize inK L w d a.2=c at hl2 ⊢;rw [A1];have a1:=N9 (s:=[40]) (t:=a.1) (by simp;omega);have a2:=N9 (s:=40 :: a.1) (t:=[32]) (by simp;omega);simp only [go_sem,seval,a1,a2];repeat' ((with_reducible first|refine wr ?_|refine k_cu ?_ ?_|refine wb2 ?_ ?_<;>(intro hb;try simp only [hb])|fail)<;>try simp only [go_sem,seval,a1,a2])
  refine AC.call (c_Next L hL w c.2 hl2.2 5 (by decide) (by decide) _ _ t (by rw [A2 (by omega)];exact A0) (by omega)) ?_;rintro v' H' c5 ⟨rfl,rfl⟩ hc5;have hlt:=R6 L c.2 (n:=5) (by decide);generalize nxK L 5 c.2=kq at hlt ⊢;obtain ⟨k3,i3⟩:=kq;dsimp only at hlt ⊢;have hia:Y3 1 (.slc c4 0 5) (I64 (k3:Int))=some (.ptr c4 k3):=by simp [Y3];omega
  have hld:([.str [43],.str [45],.str [42],.str [47],.str [37]]:List DV)[k3]? = some (.str (aopL.getD k3 [])):=by
   match k3,hlt with
   | 0,_=>rfl
   | 1,_=>rfl
   | 2,_=>rfl
   | 3,_=>rfl
   | 4,_=>rfl
  have hg:=A0y (l:=aopL) (n:=5) (by decide) k3;generalize aopL.getD k3 []=og at hg hld ⊢;generalize hWL:([.str [43],.str [45],.str [42],.str [47],.str [37]]:List DV)=WL at hld ⊢;have ne0:=U0 t c4 (by omega);have a3:=N9 (s:=40 :: (a.1++[32])) (t:=og) (by simp;omega);have a4:=N9 (s:=40 :: (a.1++[32]++og)) (t:=[32]) (by simp;omega);have a5:=N9 (s:=40 :: (a.1++[32]++og++[32])) (t:=c.1) (by simp;omega);have a6:=N9 (s:=40 :: (a.1++[32]++og++[32]++c.1)) (t:=[41]) (by simp;omega);simp only [go_sem,seval,A0,A1,ne0,hia,hld,a3,a4,a5,a6];repeat' ((with_reducible first|refine wr ?_|refine k_cu ?_ ?_|refine wb2 ?_ ?_<;>(intro hb;try simp only [hb])|fail)<;>try simp only [go_sem,seval,A0,A1,ne0,hia,hld,a3,a4,a5,a6])
  exact ⟨_,_,B0t hfr htc (by omega),by simp,rfl⟩
 unfold wlK;by_cases h0:0<w
 ·have q0:decide ((w:Int)>0)=true:=by simpa using h0
  have hw4:IntKind.i64.wrap (4 * (w:Int))=((4 * w:Nat):Int):=by rw [w64 (by omega) (by omega)];omega
  repeat' ((with_reducible first|refine wr ?_|refine k_cu ?_ ?_|refine wb2 ?_ ?_<;>(intro hb;try simp only [hb])|fail)<;>try simp only [go_sem,seval,ht,q0,hw4])
  refine AC.call (c_Next L hL w i hi (4 * w) (by omega) (by omega) _ _ t ht (by omega)) ?_;rintro v' H' c2 ⟨rfl,rfl⟩ hc2;have hi2:=F6 hL (n:=4 * w) hi;generalize nxK L (4 * w) i=k at hi2 ⊢;obtain ⟨k,i2⟩:=k;dsimp only at hi2 ⊢;by_cases k1:k=1
  ·subst k1;rw [if_pos ⟨h0,rfl⟩];simp only [go_sem,seval];repeat' ((with_reducible first|refine wr ?_|refine k_cu ?_ ?_|refine wb2 ?_ ?_<;>(intro hb;try simp only [hb])|fail)<;>try simp only [go_sem,seval,hw1])
   refine AC.call (h2 i2 hi2 _ _ t A0 (by omega)) ?_;rintro v' H' c3 ⟨rfl,rfl⟩ hc3;rw [A1];simp only [go_sem,seval];repeat' ((with_reducible first|refine wr ?_|refine k_cu ?_ ?_|refine wb2 ?_ ?_<;>(intro hb;try simp only [hb])|fail)<;>try simp only [go_sem,seval])
   exact ⟨_,_,GL.refl _ _,rfl,rfl⟩
  have q1:((k:Int) == 1)=false:=by simp;omega
  rw [if_neg (fun h=>k1 h.2),if_pos h0];simp only [go_sem,seval,q1];repeat' ((with_reducible first|refine E7 (p:=IW _ _ (pz Tryz.prog 20 (.i (.i (.o .h)))) _ _) ?_|refine wr ?_|refine k_cu ?_ ?_|refine wb2 ?_ ?_<;>(intro hb;try simp only [hb])|fail)<;>try simp only [go_sem,seval,q1])
  exact IW.stage (by simp [C5,tm,Tm.upd]) (kI i2 _ hi2 hc2)
 ·have q0:decide ((w:Int)>0)=false:=by simpa using h0
  rw [if_neg (fun h=>h0 h.1),if_neg h0];repeat' ((with_reducible first|refine E7 (p:=IW _ _ (pz Tryz.prog 20 (.i (.i (.o .h)))) _ _) ?_|refine wr ?_|refine k_cu ?_ ?_|refine wb2 ?_ ?_<;>(intro hb;try simp only [hb])|fail)<;>try simp only [go_sem,seval,ht,q0])
  have:=kI i cc hi (Nat.le_refl _);rw [upd_same ht] at this;exact IW.stage (by simp [C5,tm,Tm.upd]) this
theorem c_exK (L:List UInt8) (hL:L.length<=300) (w:Nat) (hw:w<=100):∀ d,d<=10->InC L w d/\BlC L w d
 | 0,_=>⟨fun i hi H cc t ht htc=>by rw [inK];exact c_in0 L hL w hw i hi 0 (by omega) (by omega) H cc t ht htc,fun i hi H cc t ht htc=>by rw [blK];exact c_bl0 L hL w hw i hi 0 (by omega) H cc t ht htc⟩
 | d+1,h=>by
  obtain ⟨h1,h2⟩:=c_exK L hL w hw d (by omega);exact ⟨c_in2 L hL w hw d (by omega) h1 h2,c_bl1 L hL w hw d (by omega) h1 h2⟩
theorem lnB_le {d:Nat} (h:d<=2):lnB d<=2100:=by
 have:∀ d,d<=2->lnB d<=2100:=by decide
 exact this d h
end Go.Proofs.YthlpinppaclofaaGreatDoor
set_option linter.unusedSectionVars false
namespace Go.Pb
variable [Go.Sym.Tab]
open Go.Sym
theorem S5 (L:List UInt8) (n i:Nat):i<=(nxK L n i).2/\((nxK L n i).1=0\/i+1<=(nxK L n i).2):=by
 unfold nxK;split
 ·exact ⟨by simp,.inr (Nat.le_refl _)⟩
 ·exact ⟨Nat.le_refl _,.inl rfl⟩
def Pot (f:Nat->Mk):Prop:=∀ i,(f i).1.length+50 * i<=5+50 * (f i).2
theorem A1q {l:List (List UInt8)} {n:Nat} (h:∀ x∈l,x.length<=n) (k:Nat):(l.getD k []).length<=n:=by
 rw [List.getD_eq_getElem?_getD];cases hk:l[k]? with
 | none=>simp
 | some x=>exact h x (List.mem_of_getElem? hk)
theorem A1j (L:List UInt8) (w:Nat) {p:List UInt8} {n:Nat} (hp:p.length<=4) (hn:0<n) (hn2:n<=1000):Pot (nmK L w p n):=by
 intro i;unfold nmK;dsimp only;obtain ⟨h1,h2⟩:=S5 L w i;split
 ·have h3:=A1q (l:=X1) (n:=5) (by decide) (nxK L 10 (nxK L w i).2).1;have h4:=B0i L 10 (nxK L w i).2;dsimp only;omega
 ·have key:∀ j,i<=j->(p++G5 ((nxK L n j).1:Int)).length+50 * i<=5+50 * (nxK L n j).2:=by
   intro j hj;obtain ⟨h3,h4⟩:=S5 L n j;have hlt:=R6 L j hn;rw [List.length_append];rcases h4 with h4|h4
   ·rw [h4];have:(G5 ((0:Nat):Int)).length=1:=by rw [decI_lt (by decide) (by decide)];rfl
    omega
   ·have:=N6 (n:=((nxK L n j).1:Int)) (by omega) (by omega);omega
  split
  ·exact key _ h1
  ·exact key _ (Nat.le_refl _)
theorem B0x (L:List UInt8) (w:Nat):Pot (bl0 L w):=by
 intro i;unfold bl0;dsimp only;obtain ⟨h1,h2⟩:=S5 L 5 i;split
 ·show 4+50 * i<=_;dsimp only;omega
 ·split
  ·show 5+50 * i<=_;dsimp only;omega
  ·split
   ·have:=A1j L w (p:=[109,111,100,101]) (n:=3) (by decide) (by decide) (by decide) (nxK L 5 i).2;simp only [List.length_append,List.length_cons,List.length_nil];omega
   ·have:=A1j L w (p:=[115,119]) (n:=4) (by decide) (by decide) (by decide) (nxK L 5 i).2;simp only [List.length_append,List.length_cons,List.length_nil];omega
theorem in1_pot (L:List UInt8) (w:Nat):Pot (in1 L w):=by
 intro i;unfold in1;dsimp only;obtain ⟨h1,h2⟩:=S5 L 7 i;split
 ·have:=A1j L w (p:=[118]) (n:=3) (by decide) (by decide) (by decide) (nxK L 7 i).2;omega
 ·split
  ·show 6+50 * i<=_;dsimp only;omega
  ·split
   ·show 4+50 * i<=_;dsimp only;omega
   ·split
    ·have:=A1j L w (p:=[116,109]) (n:=2) (by decide) (by decide) (by decide) (nxK L 7 i).2;simp only [List.length_append,List.length_cons,List.length_nil];omega
    ·split
     ·have h3:=A1q (l:=bigL) (n:=10) (by decide) (nxK L 4 (nxK L 7 i).2).1;have h4:=B0i L 4 (nxK L 7 i).2;dsimp only;omega
     ·obtain ⟨h3,h4⟩:=S5 L 12 (nxK L 7 i).2;have hlt:=R6 L (nxK L 7 i).2 (n:=12) (by decide);have:=N6 (n:=((nxK L 12 (nxK L 7 i).2).1:Int)) (by omega) (by omega);dsimp only;omega
theorem wl_pot (L:List UInt8) (w:Nat) {f g:Nat->Mk} (hf:Pot f) (hg:Pot g):Pot (wlK L w f g):=by
 intro i;unfold wlK;dsimp only;obtain ⟨h1,h2⟩:=S5 L (4 * w) i;split
 ·have:=hf (nxK L (4 * w) i).2;omega
 ·split
  ·have:=hg (nxK L (4 * w) i).2;omega
  ·exact hg i
theorem B0r (L:List UInt8) (w:Nat):Pot (in0 L w):=wl_pot L w (B0x L w) (in1_pot L w)
theorem ik_pot (L:List UInt8) (w:Nat):∀ d,Pot (inK L w d)/\Pot (blK L w d)
 | 0=>⟨fun i=>by rw [inK];exact B0r L w i,fun i=>by rw [blK];exact B0x L w i⟩
 | d+1=>by
  obtain ⟨h1,h2⟩:=ik_pot L w d;refine ⟨fun i=>?_,fun i=>?_⟩
  ·rw [inK];refine wl_pot L w h2 (fun i=>?_) i;dsimp only;obtain ⟨k1,k2⟩:=S5 L 5 i;split
   ·have:=B0r L w (nxK L 5 i).2;omega
   ·split
    ·have:=B0r L w (nxK L 5 i).2;simp only [List.length_append,List.length_cons,List.length_nil];omega
    ·have ha:=h1 (nxK L 5 i).2;have hc:=h1 (inK L w d (nxK L 5 i).2).2;have ho:=B0i L 5 (inK L w d (inK L w d (nxK L 5 i).2).2).2;have hg:=A1q (l:=aopL) (n:=5) (by decide) (nxK L 5 (inK L w d (inK L w d (nxK L 5 i).2).2).2).1;simp only [List.length_append,List.length_cons,List.length_nil];omega
  ·rw [blK];dsimp only;obtain ⟨k1,k2⟩:=S5 L 6 i;split
   ·have:=B0x L w (nxK L 6 i).2;have e:0<L.length\/True:=.inr trivial;simp only [List.length_append,List.length_cons,List.length_nil];unfold bl0 at this ⊢;dsimp only at this ⊢;obtain ⟨q1,q2⟩:=S5 L 5 (nxK L 6 i).2;split
    ·show 0+1+4+50 * i<=_;dsimp only;omega
    ·split
     ·show 0+1+5+50 * i<=_;dsimp only;omega
     ·split
      ·have:=A1j L w (p:=[109,111,100,101]) (n:=3) (by decide) (by decide) (by decide) (nxK L 5 (nxK L 6 i).2).2;simp only [List.length_append,List.length_cons,List.length_nil];omega
      ·have:=A1j L w (p:=[115,119]) (n:=4) (by decide) (by decide) (by decide) (nxK L 5 (nxK L 6 i).2).2;simp only [List.length_append,List.length_cons,List.length_nil];omega
   ·split
    ·have ha:=h2 (nxK L 6 i).2;have hc:=h2 (blK L w d (nxK L 6 i).2).2;simp only [List.length_append,List.length_cons,List.length_nil];omega
    ·split
     ·have ha:=h2 (nxK L 6 i).2;have hc:=h2 (blK L w d (nxK L 6 i).2).2;simp only [List.length_append,List.length_cons,List.length_nil];omega
     ·have ha:=h1 (nxK L 6 i).2;have ho:=B0i L 6 (inK L w d (nxK L 6 i).2).2;have hc:=h1 (nxK L 6 (inK L w d (nxK L 6 i).2).2).2;have hg:=A1q (l:=copL) (n:=5) (by decide) (nxK L 6 (inK L w d (nxK L 6 i).2).2).1;simp only [List.length_append,List.length_cons,List.length_nil];omega
end Go.Pb
namespace Go.Proofs.YthlpinppaclofaaGreatDoor
open Go.Eng (IC IOper DReg IFn B5)
open Go.Sym Go.Pb
theorem c_New (l:List UInt8) (hl:l.length<=9223372036854775807) (H:Hp) (cc:Nat) :
  AC Tryz.prog 13 [.lst (bytesC l)] H cc (fun v H' c' => ∃ t,cc<=t/\t<c'/\v=.ptr t 0/\H'=H.upd t (mkB (l.take 300) 0 0)):=by
 refine AC.bodyT A6 rfl (Nat.le_of_ble_eq_true rfl) fun hfr=>?_;have hlen:(bytesC l).length=l.length:=by simp [bytesC]
 have hmin:(if (300:Int)<((l.length:Nat):Int) then (300:Int) else ((l.length:Nat):Int))=((min l.length 300:Nat):Int):=by split<;>omega
 have hsl:A6l H 1 (.lst (bytesC l)) none (some (I64 ((min l.length 300:Nat):Int)))=some (.lst (bytesC (l.take 300))):=by
  have hb:boundOf (bytesC l).length (some (I64 ((min l.length 300:Nat):Int)))=some (min l.length 300):=by simp [boundOf]
  have hu:Sym.unit 1 (bytesC l)=true:=by simp only [Sym.unit,bytesC,List.all_map];exact List.all_eq_true.2 fun x _=>rfl
  simp only [A6l,hb];have h0:boundOf 0 none=some 0:=rfl;rw [h0];dsimp only;rw [if_pos ⟨by rw [hlen];omega,Nat.zero_le _,hu⟩];rw [List.drop_zero,Nat.sub_zero];unfold bytesC;rw [<- List.map_take];have e:l.take (min l.length 300)=l.take 300:=by
   rcases Nat.le_total l.length 300 with h|h
   ·rw [Nat.min_eq_left h,List.take_of_length_le (Nat.le_refl _),List.take_of_length_le h]
   ·rw [Nat.min_eq_right h]
  rw [e]
 repeat' ((with_reducible first|refine wr ?_|refine k_cu ?_ ?_|refine wb2 ?_ ?_<;>(intro hb;try simp only [hb])|fail)<;>try simp only [go_sem,seval,hlen,hmin,hsl])
 exact ⟨_,_,GL.refl _ _,cc,Nat.le_refl _,Nat.lt_succ_self _,rfl,rfl⟩
theorem bytes_nl (l:List UInt8):DV.nlL (bytesC l)=true:=L8 (fun _=>rfl) l
end Go.Proofs.YthlpinppaclofaaGreatDoor
namespace Go.Pb
variable [Go.Sym.Tab]
open Go.Sym
mutual
def Ex.xz:Ex->Nat
 | .mk k v n a p=>1+n.length+Ex.xzs 0 a
def Ex.xzs:Nat->List Ex->Nat
 | n,[]=>n
 | n,e :: l=>if 1000<n then n else Ex.xzs (n+Ex.xz e) l
end
mutual
theorem Ex.xz_le:∀ e:Ex,e.xz<=e.sz
 | .mk k v n a p=>by have:=Ex.xzs_le a 0;rw [Ex.xz,Ex.sz];omega
theorem Ex.xzs_le:∀ (l:List Ex) (n:Nat),Ex.xzs n l<=n+Ex.szs l
 | [],n=>by rw [Ex.xzs];omega
 | e :: l,n=>by
  have h1:=Ex.xz_le e;have h2:=Ex.xzs_le l (n+Ex.xz e);rw [Ex.xzs,Ex.szs];split<;>omega
end
theorem Ex.xzs_at {l:List Ex} {n k:Nat} {x:Ex} (h:l[k]? = some x):Ex.xzs n (l.drop k)=if 1000<n then n else Ex.xzs (n+x.xz) (l.drop (k+1)):=by
 obtain ⟨h1,h2⟩:=List.getElem?_eq_some_iff.1 h;rw [List.drop_eq_getElem_cons h1,h2,Ex.xzs]
theorem Ex.szs_at {l:List Ex} {k:Nat} {x:Ex} (h:l[k]? = some x):Ex.szs (l.drop k)=x.sz+Ex.szs (l.drop (k+1)):=by
 obtain ⟨h1,h2⟩:=List.getElem?_eq_some_iff.1 h;rw [List.drop_eq_getElem_cons h1,h2,Ex.szs]
theorem Ex.xzs_ge:∀ (l:List Ex) (n:Nat),n<=Ex.xzs n l
 | [],n=>by rw [Ex.xzs];omega
 | e :: l,n=>by
  have h2:=Ex.xzs_ge l (n+Ex.xz e);rw [Ex.xzs];split<;>omega
mutual
theorem Ex.xz_eq:∀ e:Ex,e.xz<=1000->e.xz=e.sz
 | .mk k v n a p=>fun h=>by
  rw [Ex.xz] at h;have:=Ex.xzs_eq a 0 (by omega);rw [Ex.xz,Ex.sz];omega
theorem Ex.xzs_eq:∀ (l:List Ex) (n:Nat),Ex.xzs n l<=1000->Ex.xzs n l=n+Ex.szs l
 | [],n,_=>by rw [Ex.xzs,Ex.szs];omega
 | e :: l,n,h=>by
  rw [Ex.xzs] at h ⊢;split at h
  ·omega
  ·rename_i g;rw [if_neg g];have h1:=Ex.xzs_ge l (n+Ex.xz e);have h2:=Ex.xz_eq e (by omega);have h3:=Ex.xzs_eq l (n+Ex.xz e) h;rw [h3,Ex.szs];omega
end
theorem parE_sz2 (s:List UInt8):(X8 s).1.sz<=13 * s.length+1:=by
 have h0:Ex.sz Ex0=1:=by simp [Ex0,Ex.sz,Ex.szs]
 have hl:=A8o s;unfold X8;dsimp only;by_cases g:(B4 s).2.2=0
 ·rw [if_neg (by simpa using g)];generalize (if okR (J3 (B4 s).1 s.length).2=true/\(J3 (B4 s).1 s.length).2.i<(B4 s).1.length then K8 (B4 s).1 s.length (J3 (B4 s).1 s.length).2 else (J3 (B4 s).1 s.length).2)=z;have:=xpnF_sz (L:=(B4 s).1) (E:=s.length) (scanT_good g);by_cases h:okR z=false
  ·rw [if_pos h];show Ex.sz Ex0<=_;rw [h0];omega
  ·rw [if_neg h];show Ex.sz (J3 (B4 s).1 s.length).1<=_;omega
 ·rw [if_pos (by simpa using g)];show Ex.sz Ex0<=_;rw [h0];omega
end Go.Pb
namespace Go.Proofs.YthlpinppaclofaaGreatDoor
open Go.Eng (IC IOper DReg IFn B5)
open Go.Sym Go.Pb
theorem c_exSizes:∀ (m:Nat) (l:List Ex),Ex.szs l<m->Ex.szs l<=100000000000->PC Tryz.prog 27 [H9 l] (I64 (Ex.xzs 0 l:Nat)):=by
 intro m
 induction m with
 | zero=>intro l h;omega
 | succ m ih =>
 intro l hm hB;have hl:=Ex.szs_len l;refine PC.ofT A6 rfl (Nat.le_of_ble_eq_true rfl) (by simp [DV.nlL,DV.nl,Z8]) rfl ?_;repeat' ((with_reducible first|refine wr ?_|refine k_cu ?_ ?_|refine wb2 ?_ ?_<;>(intro hb;try simp only [hb])|fail)<;>try simp only [go_sem,seval])
 refine D6 (fun q:Nat × Nat=>[(0,H9 l),(3,I64 (q.2:Nat)),(4,I64 (q.1:Nat))]) (fun _=>Sym.nil) (fun q c=>q.1<=l.length/\Ex.xzs q.2 (l.drop q.1)=Ex.xzs 0 l/\q.2+Ex.szs (l.drop q.1)<=Ex.szs l) (fun q=>l.length-q.1) (0,0)
  (by simp [C5,tm,Tm.upd]) (Sub.nil _) ⟨Nat.zero_le _,rfl,by simp⟩ ?_
 rintro ⟨k,n⟩ c ⟨hk,hx,hz⟩;dsimp only at hk hx hz ⊢;by_cases hlt:k<l.length
 ·have hd:decide ((k:Int)<(l.length:Int))=true:=by simpa using hlt
  have hg:=List.getElem?_eq_getElem hlt;have hsx:=Ex.szs_mem (List.getElem_mem hlt);have hw:=w64 (n:=(k:Int)+1) (by omega) (by omega);generalize l[k]=x at hg hsx;rw [Ex.xzs_at hg] at hx;rw [Ex.szs_at hg] at hz;by_cases hn:n<=1000
  ·have hd2:decide ((n:Int)<=1000)=true:=decide_eq_true (by omega);rw [if_neg (by omega)] at hx;have hax:Ex.szs x.args<x.sz:=by cases x with|mk k v n a p=>rw [Ex.sz];show Ex.szs a<_;omega
   have hcl:=ih x.args (by omega) (by omega);have hxz:=Ex.xz_le x;have hxe:x.xz=1+x.name.length+Ex.xzs 0 x.args:=by cases x;rfl
   have hw1:=w64 (n:=(n:Int)+1) (by omega) (by omega);have hw2:=w64 (n:=(n:Int)+1+(x.name.length:Int)) (by omega) (by omega);have hw3:IntKind.i64.wrap ((n:Int)+1+(x.name.length:Int)+((Ex.xzs 0 x.args:Nat):Int))=((n+x.xz:Nat):Int):=by rw [w64 (by omega) (by omega)];omega
   repeat' ((with_reducible first|refine wr ?_|refine cpc hcl ?_|refine k_cu ?_ ?_|refine wb2 ?_ ?_<;>(intro hb;try simp only [hb])|fail)<;>try simp only [go_sem,seval,hd,hd2,hg,hw,hw1,hw2,hw3,Ex.v_w])
   refine ⟨(k+1,n+x.xz),by simp [C5,tm,Tm.upd],Sub.nil _,inv ⟨by omega,hx,by show n+x.xz+Ex.szs (l.drop (k+1))<=_;omega⟩,by simp only;omega⟩
  ·have hd2:decide ((n:Int)<=1000)=false:=decide_eq_false (by omega);rw [if_pos (by omega)] at hx;repeat' ((with_reducible first|refine wr ?_|refine k_cu ?_ ?_|refine wb2 ?_ ?_<;>(intro hb;try simp only [hb])|fail)<;>try simp only [go_sem,seval,hd,hd2])
   rw [<- hx];exact A4 rfl
 ·have hd:decide ((k:Int)<(l.length:Int))=false:=by simpa using hlt
  rw [List.drop_eq_nil_of_le (by omega),Ex.xzs] at hx;repeat' ((with_reducible first|refine wr ?_|refine k_cu ?_ ?_|refine wb2 ?_ ?_<;>(intro hb;try simp only [hb])|fail)<;>try simp only [go_sem,seval,hd])
  rw [<- hx];exact A4 rfl
abbrev exC (x:Ex):List DV:=[I64 x.kind,I64 x.value,.str x.name,H9 x.args,I64 x.pos]
theorem c_feS (kd v3 v8 v11 v14:DV) (x:Ex) (hx:x.sz<=100000) (b c:Nat) (hbc:b<c) (H:Hp) (hb:H b=some ⟨0,true,exC x⟩) (hfr:∀ j,c<=j->H j=none) (Q:Exit->Go.Sym.St->Prop)
  (next:∀ (T:Tm) H' c',T 2=kd->T 3=v3->T 8=v8->T 11=v11->T 14=v14->c<=c'->(∀ j,j<c->H' j=H j)->Q (.exit 1) ⟨T,H',c'⟩/\Q .normal ⟨T,H',c'⟩) :
  IW Tryz.prog 108 (pz Tryz.prog 7 (.o (.o (.o (.o (.o .h)))))) ⟨tm [(2,kd),(3,v3),(8,v8),(11,v11),(14,v14),(15,.ptr b 0)],H,c⟩ Q:=by
 have f1:=c_PFormatE x hx;have f2:=c_RFormatE x hx;have v1:=c_ValidExpr x (by omega);have v2:=c_ValidE31 x (by omega);rw [vdE31_eq] at v2;rw [Ex.v_w] at f1 f2 v1 v2;have hft:(true != true)=false:=rfl;have hff:(false != false)=false:=rfl;have htt:(Y4 x != Y4 x)=false:=by simp
 have hnf:(!false)=true:=rfl;have hnt:(!true)=false:=rfl;by_cases h0:Y4 x=[]
 ·have hfe:(Y4 x == [])=true:=by simpa using h0
  generalize Y4 x=t at *;generalize Q7 x=q at *;cases q;all_goals
   repeat' ((with_reducible first|refine wr ?_|refine cpc f1 ?_|refine cpc f2 ?_|refine cpc v1 ?_|refine cpc v2 ?_|refine k_cu ?_ ?_|refine wb2 ?_ ?_<;>(intro hb;try simp only [hb])|fail)<;>try simp only [go_sem,seval,hfe,hft,hff,htt,hb])
   refine ⟨hfr _ (by omega),?_⟩;repeat' ((with_reducible first|refine wr ?_|refine cpc f1 ?_|refine cpc f2 ?_|refine cpc v1 ?_|refine cpc v2 ?_|refine k_cu ?_ ?_|refine wb2 ?_ ?_<;>(intro hb;try simp only [hb])|fail)<;>try simp only [go_sem,seval,hfe,hft,hff,htt,hb])
   refine ⟨hfr _ (by omega),?_⟩;repeat' ((with_reducible first|refine wr ?_|refine cpc f1 ?_|refine cpc f2 ?_|refine cpc v1 ?_|refine cpc v2 ?_|refine k_cu ?_ ?_|refine wb2 ?_ ?_<;>(intro hb;try simp only [hb])|fail)<;>try simp only [go_sem,seval,hfe,hft,hff,htt,hb])
   exact (next _ _ _ rfl rfl rfl rfl rfl (by omega) (fun _ _=>rfl)).1
 ·have hfe:(Y4 x == [])=false:=by simpa using h0
  have hq:Q7 x=true:=Classical.byContradiction fun h=>h0 (by unfold Y4;rw [if_neg h]);have hfx:Y4 x=O4 (exT x):=by unfold Y4;rw [if_pos hq]
  rw [hq] at v1 v2;by_cases hlen:(Y4 x).length<=20000
  ·have hdl:decide (((Y4 x).length:Int)>20000)=false:=decide_eq_false (by omega);obtain ⟨y,y1,y2⟩:=back_ex hq (by rw [<- hfx];exact hlen);rw [<- hfx] at y1;have hp:=c_PParseE (Y4 x) (by omega);rw [y1] at hp;have hsm:=c_sameE true (x.sz+1) x y (by omega) (by omega);rw [(A0c x y).2 y2.symm,Ex.v_w,Ex.v_w] at hsm;dsimp only [A6t] at hp;rw [Ex.v_w] at hp;generalize Y4 x=t at *;repeat' ((with_reducible first|refine wr ?_|refine cpc f1 ?_|refine cpc f2 ?_|refine cpc v1 ?_|refine cpc v2 ?_|refine cpc hp ?_|refine cpc hsm ?_|refine k_cu ?_ ?_|refine wb2 ?_ ?_<;>(intro hb;try simp only [hb])|fail)<;>try simp only [go_sem,seval,hfe,hft,hff,htt,hdl,hb])
   refine ⟨hfr _ (by omega),?_⟩;have hcb:¬ b=c:=by omega
   have hb2:∀ o,(H.upd (c+11) o) b=some ⟨0,true,exC x⟩:=fun o=>by rw [A2 (by omega)];exact hb
   repeat' ((with_reducible first|refine wr ?_|refine cpc f1 ?_|refine cpc f2 ?_|refine cpc v1 ?_|refine cpc v2 ?_|refine cpc hp ?_|refine cpc hsm ?_|refine k_cu ?_ ?_|refine wb2 ?_ ?_<;>(intro hb;try simp only [hb])|fail)<;>try simp only [go_sem,seval,hfe,hft,hff,hnt,htt,hdl,hb,hb2,A0,A1])
   refine ⟨hfr _ (by omega),?_⟩;repeat' ((with_reducible first|refine wr ?_|refine cpc f1 ?_|refine cpc f2 ?_|refine cpc v1 ?_|refine cpc v2 ?_|refine cpc hp ?_|refine cpc hsm ?_|refine k_cu ?_ ?_|refine wb2 ?_ ?_<;>(intro hb;try simp only [hb])|fail)<;>try simp only [go_sem,seval,hfe,hft,hff,hnt,htt,hdl,hb,hb2,A0,A1])
   exact (next _ _ _ rfl rfl rfl rfl rfl (by omega) (fun j hj=>by rw [A2 (by omega)])).2
  ·have hdl:decide (((Y4 x).length:Int)>20000)=true:=decide_eq_true (by omega);generalize Y4 x=t at *;repeat' ((with_reducible first|refine wr ?_|refine cpc f1 ?_|refine cpc f2 ?_|refine cpc v1 ?_|refine cpc v2 ?_|refine k_cu ?_ ?_|refine wb2 ?_ ?_<;>(intro hb;try simp only [hb])|fail)<;>try simp only [go_sem,seval,hfe,hft,hff,htt,hdl,hb])
   refine ⟨hfr _ (by omega),?_⟩;repeat' ((with_reducible first|refine wr ?_|refine cpc f1 ?_|refine cpc f2 ?_|refine cpc v1 ?_|refine cpc v2 ?_|refine k_cu ?_ ?_|refine wb2 ?_ ?_<;>(intro hb;try simp only [hb])|fail)<;>try simp only [go_sem,seval,hfe,hft,hff,htt,hdl,hb])
   refine ⟨hfr _ (by omega),?_⟩;repeat' ((with_reducible first|refine wr ?_|refine cpc f1 ?_|refine cpc f2 ?_|refine cpc v1 ?_|refine cpc v2 ?_|refine k_cu ?_ ?_|refine wb2 ?_ ?_<;>(intro hb;try simp only [hb])|fail)<;>try simp only [go_sem,seval,hfe,hft,hff,htt,hdl,hb])
   exact (next _ _ _ rfl rfl rfl rfl rfl (by omega) (fun _ _=>rfl)).1
theorem c_SyntaxFormatsExpr (e:Ex) (hB:e.sz<=1048576) (l:List UInt8) (hl:l.length<=9223372036854775807) (u:Nat) (hu:u<256):PC Tryz.prog 7 [e.v,.lst (bytesC l),.int .u8 (u:Int)] (.bool true):=by
 have hs:=c_sane31;have hev:e.v=.agg (exC e):=Ex.v_w e;refine PC.ofT A6 rfl (Nat.le_of_ble_eq_true rfl) (by rw [Ex.v_w];simp [DV.nlL,DV.nl,bytes_nl,Z8]) rfl ?_;have hxs:=c_exSizes (Ex.szs [e]+1) [e] (by omega) (by simp [Ex.szs];omega);have hxe:Ex.xzs 0 [e]=e.xz:=by simp [Ex.xzs]
 rw [hxe] at hxs;rw [hev];repeat' ((with_reducible first|refine wr ?_|refine k_cu ?_ ?_|refine wb2 ?_ ?_<;>(intro hb;try simp only [hb])|fail)<;>try simp only [go_sem,seval,A0,A1])
 refine AC.ghost (GL.frzS (id:=1) (H':=Sym.nil.upd 0 ⟨0,true,exC e⟩) A0 rfl (fun j=>by
  by_cases h:j=1
  ·subst h;exact .inl rfl
  ·exact .inr ⟨h,by rw [A2 h]⟩) (.cons _ _ _ _ (J8 (u:=5) (xs:=[e.v]) rfl (fun x hx=>by cases hx with|head=>rw [Ex.v_w];rfl|tail _ h=>cases h) ⟨[],by rw [Ex.v_w];rfl⟩) .nil)) ?_
 have hcl:DV.lst [e.v]=H9 [e]:=rfl;rw [hcl];refine AC.call (hxs.at _ _) ?_;rintro v' H' c2 ⟨rfl,rfl,rfl⟩ hc2;simp only [go_sem,seval,A0,A1];by_cases hx3:e.xz<=300
 ·have d3:decide ((e.xz:Int)>300)=false:=decide_eq_false (by omega);have hz:e.sz<=300:=by rw [<- Ex.xz_eq e (by omega)];exact hx3
  have h300:(l.take 300).length<=300:=by rw [List.length_take];omega
  repeat' ((with_reducible first|refine wr ?_|refine k_cu ?_ ?_|refine wb2 ?_ ?_<;>(intro hb;try simp only [hb])|fail)<;>try simp only [go_sem,seval,d3,A0,A1])
  refine AC.call (c_New l hl _ _) ?_;rintro v' H' c3 ⟨t,ht1,ht2,rfl,rfl⟩ hc3;simp only [go_sem,seval,A0,A1];have ne0:=U0 0 t (by omega);repeat' ((with_reducible first|refine wr ?_|refine k_cu ?_ ?_|refine wb2 ?_ ?_<;>(intro hb;try simp only [hb])|fail)<;>try simp only [go_sem,seval,ne0,A0,A1])
  refine AC.call ((c_exK (l.take 300) h300 0 (by omega) 2 (by omega)).1 0 (by omega) _ _ t A0 (by omega)) ?_;rintro v' H' c4 ⟨rfl,rfl⟩ hc4;have hpot:=(ik_pot (l.take 300) 0 2).1 0;have hok:=((A1i h300 0 2).1 0 (by omega)).2;have hb2:=lnB_le (d:=2) (by omega);have hln:=((A1i h300 0 2).1 0 (by omega)).1;have hpa:=c_ParseExpr (inK (l.take 300) 0 2 0).1 (by omega);have hza:=parE_sz2 (inK (l.take 300) 0 2 0).1;generalize X8 (inK (l.take 300) 0 2 0).1=q at hpa hza;obtain ⟨ea,pa1,pa2⟩:=q;dsimp only [A6t] at hpa hza;rw [Ex.v_w] at hpa;have hza:ea.sz<=27301:=by omega
  rw [A1];simp only [go_sem,seval,ne0,A0,A1];have ne0:=O0 0 t c4 (by omega);repeat' ((with_reducible first|refine wr ?_|refine cpc hpa ?_|refine k_cu ?_ ?_|refine wb2 ?_ ?_<;>(intro hb;try simp only [hb])|fail)<;>try simp only [go_sem,seval,ne0,A0,A1])
  refine AC.call ((c_exK (l.take 300) h300 0 (by omega) 2 (by omega)).2 _ hok _ _ t ?_ ?_) ?_
  ·rw [A2 (by omega)];exact A0
  ·omega
  rintro v' H' c5 ⟨rfl,rfl⟩ hc5;have hpot2:=(ik_pot (l.take 300) 0 2).2 (inK (l.take 300) 0 2 0).2;have hln2:=((A1i h300 0 2).2 _ hok).1;have hpb:=c_ParseExpr (blK (l.take 300) 0 2 (inK (l.take 300) 0 2 0).2).1 (by omega);have hzb:=parE_sz2 (blK (l.take 300) 0 2 (inK (l.take 300) 0 2 0).2).1;generalize X8 (blK (l.take 300) 0 2 (inK (l.take 300) 0 2 0).2).1=q at hpb hzb;obtain ⟨eb,pb1,pb2⟩:=q;dsimp only [A6t] at hpb hzb;rw [Ex.v_w] at hpb;have hzb:eb.sz<=27301:=by omega
  simp only [go_sem,seval,ne0,A0,A1];have ne0:=A1y 0 t c4 c5 (by omega);repeat' ((with_reducible first|refine wr ?_|refine cpc hpb ?_|refine k_cu ?_ ?_|refine wb2 ?_ ?_<;>(intro hb;try simp only [hb])|fail)<;>try simp only [go_sem,seval,ne0,A0,A1])
  have n04:¬ 0=c4:=by omega
  have n05:¬ 0=c5:=by omega
  have n45:¬ c4=c5:=by omega
  refine D6 (fun k:Nat=>[(2,.int .u8 (u:Int)),(3,.ptr 0 0),(8,.ptr c4 0),(11,.ptr c5 0),(14,I64 k)]) (fun _=>((Sym.nil.upd 0 ⟨0,true,exC e⟩).upd c4 ⟨0,true,exC ea⟩).upd c5 ⟨0,true,exC eb⟩) (fun k c=>c5<c/\k<=4) (fun k=>4-k) 0 (by simp [C5,tm,Tm.upd]) ?_ ⟨by omega,Nat.zero_le _⟩ ?_
  ·refine Sub.put (Sub.put (Sub.put (Sub.nil _) ?_) ?_) ?_
   ·rw [A2 n05,A2 (by omega),A2 n04,A2 (by omega),A0]
   ·rw [A2 n45,A2 (by omega),A0]
   ·rw [A0]
  generalize hH:(((Sym.nil.upd 0 ⟨0,true,exC e⟩).upd c4 ⟨0,true,exC ea⟩).upd c5 ⟨0,true,exC eb⟩)=H0;have g0:H0 0=some ⟨0,true,exC e⟩:=by rw [<- hH,A2 n05,A2 n04,A0]
  have g4:H0 c4=some ⟨0,true,exC ea⟩:=by rw [<- hH,A2 n45,A0]
  have g5:H0 c5=some ⟨0,true,exC eb⟩:=by rw [<- hH,A0]
  have gfr:∀ j,c5<j->H0 j=none:=fun j hj=>by rw [<- hH,A2 (by omega),A2 (by omega),A2 (by omega)];rfl
  clear hH ne0;rintro k c ⟨hc,hk⟩;by_cases hlt:k<4
  ·have hd:decide ((k:Int)<4)=true:=decide_eq_true (by omega);have hw:=w64 (n:=(k:Int)+1) (by omega) (by omega);have hr15:binR .rem (.int .u8 (u:Int)) (.int .u8 15)=some (.int .u8 ((u % 15:Nat):Int)):=by rw [A6o (by decide)];rfl
   have hr13:binR .rem (.int .u8 (u:Int)) (.int .u8 13)=some (.int .u8 ((u % 13:Nat):Int)):=by rw [A6o (by decide)];rfl
   have hr2:binR .rem (.int .u8 (u:Int)) (.int .u8 2)=some (.int .u8 ((u % 2:Nat):Int)):=by rw [A6o (by decide)];rfl
   have l1:u % 15<15:=Nat.mod_lt _ (by decide);have l2:u % 13<13:=Nat.mod_lt _ (by decide);have l3:u % 2<2:=Nat.mod_lt _ (by decide);generalize u % 15=u1 at hr15 l1;generalize u % 13=u2 at hr13 l2;generalize u % 2=u3 at hr2 l3;have w1:IntKind.i64.wrap (u1:Int)=(u1:Int):=w64 (by omega) (by omega);have w2:IntKind.i64.wrap (u2:Int)=(u2:Int):=w64 (by omega) (by omega);have w3:IntKind.i64.wrap (u3:Int)=(u3:Int):=w64 (by omega) (by omega);have w4:=w64 (n:=(u1:Int)+10) (by omega) (by omega);have w5:=w64 (n:=(u2:Int)+12) (by omega) (by omega);have w6:=w64 (n:=(u3:Int)+10) (by omega) (by omega);have q0:∀ (H:Hp) b,(H.upd c b) 0=H 0:=fun H b=>A2 (by omega);have q4:∀ (H:Hp) b,(H.upd c b) c4=H c4:=fun H b=>A2 (by omega);have q5:∀ (H:Hp) b,(H.upd c b) c5=H c5:=fun H b=>A2 (by omega);have r0:∀ (H:Hp) n b,(H.upd (c+n) b) 0=H 0:=fun H n b=>A2 (by omega);have r4:∀ (H:Hp) n b,(H.upd (c+n) b) c4=H c4:=fun H n b=>A2 (by omega);have r5:∀ (H:Hp) n b,(H.upd (c+n) b) c5=H c5:=fun H n b=>A2 (by omega);have s0:∀ (H:Hp) n m b,(H.upd (c+n+m) b) 0=H 0:=fun H n m b=>A2 (by omega);have s4:∀ (H:Hp) n m b,(H.upd (c+n+m) b) c4=H c4:=fun H n m b=>A2 (by omega);have s5:∀ (H:Hp) n m b,(H.upd (c+n+m) b) c5=H c5:=fun H n m b=>A2 (by omega);have hsub:∀ (M H':Hp),(∀ j,j<c->M j=H0 j)->(∀ j,j<c+1+1+1+1+1->H' j=M j)->Sym.Sub H0 H':=fun M H' h1 h2 j b hj=>by
    have hjc:j<c:=Classical.byContradiction fun h=>by rw [gfr j (by omega)] at hj;cases hj
    rw [h2 j (by omega),h1 j hjc];exact hj
   obtain h|h|h|h:k=0\/k=1\/k=2\/k=3:=by omega
   ·subst h;repeat' ((with_reducible first|refine E7 (p:=IW _ _ (pz Tryz.prog 7 (.o (.o (.o (.o (.o .h)))))) _ _) ?_|refine wr ?_|refine k_cu ?_ ?_|refine wb2 ?_ ?_<;>(intro hb;try simp only [hb])|fail)<;>try simp only [go_sem,seval,hd,hr15,hr13,hr2,g0,g4,g5,w1,w2,w3,w4,w5,w6,q0,q4,q5,r0,r4,r5,s0,s4,s5])
    refine IW.stage (L:=[(2,.int .u8 (u:Int)),(3,.ptr 0 0),(8,.ptr c4 0),(11,.ptr c5 0),(14,I64 0),(15,.ptr (c+1+1+1+1) 0)]) (by simp [C5,tm,Tm.upd]) (c_feS _ _ _ _ _ e (by omega) _ _ (by omega) _ A0 (fun j hj=>by rw [A2 (by omega),A2 (by omega),A2 (by omega),A2 (by omega),A2 (by omega),A2 (by omega)];exact gfr _ (by omega)) _ ?_);intro T2 H' c' e2 e3 e8 e11 e14 hc' hH;constructor;all_goals
     simp only [go_sem,seval];repeat' ((with_reducible first|refine wr ?_|refine k_cu ?_ ?_|refine wb2 ?_ ?_<;>(intro hb;try simp only [hb])|fail)<;>try simp only [go_sem,seval,hw,e2,e3,e8,e11,e14])
     have hwk:IntKind.i64.wrap 1=1:=w64 (by decide) (by decide);exact ⟨1,by simp [C5,tm,Tm.upd,hwk],hsub _ _ (fun j hj=>by rw [A2 (by omega),A2 (by omega),A2 (by omega),A2 (by omega),A2 (by omega),A2 (by omega)]) hH,inv ⟨by omega,by omega⟩,by omega⟩
   ·subst h;repeat' ((with_reducible first|refine E7 (p:=IW _ _ (pz Tryz.prog 7 (.o (.o (.o (.o (.o .h)))))) _ _) ?_|refine wr ?_|refine k_cu ?_ ?_|refine wb2 ?_ ?_<;>(intro hb;try simp only [hb])|fail)<;>try simp only [go_sem,seval,hd,hr15,hr13,hr2,g0,g4,g5,w1,w2,w3,w4,w5,w6,q0,q4,q5,r0,r4,r5,s0,s4,s5])
    unfold A0g;refine IW.keep [2,3,8,11,14,15] [.int .u8 (u:Int),.ptr 0 0,.ptr c4 0,.ptr c5 0,I64 1,.ptr (c+1+1+1+1) 0] (g_cell (u:=5) (a:=c) (k:=c+1+1+1+1) (u':=5) (pre:=[I64 ((u1:Int)+10),I64 0,.str []]) (suf:=[I64 0]) (xs:=[ea.v,eb.v]) (junk:=[]) A0 ?_ (by simp [DV.one]) rfl (fun x hx=>by simp at hx;rcases hx with rfl|rfl<;>(rw [Ex.v_w];rfl)) (by omega)) ?_
    ·(repeat rw [A2 (by omega)])
     rw [A0];simp only [A7,Ex.v_w];rfl
    simp only [List.zip_cons_cons,List.zip_nil_left];refine IW.stage (L:=[(2,.int .u8 (u:Int)),(3,.ptr 0 0),(8,.ptr c4 0),(11,.ptr c5 0),(14,I64 1),(15,.ptr (c+1+1+1+1) 0)]) (by simp [C5,tm,Tm.upd]) (c_feS _ _ _ _ _ (.mk ((u1:Int)+10) 0 [] [ea,eb] 0) (by simp [Ex.sz,Ex.szs];omega) _ _ (by omega) _ A0 (fun j hj=>by
     rw [A2 (by omega)];unfold Hp.del;rw [if_neg (by omega),A2 (by omega),A2 (by omega),A2 (by omega),A2 (by omega),A2 (by omega),A2 (by omega)];exact gfr _ (by omega)) _ ?_)
    intro T2 H' c' e2 e3 e8 e11 e14 hc' hH;constructor;all_goals
     simp only [go_sem,seval];repeat' ((with_reducible first|refine wr ?_|refine k_cu ?_ ?_|refine wb2 ?_ ?_<;>(intro hb;try simp only [hb])|fail)<;>try simp only [go_sem,seval,hw,e2,e3,e8,e11,e14])
     have hwk:IntKind.i64.wrap 2=2:=w64 (by decide) (by decide);exact ⟨2,by simp [C5,tm,Tm.upd,hwk],hsub _ _ (fun j hj=>by rw [A2 (by omega)];unfold Hp.del;rw [if_neg (by omega),A2 (by omega),A2 (by omega),A2 (by omega),A2 (by omega),A2 (by omega),A2 (by omega)]) hH,inv ⟨by omega,by omega⟩,by omega⟩
   ·subst h;repeat' ((with_reducible first|refine E7 (p:=IW _ _ (pz Tryz.prog 7 (.o (.o (.o (.o (.o .h)))))) _ _) ?_|refine wr ?_|refine k_cu ?_ ?_|refine wb2 ?_ ?_<;>(intro hb;try simp only [hb])|fail)<;>try simp only [go_sem,seval,hd,hr15,hr13,hr2,g0,g4,g5,w1,w2,w3,w4,w5,w6,q0,q4,q5,r0,r4,r5,s0,s4,s5])
    unfold A0g;refine IW.keep [2,3,8,11,14,15] [.int .u8 (u:Int),.ptr 0 0,.ptr c4 0,.ptr c5 0,I64 2,.ptr (c+1+1+1+1) 0] (g_cell (u:=5) (a:=(c+1)) (k:=c+1+1+1+1) (u':=5) (pre:=[I64 ((u2:Int)+12),I64 0,.str []]) (suf:=[I64 0]) (xs:=[eb.v,ea.v]) (junk:=[]) A0 ?_ (by simp [DV.one]) rfl (fun x hx=>by simp at hx;rcases hx with rfl|rfl<;>(rw [Ex.v_w];rfl)) (by omega)) ?_
    ·(repeat rw [A2 (by omega)])
     rw [A0];simp only [A7,Ex.v_w];rfl
    simp only [List.zip_cons_cons,List.zip_nil_left];refine IW.stage (L:=[(2,.int .u8 (u:Int)),(3,.ptr 0 0),(8,.ptr c4 0),(11,.ptr c5 0),(14,I64 2),(15,.ptr (c+1+1+1+1) 0)]) (by simp [C5,tm,Tm.upd]) (c_feS _ _ _ _ _ (.mk ((u2:Int)+12) 0 [] [eb,ea] 0) (by simp [Ex.sz,Ex.szs];omega) _ _ (by omega) _ A0 (fun j hj=>by
     rw [A2 (by omega)];unfold Hp.del;rw [if_neg (by omega),A2 (by omega),A2 (by omega),A2 (by omega),A2 (by omega),A2 (by omega),A2 (by omega)];exact gfr _ (by omega)) _ ?_)
    intro T2 H' c' e2 e3 e8 e11 e14 hc' hH;constructor;all_goals
     simp only [go_sem,seval];repeat' ((with_reducible first|refine wr ?_|refine k_cu ?_ ?_|refine wb2 ?_ ?_<;>(intro hb;try simp only [hb])|fail)<;>try simp only [go_sem,seval,hw,e2,e3,e8,e11,e14])
     have hwk:IntKind.i64.wrap 3=3:=w64 (by decide) (by decide);exact ⟨3,by simp [C5,tm,Tm.upd,hwk],hsub _ _ (fun j hj=>by rw [A2 (by omega)];unfold Hp.del;rw [if_neg (by omega),A2 (by omega),A2 (by omega),A2 (by omega),A2 (by omega),A2 (by omega),A2 (by omega)]) hH,inv ⟨by omega,by omega⟩,by omega⟩
   ·subst h;repeat' ((with_reducible first|refine E7 (p:=IW _ _ (pz Tryz.prog 7 (.o (.o (.o (.o (.o .h)))))) _ _) ?_|refine wr ?_|refine k_cu ?_ ?_|refine wb2 ?_ ?_<;>(intro hb;try simp only [hb])|fail)<;>try simp only [go_sem,seval,hd,hr15,hr13,hr2,g0,g4,g5,w1,w2,w3,w4,w5,w6,q0,q4,q5,r0,r4,r5,s0,s4,s5])
    unfold A0g;refine IW.keep [2,3,8,11,14,15] [.int .u8 (u:Int),.ptr 0 0,.ptr c4 0,.ptr c5 0,I64 3,.ptr (c+1+1+1+1) 0] (g_cell (u:=5) (a:=(c+1+1)) (k:=c+1+1+1+1) (u':=5) (pre:=[I64 ((u3:Int)+10),I64 0,.str []]) (suf:=[I64 0]) (xs:=[eb.v]) (junk:=[]) A0 ?_ (by simp [DV.one]) rfl (fun x hx=>by simp at hx;rcases hx with rfl<;>(rw [Ex.v_w];rfl)) (by omega)) ?_
    ·(repeat rw [A2 (by omega)])
     rw [A0];simp only [A7,Ex.v_w];rfl
    simp only [List.zip_cons_cons,List.zip_nil_left];refine IW.stage (L:=[(2,.int .u8 (u:Int)),(3,.ptr 0 0),(8,.ptr c4 0),(11,.ptr c5 0),(14,I64 3),(15,.ptr (c+1+1+1+1) 0)]) (by simp [C5,tm,Tm.upd]) (c_feS _ _ _ _ _ (.mk ((u3:Int)+10) 0 [] [eb] 0) (by simp [Ex.sz,Ex.szs];omega) _ _ (by omega) _ A0 (fun j hj=>by
     rw [A2 (by omega)];unfold Hp.del;rw [if_neg (by omega),A2 (by omega),A2 (by omega),A2 (by omega),A2 (by omega),A2 (by omega),A2 (by omega)];exact gfr _ (by omega)) _ ?_)
    intro T2 H' c' e2 e3 e8 e11 e14 hc' hH;constructor;all_goals
     simp only [go_sem,seval];repeat' ((with_reducible first|refine wr ?_|refine k_cu ?_ ?_|refine wb2 ?_ ?_<;>(intro hb;try simp only [hb])|fail)<;>try simp only [go_sem,seval,hw,e2,e3,e8,e11,e14])
     have hwk:IntKind.i64.wrap 4=4:=w64 (by decide) (by decide);exact ⟨4,by simp [C5,tm,Tm.upd,hwk],hsub _ _ (fun j hj=>by rw [A2 (by omega)];unfold Hp.del;rw [if_neg (by omega),A2 (by omega),A2 (by omega),A2 (by omega),A2 (by omega),A2 (by omega),A2 (by omega)]) hH,inv ⟨by omega,by omega⟩,by omega⟩
  ·have hd:decide ((k:Int)<4)=false:=decide_eq_false (by omega);repeat' ((with_reducible first|refine wr ?_|refine cpc hs ?_|refine k_cu ?_ ?_|refine wb2 ?_ ?_<;>(intro hb;try simp only [hb])|fail)<;>try simp only [go_sem,seval,hd])
   all_goals exact A4 rfl
 ·have d3:decide ((e.xz:Int)>300)=true:=decide_eq_true (by omega);repeat' ((with_reducible first|refine wr ?_|refine cpc hs ?_|refine k_cu ?_ ?_|refine wb2 ?_ ?_<;>(intro hb;try simp only [hb])|fail)<;>try simp only [go_sem,seval,d3])
  all_goals exact A4 rfl
end Go.Proofs.YthlpinppaclofaaGreatDoor
end

/-
  HELPERS of the claim: part 11 of its texts.
-/
import Derived.Test.YthlpinppaclofaaGreatDoorSyfj
noncomputable section
set_option linter.unusedVariables false
set_option linter.unusedSectionVars false
namespace Go.Pb
variable [Go.Sym.Tab]
open Go.Sym
def R8:List (List UInt8)->List Int->Int->List UInt8
 | w :: ks,v :: vs,x=>if v=x then w else R8 ks vs x
 | _,_,_=>[]
theorem A7l:∀ {ks:List (List UInt8)} {vs:List Int} {x:Int} {i:Nat} {w:List UInt8},vs.Nodup->ks[i]? = some w->vs[i]? = some x->R8 ks vs x=w
 | a :: ks,b :: vs,x,0,w,hn,h1,h2=>by simp at h1 h2;simp [R8,h1,h2]
 | a :: ks,b :: vs,x,i+1,w,hn,h1,h2=>by
  simp only [A2H] at h1 h2;have hne:b≠x:=fun e=>(List.nodup_cons.1 hn).1 (e▸A0W h2);rw [R8,if_neg hne];exact A7l (List.nodup_cons.1 hn).2 h1 h2
 | [],_,_,_,_,_,h1,_=>by simp at h1
 | _ :: _,[],_,_,_,_,_,h2=>by simp at h2
theorem B1x:∀ {ks:List (List UInt8)} {vs:List Int} {x:Int},(∀ (i:Nat) (v:Int),i<ks.length->vs[i]? = some v->v≠x)->R8 ks vs x=[]
 | [],_,_,_=>by unfold R8;rfl
 | _ :: _,[],_,_=>rfl
 | a :: ks,b :: vs,x,h=>by
  rw [R8,if_neg (h 0 b (by simp) rfl)];exact B1x fun i v hi hv=>h (i+1) v (by simpa using hi) (by simpa using hv)
def A8d (x:Int):List UInt8:=if x=10 then [45] else if x=11 then [33] else R8 C3 A9j x
def wrL (k q:Int) (i:Nat) (l:List (List UInt8)):List (List UInt8):=if R4 k q i=true then [40] :: (l++[[41]]) else l
def txT (l:List Tok):List (List UInt8):=l.map J7
theorem L7 (s:List UInt8):J7 (A6 s)=s:=by
 unfold J7 A6;dsimp only;repeat' split
 all_goals first|rfl|omega|simp_all
theorem G2 (a b:List Tok):txT (a++b)=txT a++txT b:=A0M
theorem B0z {k q m:Int} {i:Nat} {l:List Tok} (h:R4 k q i=decide (B8 q<m)):txT (E5 (q,l) m)=wrL k q i (txT l):=by
 unfold E5 wrL;rw [h];dsimp only;by_cases hc:B8 q<m
 ·rw [if_pos hc,if_pos (by simpa using hc),G2,G2];simp [txT,L7]
 ·rw [if_neg hc,if_neg (by simpa using hc)]
theorem A8t (k v:Int) (n:List UInt8) (a:List Ex) (p:Int):exT (.mk k v n a p)=G1 k v n (a.map fun e=>(e.kind,exT e)):=by rw [<- A2u];exact exT.eq_1 ..
theorem D2q {k v:Int} {n:List UInt8} {x:Ex} {p:Int} (hk:k=10\/k=11):txT (exT (.mk k v n [x] p))=A8d k :: wrL k x.kind 0 (txT (exT x)):=by
 have hw:R4 k x.kind 0=decide (B8 x.kind<6):=by
  unfold R4;rw [A0h hk];simp
 rw [A8t, <- B0z hw];rcases hk with rfl|rfl<;>simp [G1,txT,L7,A8d,A0h]
theorem D6t (k q:Int):R4 k q 0=decide (B8 q<if B8 k=3 then 4 else B8 k):=by
 rw [A2L];simp only [R4,A0X,A0D,A0H,A1F,Nat.zero_ne_one,false_or];split<;>omega
theorem D6s (k q:Int):R4 k q 1=decide (B8 q<B8 k+1):=by
 rw [A2L];simp only [R4,A0X,A0D,A0H,A1F,true_or,and_true];omega
theorem C8n {k v:Int} {n:List UInt8} {x y:Ex} {p:Int} (hk:B8 k<6):txT (exT (.mk k v n [x,y] p))=wrL k x.kind 0 (txT (exT x))++A8d k :: wrL k y.kind 1 (txT (exT y)):=by
 rw [A8t, <- B0z (D6t k x.kind), <- B0z (D6s k y.kind)];obtain ⟨k1,k2⟩:=B1w (k:=k) (by omega);have k3:12<=k:=by
  apply Classical.byContradiction;intro hc;have:k=10\/k=11:=by omega
  rw [A0h this] at hk;omega
 have hs:C3.getD (k-12).toNat []=A8d k:=by
  obtain ⟨j,rfl⟩:∃ j:Nat,k=12+(j:Int):=⟨(k-12).toNat,by omega⟩;have hj:j<13:=by omega
  have:∀ j:Nat,j<13->C3.getD (12+(j:Int)-12).toNat []=A8d (12+(j:Int)):=by decide
  exact this j hj
 simp only [A0O,List.map_nil];unfold G1;dsimp only;rw [if_neg (by omega),if_neg (by omega),if_neg (by omega),if_neg (by omega),if_neg (by omega),if_neg (by omega),if_neg (by omega),if_neg (by omega),if_neg (by omega),if_pos hk,G2,G2,hs];simp [txT,L7]
theorem C3r {k v:Int} {n:List UInt8} {p:Int} (hk:B8 k=7) (h0:kOk k=true) (h1:A0b k n=true) (h2:A0o k v=true) :
  txT (exT (.mk k v n [] p))=if k=1 then [M0 v] else if k=2 then [n] else R8 G0 I7 k :: (if A1b k=true then [n] else []):=by
 have hr:1<=k/\k<=9:=by
  unfold kOk at h0;simp only [hk,Int.lt_irrefl,decide_false,A4B,A0D,A0H] at h0;refine ⟨h0.1,Classical.byContradiction fun hc=>?_⟩;have:B8 k<7:=by unfold B8;repeat' split;all_goals omega
  omega
 rw [A8t];have hk9:k=1\/k=2\/k=3\/k=4\/k=5\/k=6\/k=7\/k=8\/k=9:=by omega
 rcases hk9 with rfl|rfl|rfl|rfl|rfl|rfl|rfl|rfl|rfl
 ·have hv:¬ (v<0\/2147483647<v):=by
   unfold A0o at h2;simp at h2;omega
  simp [G1,P8,hv,txT,J7]
 ·have hn:C8 n=true:=by simpa [A0b] using h1
  simp [G1,D4,hn,txT,J7]
 ·simp [G1,txT,L7,R8,G0,I7,A1b]
 ·simp [G1,txT,L7,R8,G0,I7,A1b]
 ·have hn:C8 n=true:=by simpa [A0b,A1b] using h1
  simp [G1,txT,L7,R8,G0,I7,A1b,D4,hn];rfl
 ·have hn:C8 n=true:=by simpa [A0b,A1b] using h1
  simp [G1,txT,L7,R8,G0,I7,A1b,D4,hn];rfl
 ·have hn:C8 n=true:=by simpa [A0b,A1b] using h1
  simp [G1,txT,L7,R8,G0,I7,A1b,D4,hn];rfl
 ·simp [G1,txT,L7,R8,G0,I7,A1b]
 ·simp [G1,txT,L7,R8,G0,I7,A1b]
theorem B3n {k:Int}:∀ {a:List Ex} {j o d:Nat},msL k j a=some (o,d)->∀ x∈a, ∃ o d,msM x=some (o,d)
 | [],_,_,_,_,x,hx=>by cases hx
 | e :: l,j,o,d,h,x,hx=>by
  unfold msL at h;split at h
  ·cases h
  ·rename_i o1 d1 h1;split at h
   ·cases h
   ·rename_i o2 d2 h2;rcases A1S.1 hx with rfl|hx
    ·exact ⟨_,_,h1⟩
    ·exact B3n h2 x hx
theorem P1 {s:List UInt8} (h:s.length<=100000):Fit (A6 s):=⟨h,by show -9223372036854775808<=(0:Int);decide,by show (0:Int)<=9223372036854775807;decide⟩
theorem A6q:Fit M6:=⟨A0Y _,by show -9223372036854775808<=(0:Int);decide,by show (0:Int)<=9223372036854775807;decide⟩
theorem A1f (n:List UInt8):∀ t∈D4 n,Fit t:=by
 intro t ht;unfold D4 at ht;split at ht
 ·obtain rfl:=A0N.1 ht;exact A6q
 ·rename_i hn;obtain rfl:=A0N.1 ht;refine ⟨?_,by show -9223372036854775808<=(0:Int);decide,by show (0:Int)<=9223372036854775807;decide⟩;have h1:C8 n=true:=by cases h:C8 n with|true=>rfl|false=>exact absurd h hn
  unfold C8 at h1;simp only [A0D,A0H] at h1;show n.length<=100000;omega
theorem B8a (v:Int):∀ t∈P8 v,Fit t:=by
 intro t ht;unfold P8 at ht;split at ht
 ·obtain rfl:=A0N.1 ht;exact A6q
 ·obtain rfl:=A0N.1 ht;exact ⟨A0Y _,by dsimp only;omega,by dsimp only;omega⟩
theorem A8r {q:Int × List Tok} {m:Int} (h:∀ t∈q.2,Fit t):∀ t∈E5 q m,Fit t:=by
 intro t ht;unfold E5 at ht;split at ht
 ·simp only [A1T,A0N] at ht;rcases ht with (rfl|ht)|rfl
  ·exact P1 (by decide)
  ·exact h t ht
  ·exact P1 (by decide)
 ·exact h t ht
theorem A3k {a b:List Tok} (h1:∀ t∈a,Fit t) (h2:∀ t∈b,Fit t):∀ t∈a++b,Fit t:=fun t ht=>by
 rcases A1T.1 ht with h|h
 ·exact h1 t h
 ·exact h2 t h
theorem Q7 {x:Tok} (h:Fit x):∀ t∈[x],Fit t:=fun t ht=>by obtain rfl:=A0N.1 ht;exact h
theorem B9e {k v:Int} {n:List UInt8} {as1:List (Int × List Tok)} (h:∀ q∈as1, ∀ t∈q.2,Fit t):∀ t∈G1 k v n as1,Fit t:=by
 have hsg:∀ i:Nat,(C3.getD i []).length<=100000:=fun i=>by
  by_cases hi:i<13
  ·have:∀ i:Nat,i<13->(C3.getD i []).length<=100000:=by decide
   exact this i hi
  ·rw [A0T,A1R (by show 13<=i;omega)];simp
 have fin:∀ t∈(match as1 with
  | [q]=>if B8 k=6 then [A6 (if k=10 then [45] else [33])]++E5 q 6 else [M6]
  | [q,r]=>if B8 k<6 then E5 q (if B8 k=3 then 4 else B8 k)++[A6 (C3.getD (k-12).toNat [])]++E5 r (B8 k+1) else [M6]
  | _=>[M6]),Fit t:=by
  match as1 with
  | [q] =>
   dsimp only;split
   ·refine A3k (Q7 (P1 (by split<;>decide))) (A8r (h q (by simp)))
   ·exact Q7 A6q
  | [q,r] =>
   dsimp only;split
   ·exact A3k (A3k (A8r (h q (by simp))) (Q7 (P1 (hsg _)))) (A8r (h r (by simp)))
   ·exact Q7 A6q
  | []=>exact Q7 A6q
  | _ :: _ :: _ :: _=>exact Q7 A6q
 unfold G1;dsimp only;by_cases k1:k=1
 ·rw [if_pos k1];exact B8a v
 rw [if_neg k1];by_cases k2:k=2
 ·rw [if_pos k2];exact A1f n
 rw [if_neg k2];by_cases k3:k=3
 ·rw [if_pos k3];exact Q7 (P1 (by decide))
 rw [if_neg k3];by_cases k4:k=4
 ·rw [if_pos k4];exact Q7 (P1 (by decide))
 rw [if_neg k4];by_cases k8:k=8
 ·rw [if_pos k8];exact Q7 (P1 (by decide))
 rw [if_neg k8];by_cases k9:k=9
 ·rw [if_pos k9];exact Q7 (P1 (by decide))
 rw [if_neg k9];by_cases k5:k=5
 ·rw [if_pos k5];exact A3k (Q7 (P1 (by decide))) (A1f n)
 rw [if_neg k5];by_cases k6:k=6
 ·rw [if_pos k6];exact A3k (Q7 (P1 (by decide))) (A1f n)
 rw [if_neg k6];by_cases k7:k=7
 ·rw [if_pos k7];exact A3k (Q7 (P1 (by decide))) (A1f n)
 rw [if_neg k7];exact fin
theorem C6j:∀ (e:Ex), ∀ t∈exT e,Fit t:=by
 have:∀ (m:Nat) (e:Ex),e.sz<m->∀ t∈exT e,Fit t:=by
  intro m
  induction m with
  | zero=>intro e h;omega
  | succ m ih =>
   rintro ⟨k,v,n,a,p⟩ hm;rw [A8t];refine B9e fun q hq=>?_;obtain ⟨x,hx,rfl⟩:=A1M.1 hq;exact ih x (by have:=Ex.sz_arg (e:=.mk k v n a p) hx;omega)
 exact fun e=>this _ e (A2R _)
end Go.Pb
set_option maxHeartbeats 4000000
set_option maxRecDepth 100000
set_option linter.unusedSimpArgs false
namespace Go.Proofs.YthlpinppaclofaaGreatDoor
open Go.Eng (IC IOper DReg IFn C2)
open Go.Sym Go.Pb
theorem c_wordOf (x:Int):PC Tryz.prog 154 [I64 x] (.str (R8 B7 Z9 x)):=by
 refine PC.ofT B1 rfl (A0B rfl) rfl rfl ?_;repeat' ((with_reducible first|refine F9 (p:=IW _ _ (pz Tryz.prog 154 (.o (.o .h))) _ _) ?_|refine wr ?_|refine A2 ?_ ?_|fail)<;>try simp only [go_sem,seval])
 unfold X3;refine B2a c_stms (σ := Unit) (fun _=>[(0,I64 x)]) (fun _=>nil) (fun D _ _ => ∀ i∈D, ∀ v,Z9[i]? = some v->v≠x) () (by decide) (fun _=>rfl) ⟨rfl,trivial⟩ (Sub.refl _) (fun i hi=>by cases hi) ?_ ?_
 ·intro D _ c hJ hall;repeat' ((with_reducible first|refine wr ?_|refine A2 ?_ ?_|fail)<;>try simp only [go_sem,seval])
  rw [B1x fun i v hi hv=>hJ i (hall i (by simpa using hi)) v hv];exact B3 rfl
 ·rintro it D _ c i kk vv hJ hDn hDb hiD hk hv;rw [A1A,A0R] at hk hv;obtain ⟨w,hw,rfl⟩:=hk;obtain ⟨u,hu,rfl⟩:=hv;by_cases hx:u=x
  ·subst hx;repeat' ((with_reducible first|refine wr ?_|refine A2 ?_ ?_|fail)<;>try simp only [go_sem,seval])
   rw [A7l (by decide) hw hu];exact B3 rfl
  ·have hx':(u == x)=false:=by simpa using hx
   repeat' ((with_reducible first|refine wr ?_|refine A2 ?_ ?_|fail)<;>try simp only [go_sem,seval,hx'])
   refine ⟨(),Sub.refl _,inv (I:=fun _ _=>_) (b:=()) (c:=c) fun j hj v hv'=>?_⟩;rcases A1S.1 hj with rfl|hj
   ·rw [hu] at hv';cases hv';exact hx
   ·exact hJ j hj v hv'
theorem c_signOf (x:Int):PC Tryz.prog 113 [I64 x] (.str (A8d x)):=by
 refine PC.ofT B1 rfl (A0B rfl) rfl rfl ?_;by_cases h10:x=10
 ·subst h10;repeat' ((with_reducible first|refine wr ?_|refine A2 ?_ ?_|fail)<;>try simp only [go_sem,seval])
  exact B3 rfl
 by_cases h11:x=11
 ·subst h11;repeat' ((with_reducible first|refine wr ?_|refine A2 ?_ ?_|fail)<;>try simp only [go_sem,seval])
  exact B3 rfl
 have e10:(x == 10)=false:=by simpa using h10
 have e11:(x == 11)=false:=by simpa using h11
 rw [A8d,if_neg h10,if_neg h11];repeat' ((with_reducible first|refine F9 (p:=IW _ _ (pz Tryz.prog 113 (.i (.o (.i (.o .h))))) _ _) ?_|refine wr ?_|refine A2 ?_ ?_|fail)<;>try simp only [go_sem,seval,e10,e11])
 unfold X3;refine B2a c_ops (σ := Unit) (fun _=>[(0,I64 x)]) (fun _=>nil) (fun D _ _ => ∀ i∈D, ∀ v,A9j[i]? = some v->v≠x) () (by decide) (fun _=>rfl) ⟨rfl,trivial⟩ (Sub.refl _) (fun i hi=>by cases hi) ?_ ?_
 ·intro D _ c hJ hall;repeat' ((with_reducible first|refine wr ?_|refine A2 ?_ ?_|fail)<;>try simp only [go_sem,seval])
  rw [B1x fun i v hi hv=>hJ i (hall i (by simpa using hi)) v hv];exact B3 rfl
 ·rintro it D _ c i kk vv hJ hDn hDb hiD hk hv;rw [A1A,A0R] at hk hv;obtain ⟨w,hw,rfl⟩:=hk;obtain ⟨u,hu,rfl⟩:=hv;by_cases hx:u=x
  ·subst hx;repeat' ((with_reducible first|refine wr ?_|refine A2 ?_ ?_|fail)<;>try simp only [go_sem,seval])
   rw [A7l (by decide) hw hu];exact B3 rfl
  ·have hx':(u == x)=false:=by simpa using hx
   repeat' ((with_reducible first|refine wr ?_|refine A2 ?_ ?_|fail)<;>try simp only [go_sem,seval,hx'])
   refine ⟨(),Sub.refl _,inv (I:=fun _ _=>_) (b:=()) (c:=c) fun j hj v hv'=>?_⟩;rcases A1S.1 hj with rfl|hj
   ·rw [hu] at hv';cases hv';exact hx
   ·exact hJ j hj v hv'
theorem D2s {ρ ρ':Ren} {id id' o n:Nat} {v:Value} (h1 : ρ.nm id = ρ'.nm id') (h:VRel ρ (.slc id o n) v):VRel ρ' (.slc id' o n) v:=by
 cases h with|slc _ _ _ c t h hc hm hr hp=>exact .slc id' o n c t (h1▸h) hc hm hr hp
def OwL (f:Nat) (args:List DV) (l:List (List UInt8)):Prop:=∀ (H:Hp) (c:Nat),AC Tryz.prog f args H c (fun v H' c'=>v=.slc c 0 l.length/\H'=H.upd c ⟨1,true,l.map DV.str⟩/\c'=c+1)
theorem OwL.of {f:Nat} {args:List DV} {l:List (List UInt8)} (na:DV.nlL args=true) (h:AC Tryz.prog f args nil 0 (fun v H' _ => ∃ id,v=.slc id 0 l.length/\H'=nil.upd id ⟨1,true,l.map DV.str⟩)):OwL f args l:=fun H c =>
 AC.own (V:=fun id=>.slc id 0 l.length) h na (fun d hd=>by obtain ⟨x, -,rfl⟩:=A1M.1 hd;rfl) (fun ρ ρ' id id' v h1 _ h3=>D2s h1 h3) H c
theorem V6 {H H':Hp} {id n:Nat} {b:Blk} (hb:H id=some b) (h:∀ j,j≠id->H' j=none\/H' j=H j) (hi:H' id=some b):GL H [.slc id 0 n] H' [.slc id 0 n] :=
 GL.less fun j=>by
  by_cases e:j=id
  ·subst e;right;rw [hi,hb]
  ·exact h j e
theorem c_pr1 (k v:Int) (n:List UInt8) (a:List Ex) (p:Int) (x:Ex) (i:Nat) (hx:a[i]? = some x) (hi:i<=1) (l:List (List UInt8)) (hP:OwL 65 [x.v] l) (hl:l.length<=100000000) (h1:1<=l.length)
  (H:Hp) (c t:Nat) (ht:H t=some ⟨0,true,[I64 k,I64 v,.str n,H3 a,I64 p]⟩) (htc:t<c) :
  AC Tryz.prog 110 [I64 i,.ptr t 0] H c (fun r H' c' => ∃ id,c<=id/\id<c'/\r=.slc id 0 (wrL k x.kind i l).length/\H'=H.upd id ⟨1,true,(wrL k x.kind i l).map DV.str⟩):=by
 have hw:PC Tryz.prog 111 [.agg [I64 k,I64 v,.str n,H3 a,I64 p],I64 i] (.bool (R4 k x.kind i)):=by
  have:=c_wrapped (.mk k v n a p) x i hx hi;rw [Ex.v_w] at this;exact this
 have hxm:(a.map Ex.v)[i]? = some x.v:=by rw [A1A,hx];rfl
 rw [Ex.v_w] at hP hxm;refine AC.bodyT B1 rfl (A0B rfl) fun hfr=>?_;repeat' ((with_reducible first|refine wr ?_|refine A2 ?_ ?_|fail)<;>try simp only [go_sem,seval,ht,hxm,Ex.v_w])
 refine AC.call (hP H c) ?_;rintro _ _ _ ⟨rfl,rfl,rfl⟩ -;have ht':(H.upd c ⟨1,true,l.map DV.str⟩) t=some ⟨0,true,[I64 k,I64 v,.str n,H3 a,I64 p]⟩:=by rw [A3 (by omega)];exact ht
 have ne0:=P0 c (c+1) (c+2) (c+3) (c+4) (by omega);obtain ⟨R,hR⟩:∃ R,R=wrL k x.kind i l:=⟨_,rfl⟩;rw [<- hR];unfold wrL at hR;cases hb:R4 k x.kind i with
 | false =>
  rw [hb] at hw hR;rw [if_neg A1Y] at hR;simp only [go_sem,seval,ht',ne0];repeat' ((with_reducible first|refine wr ?_|refine cpc hw ?_|refine A2 ?_ ?_|fail)<;>try simp only [go_sem,seval,ht',ne0])
  subst hR;exact ⟨_,_,GL.refl _ _,c,A0E _,A2R _,rfl,rfl⟩
 | true =>
  rw [hb] at hw hR;rw [if_pos rfl] at hR;simp only [go_sem,seval,ht',ne0];have tk:List.take l.length (l.map DV.str)=l.map DV.str:=A0I (by simp);repeat' ((with_reducible first|refine wr ?_|refine cpc hw ?_|refine A2 ?_ ?_|fail)<;>try simp only [go_sem,seval,ht',ne0,tk])
  refine C4 (E1 (by simp) (by omega) (by omega)) ?_;simp only [go_sem,seval,ne0,A0];repeat' ((with_reducible first|refine wr ?_|refine A2 ?_ ?_|fail)<;>try simp only [go_sem,seval,ne0,tk,A0])
  refine C4 (E1 (by simp;omega) (by omega) (by omega)) ?_;simp only [go_sem,seval,ne0,A0];repeat' ((with_reducible first|refine wr ?_|refine A2 ?_ ?_|fail)<;>try simp only [go_sem,seval,ne0,tk,A0])
  have hlen:R.length=1+l.length+1:=by rw [hR];simp;omega
  rw [<- hlen];refine ⟨_,H.upd (c+1+1+1+1) ⟨1,true,R.map DV.str⟩,V6 (A0) (fun j hj=>?_) (by rw [A0,hR];simp),c+1+1+1+1,by omega,by omega,rfl,rfl⟩;rw [A3 hj];by_cases hjc:c<=j
  ·exact .inl (hfr j hjc)
  ·right;simp only [Hp.upd,Hp.del];rw [if_neg hj,if_neg (by omega),if_neg (by omega),if_neg (by omega),if_neg (by omega),if_neg (by omega),if_neg (by omega)]
theorem B9p (e:Ex):1<=(txT (exT e)).length/\(txT (exT e)).length<=5 * e.sz:=by
 have:=A1w e;unfold txT;rw [A0G];omega
theorem B4m (k q:Int) (i:Nat) {l:List (List UInt8)} (h:l.length<=100000000):(wrL k q i l).length<=100000002:=by
 unfold wrL;split
 ·simp;omega
 ·omega
theorem c_printed:∀ (m:Nat) (e:Ex),e.sz<m->e.sz<=10000000->(∃ o d,msM e=some (o,d))->OwL 65 [e.v] (txT (exT e)):=by
 intro m
 induction m with
 | zero=>intro e h;omega
 | succ m ih =>
 rintro ⟨k,v,n,a,p⟩ hm hB ⟨o,d,hms⟩;obtain ⟨i1,i2,i3,i4, -,i6⟩:=B5t hms;have hargs:∀ (i:Nat) (x:Ex),a[i]? = some x->OwL 65 [x.v] (txT (exT x)):=fun i x hx=>by
  have hmem:=A0W hx;have hsz:=Ex.sz_arg (e:=.mk k v n a p) hmem;refine ih x (by omega) (by omega) ?_;have hlt:=(A0L.1 hx).1;obtain ⟨d',h1, -⟩:=i6 (by omega);exact B3n h1 x hmem
 have hlv:=c_levS k;have hsg:=c_signOf k;have hlen:∀ (i:Nat) (x:Ex),a[i]? = some x->1<=(txT (exT x)).length/\(txT (exT x)).length<=100000000:=fun i x hx=>by
  have h1:=B9p x;have h2:=Ex.sz_arg (e:=.mk k v n a p) (A0W hx);omega
 refine OwL.of (by simp [DV.nlL,DV.nl,Ex.nl]) ?_;refine AC.bodyT B1 rfl (A0B rfl) fun hfr=>?_;rw [Ex.v_w];dsimp only [Ex.w,Ex.kind,Ex.value,Ex.name,Ex.args,Ex.pos];obtain ⟨R,hR⟩:∃ R,R=txT (exT (.mk k v n a p)):=⟨_,rfl⟩;rw [<- hR];by_cases l6:B8 k=6
 ·have hk:k=10\/k=11:=by
   unfold B8 at l6;repeat' split at l6
   all_goals omega
  have hc:J9 k=1:=by unfold J9;rw [if_pos l6]
  have m6:(B8 k == 6)=true:=by simpa using l6
  obtain ⟨x,rfl⟩:∃ x,a=[x]:=A2K.1 (i2.trans hc);rw [D2q hk] at hR;repeat' ((with_reducible first|refine wr ?_|refine cpc hlv ?_|refine cpc hsg ?_|refine A2 ?_ ?_|fail)<;>try simp only [go_sem,seval,m6])
  refine AC.call (c_pr1 k v n [x] p x 0 rfl (by decide) _ (hargs 0 x rfl) (hlen 0 x rfl).2 (hlen 0 x rfl).1 _ _ 0 (by simp only [go_sem,seval]) (by decide)) ?_;rintro _ _ c2 ⟨id,hid,hid2,rfl,rfl⟩ -;have hW:=B4m k x.kind 0 (hlen 0 x rfl).2;generalize wrL k x.kind 0 (txT (exT x))=W at hR hW ⊢;have tk:List.take W.length (W.map DV.str)=W.map DV.str:=A0I (by simp);have ne0:=V4 0 1 id c2 (by omega);simp only [go_sem,seval,ne0,A0,tk];repeat' ((with_reducible first|refine wr ?_|refine A2 ?_ ?_|fail)<;>try simp only [go_sem,seval,ne0,A0,tk])
  refine C4 (E1 (by simp) (by omega) (by omega)) ?_;simp only [go_sem,seval,ne0,A0];repeat' ((with_reducible first|refine wr ?_|refine A2 ?_ ?_|fail)<;>try simp only [go_sem,seval,ne0,A0])
  have hl:R.length=1+W.length:=by rw [hR];simp;omega
  rw [<- hl];exact ⟨_,nil.upd c2 ⟨1,true,R.map DV.str⟩,V6 A0 (fun j hj=>.inl (by rw [A3 hj];rfl)) (by rw [A0,hR];simp),c2,rfl,rfl⟩
 have m6:(B8 k == 6)=false:=by simpa using l6
 by_cases l5:B8 k<6
 ·have m5:decide (B8 k<6)=true:=by simpa using l5
  have hc:J9 k=2:=by unfold J9;rw [if_neg l6,if_pos l5]
  obtain ⟨x,y,rfl⟩:∃ x y,a=[x,y]:=by
   have:=i2.trans hc
   match a with
   | [x,y]=>exact ⟨x,y,rfl⟩
  rw [C8n l5] at hR;repeat' ((with_reducible first|refine wr ?_|refine cpc hlv ?_|refine cpc hsg ?_|refine A2 ?_ ?_|fail)<;>try simp only [go_sem,seval,m6,m5])
  refine AC.call (c_pr1 k v n [x,y] p x 0 rfl (by decide) _ (hargs 0 x rfl) (hlen 0 x rfl).2 (hlen 0 x rfl).1 _ _ 0 (by simp only [go_sem,seval]) (by decide)) ?_;rintro _ _ c2 ⟨id,hid,hid2,rfl,rfl⟩ -;have hW:=B4m k x.kind 0 (hlen 0 x rfl).2;generalize wrL k x.kind 0 (txT (exT x))=W at hR hW ⊢;have hW2:=B4m k y.kind 1 (hlen 1 y rfl).2;have tk:List.take W.length (W.map DV.str)=W.map DV.str:=A0I (by simp);have ne0:=O0 0 id c2 (by omega);simp only [go_sem,seval,ne0,A0,tk];refine ⟨by and_intros<;>(repeat rw [A3 (by omega)])<;>rfl,?_⟩;refine cpc hsg ?_;simp only [go_sem,seval,ne0,A0,tk,m6,m5];refine ⟨by rw [A3 (by omega)];rfl,?_⟩;rw [A3 (show ¬ id=6 by omega),A0];refine M9 (E1 (by simp) (by omega) (by omega)) ?_;simp only [go_sem,seval,ne0,A0,tk,m6,m5];obtain ⟨M,hM⟩:∃ M,M=((((nil.upd 0 ⟨0,true,[I64 k,I64 v,.str n,H3 [x,y],I64 p]⟩).upd id ⟨1,true,W.map DV.str⟩).upd 6 ⟨1,true,[DV.str (A8d k)]⟩).del id).upd c2 ⟨1,true,W.map DV.str++[DV.str (A8d k)]⟩:=⟨_,rfl⟩;rw [<- hM];have hM8:M 8=none:=by rw [hM];simp only [Hp.upd,Hp.del];(repeat rw [if_neg (by omega)]);rfl
  have hM0:M 0=some ⟨0,true,[I64 k,I64 v,.str n,H3 [x,y],I64 p]⟩:=by rw [hM];simp only [Hp.upd,Hp.del];(repeat rw [if_neg (by omega)]);rfl
  have hMc:M c2=some ⟨1,true,W.map DV.str++[DV.str (A8d k)]⟩:=by rw [hM];exact A0
  clear hM;refine ⟨hM8,?_⟩;refine AC.call (c_pr1 k v n [x,y] p y 1 rfl (by decide) _ (hargs 1 y rfl) (hlen 1 y rfl).2 (hlen 1 y rfl).1 _ _ 0 hM0 (by omega)) ?_;rintro _ _ c3 ⟨id2,hid3,hid4,rfl,rfl⟩ -;generalize wrL k y.kind 1 (txT (exT y))=W2 at hR hW2 ⊢;have tk2:List.take W2.length (W2.map DV.str)=W2.map DV.str:=A0I (by simp);have hMc2:(M.upd id2 ⟨1,true,W2.map DV.str⟩) c2=some ⟨1,true,W.map DV.str++[DV.str (A8d k)]⟩:=by rw [A3 (by omega)];exact hMc
  have ne0:=O0 0 id2 c3 (by omega);simp only [go_sem,seval,ne0,A0,tk2,hMc2];refine M9 (E1 (by simp) (by omega) (by omega)) ?_;simp only [go_sem,seval,ne0,A0];repeat' ((with_reducible first|refine wr ?_|refine A2 ?_ ?_|fail)<;>try simp only [go_sem,seval,ne0,A0])
  have hl:R.length=W.length+1+W2.length:=by rw [hR];simp;omega
  rw [<- hl];exact ⟨_,nil.upd c3 ⟨1,true,R.map DV.str⟩,V6 A0 (fun j hj=>.inl (by rw [A3 hj];rfl)) (by rw [A0,hR];simp),c3,rfl,rfl⟩
 have m5:decide (B8 k<6)=false:=by simpa using l5
 have l7:B8 k=7:=by have:=V5 k;omega
 have hc:J9 k=0:=by unfold J9;rw [if_neg l6,if_neg l5]
 obtain rfl:a=[]:=A1N (i2.trans hc);rw [C3r l7 i1 i3 i4] at hR;by_cases h1:k=1
 ·subst h1;rw [if_pos rfl] at hR;repeat' ((with_reducible first|refine wr ?_|refine cpc hlv ?_|refine cpc hsg ?_|refine A2 ?_ ?_|fail)<;>try simp only [go_sem,seval,m6,m5])
  refine AC.call (Y8 (xs:=[Tok.v ⟨3,[],v,0⟩]) (u:=4) (id:=1) (c_Text [⟨3,[],v,0⟩] (by simp) ?_) A0 rfl rfl (F0 [⟨3,[],v,0⟩])) ?_
  ·intro t ht;obtain rfl:=A0N.1 ht;have hv:0<=v/\v<=2147483647:=by
    unfold A0o at i4;simp at i4;omega
   exact ⟨by simp,by dsimp only;omega,by dsimp only;omega⟩
  rintro _ _ _ ⟨rfl,rfl,rfl⟩ -;rw [show A6k [⟨3,[],v,0⟩]=M0 v by rw [<- A3c];simp [Lib.join,J7]];simp only [go_sem,seval];repeat' ((with_reducible first|refine wr ?_|refine A2 ?_ ?_|fail)<;>try simp only [go_sem,seval])
  exact ⟨_,nil.upd 2 ⟨1,true,R.map DV.str⟩,by rw [hR];exact V6 A0 (fun j hj=>.inl (by rw [A3 hj];rfl)) A0,2,by rw [hR];rfl,rfl⟩
 by_cases h2:k=2
 ·subst h2;rw [if_neg h1,if_pos rfl] at hR;repeat' ((with_reducible first|refine wr ?_|refine cpc hlv ?_|refine cpc hsg ?_|refine A2 ?_ ?_|fail)<;>try simp only [go_sem,seval,m6,m5])
  exact ⟨_,nil.upd 1 ⟨1,true,R.map DV.str⟩,by rw [hR];exact V6 A0 (fun j hj=>.inl (by rw [A3 hj];rfl)) A0,1,by rw [hR];rfl,rfl⟩
 rw [if_neg h1,if_neg h2] at hR;have d1:(k == 1)=false:=by simpa using h1
 have d2:(k == 2)=false:=by simpa using h2
 repeat' ((with_reducible first|refine F9 (p:=IW _ _ (pz Tryz.prog 65 (.i (.o (.i (.o (.o .h)))))) _ _) ?_|refine wr ?_|refine cpc hlv ?_|refine cpc hsg ?_|refine A2 ?_ ?_|fail)<;>try simp only [go_sem,seval,m6,m5,d1,d2])
 unfold X3;have hr:3<=k/\k<=9:=by
  unfold kOk at i1;simp only [l7,Int.lt_irrefl,decide_false,A4B,A0D,A0H] at i1;have hk9:k<=9:=Classical.byContradiction fun hc=>by
   have:B8 k<7:=by unfold B8;repeat' split;all_goals omega
   omega
  omega
 obtain ⟨j0,hj0,hj7⟩:∃ j0:Nat,I7[j0]? = some k/\j0<7:=by
  have hk9:k=3\/k=4\/k=5\/k=6\/k=7\/k=8\/k=9:=by omega
  rcases hk9 with rfl|rfl|rfl|rfl|rfl|rfl|rfl
  ·exact ⟨0,rfl,by decide⟩
  ·exact ⟨1,rfl,by decide⟩
  ·exact ⟨4,rfl,by decide⟩
  ·exact ⟨5,rfl,by decide⟩
  ·exact ⟨6,rfl,by decide⟩
  ·exact ⟨2,rfl,by decide⟩
  ·exact ⟨3,rfl,by decide⟩
 obtain ⟨w,hw⟩:∃ w,w=R8 G0 I7 k:=⟨_,rfl⟩;refine B2a c_lvs (σ := Option Nat) (fun o=>[(1,.ptr 0 0),(5,B6 o 1)]) (fun o=>C5 (nil.upd 0 ⟨0,true,[I64 k,I64 v,.str n,H3 [],I64 p]⟩) o ⟨1,true,[.str w]⟩)
  (fun D o c=>1<=c/\(∀ i,o=some i->0<i/\i<c/\∃ j∈D,I7[j]? = some k)/\(o=none->∀ j∈D,I7[j]? ≠ some k)) none (by decide) (fun _=>rfl) ⟨rfl,rfl,trivial⟩ (Sub.refl _) ⟨by decide,(by intro i h;cases h),fun _ j hj=>by cases hj⟩ ?_ ?_
 ·rintro D o c ⟨hc1,ho,hno⟩ hall;rcases o with _|id
  ·exact absurd hj0 (hno rfl j0 (hall j0 hj7))
  obtain ⟨g1,g2, -⟩:=ho id rfl;have hnm:=c_namedS k;rw [<- hw] at hR;have ne0:=V4 0 id c (c+1) (by omega);cases hb:A1b k with
  | true =>
   rw [hb] at hnm hR;rw [if_pos rfl] at hR;repeat' ((with_reducible first|refine wr ?_|refine cpc hnm ?_|refine A2 ?_ ?_|fail)<;>try simp only [go_sem,seval,ne0,A0])
   refine C4 (E1 rfl (by decide) (by decide)) ?_;simp only [go_sem,seval,ne0,A0];repeat' ((with_reducible first|refine wr ?_|refine A2 ?_ ?_|fail)<;>try simp only [go_sem,seval,ne0,A0])
   exact ⟨_,nil.upd (c+1) ⟨1,true,R.map DV.str⟩,by rw [hR];exact V6 A0 (fun j hj=>.inl (by rw [A3 hj];rfl)) A0,c+1,by rw [hR];rfl,rfl⟩
  | false =>
   rw [hb] at hnm hR;rw [if_neg A1Y] at hR;repeat' ((with_reducible first|refine wr ?_|refine cpc hnm ?_|refine A2 ?_ ?_|fail)<;>try simp only [go_sem,seval,ne0,A0])
   exact ⟨_,nil.upd id ⟨1,true,R.map DV.str⟩,by rw [hR];exact V6 A0 (fun j hj=>.inl (by rw [A3 hj];rfl)) A0,id,by rw [hR];rfl,rfl⟩
 ·rintro it D o c i kk vv ⟨hc1,ho,hno⟩ hDn hDb hiD hk hv;rw [A1A,A0R] at hk hv;obtain ⟨w',hw',rfl⟩:=hk;obtain ⟨u,hu,rfl⟩:=hv;by_cases hx:u=k
  ·subst hx;obtain rfl:w'=w:=by rw [hw];exact (A7l (by decide) hw' hu).symm
   obtain rfl:o=none:=by
    cases o with
    | none=>rfl
    | some id =>
     obtain ⟨-, -,j,hj,hj2⟩:=ho id rfl;have:i=j:=(List.getElem?_inj (A0L.1 hu).1 (by decide:I7.Nodup)).1 (hu.trans hj2.symm);exact absurd (this▸hj) hiD
   have ne0:=O0 0 c (c+1) (by omega);repeat' ((with_reducible first|refine wr ?_|refine A2 ?_ ?_|fail)<;>try simp only [go_sem,seval,ne0,A0])
   refine C4 (A1r (by decide) (by decide) (by decide)) ?_;simp only [go_sem,seval,ne0,A0];repeat' ((with_reducible first|refine wr ?_|refine A2 ?_ ?_|fail)<;>try simp only [go_sem,seval,ne0,A0])
   refine ⟨some (c+1),rfl,fun j b hj=>?_,?_⟩
   ·rw [A0f] at hj;by_cases e:j=c+1
    ·subst e;rw [A0] at hj ⊢;exact hj
    ·rw [A3 e] at hj ⊢;by_cases e2:j=0
     ·subst e2;rw [A0] at hj;rw [A3 (by omega),A0];exact hj
     ·rw [A3 e2] at hj;cases hj
   ·unfold B4k;exact ⟨by omega,fun i' hi'=>by cases hi';exact ⟨by omega,by omega,i,A0K,hu⟩,fun h=>by cases h⟩
  ·have hx':(u == k)=false:=by simpa using hx
   have h0b:C5 (nil.upd 0 ⟨0,true,[I64 k,I64 v,.str n,H3 [],I64 p]⟩) o ⟨1,true,[.str w]⟩ 0=some ⟨0,true,[I64 k,I64 v,.str n,H3 [],I64 p]⟩:=by
    cases o with
    | none=>exact A0
    | some id=>rw [A0f,A3 (by have:=ho id rfl;omega)];exact A0
   repeat' ((with_reducible first|refine wr ?_|refine A2 ?_ ?_|fail)<;>try simp only [go_sem,seval,hx',h0b])
   refine ⟨o,rfl,Sub.refl _,?_⟩;unfold B4k;refine ⟨hc1,fun i' hi'=>?_,fun h j hj=>?_⟩
   ·obtain ⟨g1,g2,j,g3,g4⟩:=ho i' hi';exact ⟨g1,g2,j,A0J _ g3,g4⟩
   ·rcases A1S.1 hj with rfl|hj
    ·rw [hu];intro e;cases e;exact hx rfl
    ·exact hno h j hj
theorem A2v (l:List (List UInt8)):A4 (l.map DV.str)=l.map DV.str:=by
 induction l with
 | nil=>rfl
 | cons a l ih=>rw [A0O,A4,A1E];exact congrArg (DV.str a :: ·) ih
theorem C2f {l:List (List UInt8)} {sp:List UInt8} {id cc:Nat} {H:Hp} (hb:H id=some ⟨1,true,l.map DV.str⟩) (h1:l.length<=140737488355328) (h2:(Lib.join l sp).length<=140737488355328) :
  AC Tryz.prog 64 [.slc id 0 l.length,.str sp] H cc (fun v H' c'=>v=.str (Lib.join l sp)/\H'=K3 H (some id)/\c'=cc) :=
 AC.ghost (GL.frzS (id:=id) hb rfl (fun j=>by
  by_cases e:j=id
  ·subst e;exact .inl (by rw [P4,if_pos rfl])
  ·exact .inr ⟨e,by rw [P4,if_neg e]⟩) (.cons _ _ _ _ (N7 (xs:=l.map DV.str) (u:=1) (by simp) (J1 l) ⟨[],by rw [A2v];simp⟩) (.cons _ _ _ _ (.same _) .nil))) ((c_Join l sp h1 h2).at _ cc)
def D1p (e:Ex):List UInt8:=if X1 e=true then A6k (exT e) else []
theorem C7e {e:Ex} (h:X1 e=true):∃ o d,msM e=some (o,d):=by
 unfold X1 at h;split at h
 ·rename_i o d hm;exact ⟨o,d,hm⟩
 ·cases h
theorem c_PFormatE (e:Ex) (hB:e.sz<=100000):PC Tryz.prog 29 [e.v] (.str (D1p e)):=by
 have hx:=C6j e;have hv:=c_ValidExpr e (by omega);refine PC.ofT B1 rfl (A0B rfl) (by simp [DV.nlL,DV.nl,Ex.nl]) rfl ?_;unfold D1p;cases hb:X1 e with
 | false =>
  rw [hb] at hv;rw [if_neg A1Y];rw [Ex.v_w] at hv ⊢;repeat' ((with_reducible first|refine wr ?_|refine cpc hv ?_|refine A2 ?_ ?_|fail)<;>try simp only [go_sem,seval])
  exact B3 rfl
 | true =>
  have hP:=c_printed _ e (A2R _) (by omega) (C7e hb);rw [hb] at hv;rw [if_pos rfl];rw [Ex.v_w] at hv hP ⊢;repeat' ((with_reducible first|refine wr ?_|refine cpc hv ?_|refine A2 ?_ ?_|fail)<;>try simp only [go_sem,seval])
  refine AC.call (hP _ _) ?_;rintro _ _ _ ⟨rfl,rfl,rfl⟩ -;simp only [go_sem,seval];have htl:=A9q hx;have hl:=(B9p e).2;have hle:(exT e).length=(txT (exT e)).length:=by simp [txT]
  have htj:Lib.join (txT (exT e)) [32]=A6k (exT e):=A3c (exT e);refine AC.call (C2f A0 (by omega) (by rw [htj];omega)) ?_;rintro _ _ _ ⟨rfl,rfl,rfl⟩ -;rw [htj];simp only [go_sem,seval];repeat' ((with_reducible first|refine wr ?_|refine A2 ?_ ?_|fail)<;>try simp only [go_sem,seval])
  exact ⟨_,GL.refl _ _⟩
end Go.Proofs.YthlpinppaclofaaGreatDoor
namespace Go.Pb
variable [Go.Sym.Tab]
open Go.Sym
def M1 (P:St->List (List UInt8)) (l:List St):List (List UInt8):=[123] :: (l.flatMap P++[[125]])
abbrev C7x:List UInt8:=[101,108,115,101]
def A8v (P:St->List (List UInt8)):List St->List (List UInt8)
 | []=>[]
 | [s]=>C7x :: (if s.kind=2 then P s else M1 P [s])
 | s :: s2 :: r=>C7x :: M1 P (s :: s2 :: r)
def A6l (P:St->List (List UInt8)) (k:Int) (x y:List St):List (List UInt8):=if (I4 k).thn=true then M1 P x++A8v P y else [[59]]
def agI:Nat->List Ex->List (List UInt8)
 | _,[]=>[]
 | i,e :: l=>(if 0<i then [[44]] else [])++(txT (exT e)++agI (i+1) l)
def txL (k:Int) (t:List UInt8):List (List UInt8):=if (I4 k).text=true then [T2 t,[44]] else []
def hdL (k:Int) (n:List UInt8):List (List UInt8):=if k=1 then [n,[61]] else R8 B7 Z9 k :: (if (I4 k).name=true then [n] else [])
def psL (P:St->List (List UInt8)):St->List (List UInt8)
 | .mk k n t a x y p=>hdL k n++(txL k t++(agI 0 a++A6l P k x y))
theorem C3s (x:List UInt8):txT [A6 x]=[x]:=by simp [txT,L7]
theorem K9 (x:List UInt8) (l:List Tok):txT (A6 x :: l)=x :: txT l:=by simp [txT,L7]
theorem P7:txT []=[]:=rfl
theorem A0z:∀ l:List St,O8 l=l.flatMap stT
 | []=>rfl
 | s :: l=>by rw [O8,A0z l,A1E]
theorem A7d (l:List St):txT (O8 l)=l.flatMap fun s=>txT (stT s):=by
 rw [A0z,txT,List.map_flatMap];rfl
theorem B4s (l:List St):txT (blT l)=M1 (fun s=>txT (stT s)) l:=by
 rw [blT,G2,G2,A7d,C3s,C3s];rfl
theorem S6 {n:List UInt8} (h:C8 n=true):txT (D4 n)=[n]:=by simp [D4,h,txT,J7]
theorem C3q {t:List UInt8} (h:R0 t=true):txT (S8 t)=[T2 t]:=by
 unfold R0 at h;simp only [A0D,A0H] at h;have h2:¬ (t.all txB=false\/32<t.length):=by
  rintro (h3|h3)
  ·rw [h3] at h;exact absurd h.1 (by decide)
  ·omega
 unfold S8;rw [if_neg h2];rfl
theorem C4c {k:Int} (h1:2<=k) (h2:k<=19):R8 B7 Z9 k=B7.getD (k-2).toNat []:=by
 obtain ⟨j,rfl⟩:∃ j:Nat,k=2+(j:Int):=⟨(k-2).toNat,by omega⟩;have hj:j<18:=by omega
 have:∀ j:Nat,j<18->R8 B7 Z9 (2+(j:Int))=B7.getD (2+(j:Int)-2).toNat []:=by decide
 exact this j hj
theorem B9o (e:Ex):agI 0 [e]=txT (exT e):=by simp [agI]
theorem D9m (e f:Ex):agI 0 [e,f]=txT (exT e)++[44] :: txT (exT f):=by simp [agI]
theorem D3v {s:St} {d:Nat} (h:S5 d s=true):psL (fun s=>txT (stT s)) s=txT (stT s):=by
 obtain ⟨k,n,t,a,x,y,p⟩:=s;unfold S5 at h;simp only [A0D,A0H,A1F] at h;obtain ⟨⟨⟨⟨⟨k1,k2⟩,⟨ha, -⟩⟩,⟨hn,ht⟩⟩,⟨hx,hy⟩⟩, -⟩:=h;rw [psL];obtain ⟨P,hP⟩:∃ P:St->List (List UInt8),P=fun s=>txT (stT s):=⟨_,rfl⟩;rw [<- hP];have hb:M1 P x=[123] :: (txT (O8 x)++[[125]]):=by rw [A7d,hP];rfl
 by_cases c1:k=1
 ·subst c1;obtain ⟨e,rfl⟩:∃ e,a=[e]:=A2K.1 ha;have hn':C8 n=true:=hn;show [n,[61]]++([]++(agI 0 [e]++[[59]]))=_;rw [stT,if_pos rfl,G2,G2,G2,S6 hn',C3s,C3s,B9o];simp [agT]
 have hkey:=C4c (k:=k) (by omega) k2;rw [stT,if_neg c1,if_neg (by omega)];dsimp only;rw [<- hkey];unfold hdL;rw [if_neg c1];by_cases c2:k=2
 ·subst c2;obtain ⟨e,rfl⟩:∃ e,a=[e]:=A2K.1 ha;show [R8 B7 Z9 2]++([]++(agI 0 [e]++(M1 P x++A8v P y)))=_;rw [if_pos (.inl rfl),B9o,hb]
  match y with
  | []=>simp [G2,K9,P7,A8v,agT]
  | [s] =>
   have hbs:M1 P [s]=[123] :: (txT (stT s)++[[125]]):=by simp [M1,hP]
   rw [A8v,hbs];dsimp only;by_cases h2:s.kind=2
   ·rw [if_pos h2,if_pos h2];simp [G2,K9,P7,agT,hP]
   ·rw [if_neg h2,if_neg h2];simp [G2,K9,P7,agT]
  | s :: s2 :: r =>
   have hbs:M1 P (s :: s2 :: r)=[123] :: (txT (O8 (s :: s2 :: r))++[[125]]):=by rw [A7d,hP];rfl
   rw [A8v,hbs];simp [G2,K9,P7,agT]
 by_cases c3:k=3
 ·subst c3;obtain ⟨e,rfl⟩:∃ e,a=[e]:=A2K.1 ha;obtain rfl:y=[]:=by cases y with|nil=>rfl|cons a l=>exact absurd (show false=true from hy) (by decide)
  show [R8 B7 Z9 3]++([]++(agI 0 [e]++(M1 P x++A8v P [])))=_;rw [if_pos (.inr rfl),B9o,hb];simp [G2,K9,P7,A8v,agT]
 rw [if_neg (by omega:¬ (k=2\/k=3))];by_cases c4:k=4
 ·subst c4;obtain ⟨e,rfl⟩:∃ e,a=[e]:=A2K.1 ha;show [R8 B7 Z9 4]++([]++(agI 0 [e]++[[59]]))=_;rw [if_pos rfl,B9o];simp [G2,K9,P7,agT]
 rw [if_neg c4];by_cases c18:k=18
 ·subst c18;obtain ⟨e,rfl⟩:∃ e,a=[e]:=A2K.1 ha;have ht':R0 t=true:=ht;show [R8 B7 Z9 18]++([T2 t,[44]]++(agI 0 [e]++[[59]]))=_;rw [if_pos rfl,B9o];simp [G2,K9,P7,agT,C3q ht']
 rw [if_neg c18];by_cases c8:k=8\/k=10
 ·have hs:I4 k=⟨true,false,1,false,false⟩:=by rcases c8 with rfl|rfl<;>rfl
  rw [hs] at ha hn;obtain ⟨e,rfl⟩:∃ e,a=[e]:=A2K.1 ha;have hn':C8 n=true:=hn;unfold txL A6l;rw [hs,if_pos c8,B9o];simp [G2,K9,P7,agT,S6 hn']
 rw [if_neg c8];by_cases c9:k=9
 ·subst c9;obtain ⟨e,f,rfl⟩:∃ e f,a=[e,f]:=by
   match a,ha with
   | [e,f],_=>exact ⟨e,f,rfl⟩
  have hn':C8 n=true:=hn;show [R8 B7 Z9 9,n]++([]++(agI 0 [e,f]++[[59]]))=_;rw [if_pos rfl,D9m];simp [G2,K9,P7,agT,S6 hn']
 rw [if_neg c9];by_cases c19:k=19
 ·subst c19;obtain rfl:a=[]:=A1N ha;show [R8 B7 Z9 19]++([]++(agI 0 []++[[59]]))=_;rw [if_pos rfl];simp [G2,K9,P7,agI]
 rw [if_neg c19];have hs:I4 k=⟨true,false,0,false,false⟩:=by
  unfold I4;rw [if_neg (by omega),if_neg c9,if_neg c2,if_neg c3,if_neg c4,if_neg c18,if_neg c19]
 rw [hs] at ha hn;obtain rfl:a=[]:=A1N ha;have hn':C8 n=true:=hn;unfold txL A6l;rw [hs];simp [G2,K9,P7,agI,S6 hn']
end Go.Pb
namespace Go.Pb
variable [Go.Sym.Tab]
open Go.Sym
def lnT (t:List UInt8):List UInt8:=if t=[59]\/t=[123]\/t=[125] then t++[10] else t++[32]
def R7 (l:List (List UInt8)):List UInt8:=(l.map lnT).flatten
def A2l (t:Tok):Bool:=t.kind == 5 && (t.text == [59] || t.text == [123] || t.text == [125])
def rfm:List Tok->List UInt8
 | []=>[]
 | t :: l=>J7 t++((if A2l t=true then [10] else if l=[] then [] else [32])++rfm l)
theorem B7g:∀ {l:List Tok},(∀ t∈l,Fit t)->(rfm l).length<=200026 * l.length
 | [],_=>by simp [rfm]
 | t :: l,h=>by
  have h1:=B7g fun t ht=>h t (A0J _ ht);have h2:=B3l (h t A0K);rw [rfm,A0A,A0A,A0U];have h3:(if A2l t=true then [10] else if l=[] then [] else ([32]:List UInt8)).length<=1:=by
   split
   ·simp
   ·split<;>simp
  omega
def OkT (t:Tok):Prop:=A2l t=true↔(J7 t=[59]\/J7 t=[123]\/J7 t=[125])
theorem A9x:∀ {l:List Tok},(∀ t∈l,OkT t)->(∀ t,l.getLast? = some t->A2l t=true)->rfm l=R7 (txT l)
 | [],_,_=>rfl
 | t :: l,h,hlast=>by
  have ho:=h t A0K;have ih:=A9x (l:=l) (fun t ht=>h t (A0J _ ht)) fun t2 h2=>by
   refine hlast t2 ?_;cases l with
   | nil=>cases h2
   | cons a l=>rw [List.getLast?_cons_cons];exact h2
  rw [rfm,ih];show _=lnT (J7 t)++R7 (txT l);unfold lnT;by_cases he:A2l t=true
  ·rw [if_pos he,if_pos (ho.1 he),A0V]
  ·rw [if_neg he,if_neg (fun hc=>he (ho.2 hc))];have hl:l≠[]:=fun e=>by subst e;exact he (hlast t rfl)
   rw [if_neg hl,A0V]
def K1 (Q:Tok->Prop) (l:List Tok):Prop:=∀ t∈l,Q t
structure Clo (Q:Tok->Prop):Prop where
 z:K1 Q [M6]
 w:∀ x:List UInt8,x.length<=12->K1 Q [A6 x]
 n:∀ x,K1 Q (D4 x)
 v:∀ x,K1 Q (P8 x)
 t:∀ x,K1 Q (S8 x)
section
variable {Q:Tok->Prop} (C:Clo Q)
include C
theorem K1.app {a b:List Tok} (h1:K1 Q a) (h2:K1 Q b):K1 Q (a++b):=fun t ht=>by
 rcases A1T.1 ht with h|h
 ·exact h1 t h
 ·exact h2 t h
theorem D3p:K1 Q []:=fun t ht=>by cases ht
theorem D0e (i:Nat):K1 Q [A6 (C3.getD i [])]:=C.w _ (by
 by_cases hi:i<13
 ·have:∀ i:Nat,i<13->(C3.getD i []).length<=12:=by decide
  exact this i hi
 ·rw [A0T,A1R (by show 13<=i;omega)];simp)
theorem B5k {q:Int × List Tok} {m:Int} (h:K1 Q q.2):K1 Q (E5 q m):=by
 unfold E5;split
 ·exact ((C.w _ (by decide)).app C h).app C (C.w _ (by decide))
 ·exact h
theorem C4s {k v:Int} {n:List UInt8} {as1:List (Int × List Tok)} (h:∀ q∈as1,K1 Q q.2):K1 Q (G1 k v n as1):=by
 unfold G1;dsimp only;by_cases k1:k=1
 ·rw [if_pos k1];exact C.v v
 rw [if_neg k1];by_cases k2:k=2
 ·rw [if_pos k2];exact C.n n
 rw [if_neg k2];by_cases k3:k=3
 ·rw [if_pos k3];exact C.w _ (by decide)
 rw [if_neg k3];by_cases k4:k=4
 ·rw [if_pos k4];exact C.w _ (by decide)
 rw [if_neg k4];by_cases k8:k=8
 ·rw [if_pos k8];exact C.w _ (by decide)
 rw [if_neg k8];by_cases k9:k=9
 ·rw [if_pos k9];exact C.w _ (by decide)
 rw [if_neg k9];by_cases k5:k=5
 ·rw [if_pos k5];exact (C.w _ (by decide)).app C (C.n n)
 rw [if_neg k5];by_cases k6:k=6
 ·rw [if_pos k6];exact (C.w _ (by decide)).app C (C.n n)
 rw [if_neg k6];by_cases k7:k=7
 ·rw [if_pos k7];exact (C.w _ (by decide)).app C (C.n n)
 rw [if_neg k7]
 match as1,h with
 | [],h=>exact C.z
 | [q],h =>
  dsimp only;by_cases h6:B8 k=6
  ·rw [if_pos h6];refine K1.app C ?_ (B5k C (h q A0K));by_cases h10:k=10
   ·rw [if_pos h10];exact C.w _ (by decide)
   ·rw [if_neg h10];exact C.w _ (by decide)
  ·rw [if_neg h6];exact C.z
 | [q,r],h =>
  dsimp only;by_cases h6:B8 k<6
  ·rw [if_pos h6];exact ((B5k C (h q A0K)).app C (D0e C _)).app C (B5k C (h r (A0J _ A0K)))
  ·rw [if_neg h6];exact C.z
 | _ :: _ :: _ :: _,h=>exact C.z
theorem D3r:∀ (e:Ex),K1 Q (exT e):=by
 have:∀ (m:Nat) (e:Ex),e.sz<m->K1 Q (exT e):=by
  intro m
  induction m with
  | zero=>intro e h;omega
  | succ m ih =>
   rintro ⟨k,v,n,a,p⟩ hm;rw [A8t];refine C4s C fun q hq=>?_;obtain ⟨x,hx,rfl⟩:=A1M.1 hq;exact ih x (by have:=Ex.sz_arg (e:=.mk k v n a p) hx;omega)
 exact fun e=>this _ e (A2R _)
theorem D3u (l:List Ex) (i:Nat):K1 Q (agT l i):=by
 unfold agT;split
 ·exact D3r C _
 ·exact C.z
theorem A5v {α : Type} {f : α -> List Tok} {l:List α} (h:∀ x∈l,K1 Q (f x)):K1 Q (l.flatMap f):=fun t ht=>by
 obtain ⟨x,hx,ht⟩:=List.mem_flatMap.1 ht;exact h x hx t ht
theorem D0d (i:Nat):K1 Q [A6 (B7.getD i [])]:=C.w _ (by
 by_cases hi:i<18
 ·have:∀ i:Nat,i<18->(B7.getD i []).length<=12:=by decide
  exact this i hi
 ·rw [A0T,A1R (by show 18<=i;omega)];simp)
set_option maxHeartbeats 4000000 in
theorem D3o:∀ (s:St),K1 Q (stT s):=by
 have:∀ (m:Nat) (s:St),s.sz<m->K1 Q (stT s):=by
  intro m
  induction m with
  | zero=>intro e h;omega
  | succ m ih =>
   rintro ⟨k,n,t,a,x,y,p⟩ hm;rw [St.sz] at hm;have hx:K1 Q (O8 x):=by rw [A0z];exact A5v C fun s hs=>ih s (by have:=St.szs_mem hs;omega)
   have hy:∀ s∈y,K1 Q (stT s):=fun s hs=>ih s (by have:=St.szs_mem hs;omega);have hys:K1 Q (O8 y):=by rw [A0z];exact A5v C hy
   have hel:K1 Q [A6 [101,108,115,101]]:=C.w _ (by decide);have w0:=D0d C (k-2).toNat;have o1:K1 Q [A6 [123]]:=C.w _ (by decide);have o2:K1 Q [A6 [125]]:=C.w _ (by decide);have o3:K1 Q [A6 [59]]:=C.w _ (by decide);have o4:K1 Q [A6 [44]]:=C.w _ (by decide);have o5:K1 Q [A6 [61]]:=C.w _ (by decide);rw [stT];dsimp only;repeat' split
   all_goals repeat' with_reducible first
    | refine K1.app C ?_ ?_
    | assumption
    | exact C.z
    | exact C.n _
    | exact C.t _
    | exact D3u C _ _
    | exact hy _ A0K
 exact fun e=>this _ e (A2R _)
theorem D3t (l:List St):K1 Q (blT l):=by
 rw [blT,A0z];exact ((C.w _ (by decide)).app C (A5v C fun s _=>D3o C s)).app C (C.w _ (by decide))
theorem D3s (d:Dc):K1 Q (dcT d):=by
 have hw:K1 Q [A6 (D1.getD (d.kind-1).toNat [])]:=C.w _ (by
  by_cases hi:(d.kind-1).toNat<8
  ·have:∀ i:Nat,i<8->(D1.getD i []).length<=12:=by decide
   exact this _ hi
  ·rw [A0T,A1R (by show 8<=_;omega)];simp)
 have o3:K1 Q [A6 [59]]:=C.w _ (by decide);have o4:K1 Q [A6 [45]]:=C.w _ (by decide);unfold dcT;dsimp only;repeat' split
 all_goals repeat' first
  | assumption
  | exact C.z
  | exact C.n _
  | exact C.v _
  | refine K1.app C ?_ ?_
theorem D3q (h:Hd):K1 Q (hdT h):=by
 have hw:K1 Q [A6 (D3.getD (h.trig-1).toNat [])]:=C.w _ (by
  by_cases hi:(h.trig-1).toNat<6
  ·have:∀ i:Nat,i<6->(D3.getD i []).length<=12:=by decide
   exact this _ hi
  ·rw [A0T,A1R (by show 6<=_;omega)];simp)
 have o3:K1 Q [A6 [111,110]]:=C.w _ (by decide);unfold hdT;refine (K1.app C (o3.app C hw) ?_).app C (D3t C _);split
 ·exact C.n _
 ·exact D3p C
theorem C0y (r:Ru):K1 Q (ruT r):=by
 unfold ruT;split
 ·exact C.z
 ·refine (A5v C fun d _=>D3s C d).app C (A5v C fun m _=>?_);unfold mdT;exact (((((C.w _ (by decide)).app C (C.n _)).app C (C.v _)).app C (C.w _ (by decide))).app C (A5v C fun h _=>D3q C h)).app C (C.w _ (by decide))
end
theorem C5i {n:List UInt8} (h:C8 n=true):n≠[59]/\n≠[123]/\n≠[125]:=by
 refine ⟨?_,?_,?_⟩<;>rintro rfl<;>exact absurd h (by decide)
theorem C5d:OkT M6:=by
 constructor
 ·intro h;exact absurd h (by decide)
 ·intro h;exact absurd h (by decide)
theorem C5b (x:List UInt8):OkT (A6 x):=by
 unfold OkT;rw [L7];unfold A2l A6;dsimp only;by_cases hc:x=[59]\/x=[123]\/x=[125]
 ·have h5:(if F6 x=true then (2:Int) else if C8 x=true then 1 else 5)=5:=by rcases hc with rfl|rfl|rfl<;>decide
  rw [h5];constructor
  ·intro _;exact hc
  ·intro _;rcases hc with rfl|rfl|rfl<;>decide
 ·constructor
  ·intro h;simp only [A0D,A0X,A1F] at h;rcases h.2 with (h|h)|h
   ·exact .inl h
   ·exact .inr (.inl h)
   ·exact .inr (.inr h)
  ·intro h;exact absurd h hc
theorem C1p (x:List UInt8):K1 OkT (D4 x):=by
 unfold D4;by_cases h:C8 x=false
 ·rw [if_pos h];intro t ht;obtain rfl:=A0N.1 ht;exact C5d
 ·rw [if_neg h];intro t ht;obtain rfl:=A0N.1 ht;have hn:C8 x=true:=by cases hx:C8 x with|true=>rfl|false=>exact absurd hx h
  obtain ⟨h1,h2,h3⟩:=C5i hn;constructor
  ·intro h;exact absurd h (by unfold A2l;simp)
  ·intro h;have ho:J7 ⟨1,x,0,0⟩=x:=rfl;rw [ho] at h;rcases h with h|h|h
   ·exact absurd h h1
   ·exact absurd h h2
   ·exact absurd h h3
theorem B5j (t:List UInt8):∃ r,T2 t=34 :: r:=⟨_,rfl⟩
theorem C5c (x:List UInt8):K1 OkT (S8 x):=by
 unfold S8;split
 ·intro t ht;obtain rfl:=A0N.1 ht;exact C5d
 ·intro t ht;obtain rfl:=A0N.1 ht;constructor
  ·intro h;exact absurd h (by unfold A2l;simp)
  ·intro h;have ho:J7 ⟨4,x,0,0⟩=T2 x:=rfl;obtain ⟨r,hr⟩:=B5j x;rw [ho,hr] at h;rcases h with h|h|h<;>exact absurd (List.cons.inj h).1 (by decide)
theorem B9k (n:Nat):∃ a d,A6y n=a++[Y0 d]/\d<10:=by
 by_cases h:n<10
 ·exact ⟨[],n,A3m h,h⟩
 ·exact ⟨_,n % 10,A5k h,by omega⟩
theorem D1y:∀ d:Nat,d<10->Y0 d≠59/\Y0 d≠123/\Y0 d≠125:=by decide
theorem D0i (x:Int):K1 OkT (P8 x):=by
 unfold P8;split
 ·intro t ht;obtain rfl:=A0N.1 ht;exact C5d
 ·intro t ht;obtain rfl:=A0N.1 ht;constructor
  ·intro h;exact absurd h (by unfold A2l;simp)
  ·intro h;have ho:J7 ⟨3,[],x,0⟩=M0 x:=rfl;have hd:M0 x=A6y x.natAbs:=by unfold M0;rw [if_neg (by omega)]
   obtain ⟨a,d,h1,h2⟩:=B9k x.natAbs;rw [ho,hd,h1] at h;obtain ⟨e1,e2,e3⟩:=D1y d h2;have key:∀ c,a++[Y0 d]=[c]->Y0 d=c:=fun c hc=>by
    have:=congrArg List.getLast? hc;simpa using this
   rcases h with h|h|h
   ·exact absurd (key _ h) e1
   ·exact absurd (key _ h) e2
   ·exact absurd (key _ h) e3
theorem D2e:Clo OkT:=⟨fun t ht=>by obtain rfl:=A0N.1 ht;exact C5d,fun x _ t ht=>by obtain rfl:=A0N.1 ht;exact C5b x,C1p,D0i,C5c⟩
theorem C6v:Clo Fit:=⟨fun t ht=>by obtain rfl:=A0N.1 ht;exact A6q,fun x h t ht=>by obtain rfl:=A0N.1 ht;exact P1 (by omega),A1f,B8a,fun x t ht=>by
 unfold S8 at ht;split at ht
 ·obtain rfl:=A0N.1 ht;exact A6q
 ·rename_i hc;obtain rfl:=A0N.1 ht;refine ⟨?_,by show -9223372036854775808<=(0:Int);decide,by show (0:Int)<=9223372036854775807;decide⟩;show x.length<=100000;have:¬ 32<x.length:=fun h=>hc (.inr h);omega⟩
theorem C6i (r:Ru):∀ t∈ruT r,Fit t:=C0y C6v r
def A0n (l:List Tok):Prop:=l=[]\/∃ a t,l=a++[t]/\A2l t=true
theorem A0n.app {a b:List Tok} (h1:A0n a) (h2:A0n b):A0n (a++b):=by
 rcases h2 with rfl|⟨c,t,rfl,ht⟩
 ·rw [A1J];exact h1
 ·exact .inr ⟨a++c,t,by rw [A0V],ht⟩
theorem A0n.flat {α : Type} {f : α -> List Tok}:∀ {l:List α},(∀ x∈l,A0n (f x))->A0n (l.flatMap f)
 | [],_=>.inl rfl
 | a :: l,h=>by
  rw [A1E];exact (h a A0K).app (A0n.flat fun x hx=>h x (A0J _ hx))
theorem A0n.get {l:List Tok} (h:A0n l):∀ t,l.getLast? = some t->A2l t=true:=by
 intro t ht;rcases h with rfl|⟨a,x,rfl,hx⟩
 ·cases ht
 ·simp at ht;rw [<- ht];exact hx
theorem C6t {d:Dc} (h:A0p d=true):A0n (dcT d):=by
 unfold A0p at h;simp only [A0D,A0H] at h;unfold dcT;rw [if_neg (by omega)];exact .inr ⟨_,_,rfl,by decide⟩
theorem C4m {r:Ru} (h:Y5 r=true):A0n (ruT r):=by
 unfold Y5 at h;simp only [A0D,A0H] at h;obtain ⟨⟨-,h1⟩,h2⟩:=h;unfold ruT;rw [if_neg]
 ·refine (A0n.flat fun d hd=>C6t (A0P.1 h1 d hd)).app (A0n.flat fun m _=>?_);unfold mdT;exact .inr ⟨_,_,rfl,by decide⟩
 ·intro hb;obtain ⟨m,hm,hb⟩:=A3O.1 hb;obtain ⟨g,hg,hb⟩:=A3O.1 hb;have h3:=A0P.1 h2 m hm;unfold U8 at h3;simp only [A0D] at h3;have h4:=A0P.1 h3.2 g hg;unfold X4 at h4;simp only [A0D,A0H] at h4;unfold T9 at hb;simp only [A0X,A0H] at hb;omega
theorem C9g {r:Ru} (h:Y5 r=true):rfm (ruT r)=R7 (txT (ruT r)):=A9x (C0y D2e r) (C4m h).get
def B2b (r:Ru):List UInt8:=if Y5 r=true then R7 (txT (ruT r)) else []
end Go.Pb
namespace Go.Proofs.YthlpinppaclofaaGreatDoor
open Go.Eng (IC IOper DReg IFn C2)
open Go.Sym Go.Pb
theorem A8l:∀ l:List (List UInt8),Lib.join l []=l.flatten
 | []=>rfl
 | [a]=>by simp [Lib.join]
 | a :: b :: l=>by
  have:=A8l (b :: l);simp only [Lib.join] at this ⊢;rw [A1K, <- this];simp
theorem c_lines (l:List (List UInt8)) (hl:l.length<=1000000000) (hb:∀ t∈l,t.length<=100000):PC Tryz.prog 60 [U9 l] (.str (R7 l)):=by
 refine PC.ofT B1 rfl (A0B rfl) (by simp only [DV.nlL,DV.nl,L8,A1W]) rfl ?_;repeat' ((with_reducible first|refine wr ?_|refine A2 ?_ ?_|fail)<;>try simp only [go_sem,seval])
 refine D8 (fun q:Nat × Option Nat=>[(3,B6 q.2 q.1),(6,U9 l),(7,I64 l.length),(8,I64 q.1)]) (fun q=>C5 Sym.nil q.2 ⟨1,true,((l.take q.1).map lnT).map DV.str⟩)
  (fun q cc=>q.1<=l.length/\(q.2=none->q.1=0)/\∀ i,q.2=some i->i<cc) (fun q=>l.length-q.1) (0,none)
  (by simp [C9,tm,Tm.upd,B6]) (Sub.nil _) ⟨by simp,by simp,by simp⟩ ?_
 rintro ⟨k,o⟩ c ⟨hk,hno,ho⟩;simp only at hk hno ho;simp only;have hkl:((l.take k).map lnT).length=k:=by rw [A0G,A1B];omega
 by_cases hlt:k<l.length
 ·have hd:decide ((k:Int)<l.length)=true:=by simpa using hlt
  have hg:=A0C hlt;have hw:IntKind.i64.wrap ((k:Int)+1)=((k+1:Nat):Int):=by rw [w64 (by omega) (by omega)];omega
  have est:((l.take (k+1)).map lnT).map DV.str=((l.take k).map lnT).map DV.str++[DV.str (lnT l[k])]:=by
   rw [A1D,hg,Option.toList_some,A0M,A0M];rfl
  have htl:=hb _ (A0S hlt);obtain ⟨t,ht⟩:∃ t,t=l[k]:=⟨_,rfl⟩;rw [<- ht] at hg est htl;have hgm:(l.map DV.str)[k]? = some (.str t):=by rw [A1A,hg];rfl
  obtain ⟨cs,hcs⟩:∃ cs,cs=((l.take k).map lnT).map DV.str:=⟨_,rfl⟩;have hcl:cs.length=k * 1:=by rw [hcs,A0G,hkl,Nat.mul_one]
  rw [<- hcs] at est ⊢;have hno2:o=none->k=0/\cs=[]:=fun e=>⟨hno e,by rw [hcs,hno e];rfl⟩;have ne0:=O0 c (c+1) (c+2) (by omega);have a1:binR .add (.str t) (.str [10])=some (.str (t++[10])):=A4e (by simp [maxLen];omega);have a2:binR .add (.str t) (.str [32])=some (.str (t++[32])):=A4e (by simp [maxLen];omega);repeat' ((with_reducible first|refine wr ?_|refine A2 ?_ ?_|refine wb2 ?_ ?_<;>(intro hb;try simp only [hb])|fail)<;>try simp only [go_sem,seval,hd,hgm,hw,ne0,a1,a2])
  all_goals
   refine C4 (E6 (cs:=cs) hno2 (fun i hi=>?_) hcl (by omega) (by omega) (by omega)) ?_
   ·have:=ho i hi;rw [A3 (by omega)];exact A0r hi
   simp only [go_sem,seval,ne0,hw];repeat' ((with_reducible first|refine wr ?_|refine A2 ?_ ?_|fail)<;>try simp only [go_sem,seval,hd,hw,ne0])
  all_goals exact ⟨(k+1,some (c+1)),⟨rfl,rfl⟩,J5 (by simp only [est];exact congrArg (fun z=>(⟨1,true,cs++[DV.str z]⟩:Blk)) (by unfold lnT;simp_all)),inv ⟨hlt,by simp,fun i hi=>by cases hi;omega⟩,by simp only;omega⟩
 ·have hd:decide ((k:Int)<l.length)=false:=by simpa using hlt
  have hfl:(R7 l).length<=140737488355328:=by
   have:∀ q:List (List UInt8),(∀ t∈q,t.length<=100000)->(R7 q).length<=100001 * q.length:=by
    intro q
    induction q with
    | nil=>intro _;simp [R7]
    | cons a q ih =>
     intro h;have h1:=ih fun t ht=>h t (A0J _ ht);have h2:=h a A0K;have h3:(lnT a).length=a.length+1:=by unfold lnT;split<;>simp
     unfold R7 at h1 ⊢;rw [A0O,A1K,A0A,A0U,h3];omega
   have:=this l hb;omega
  have hj:=c_Join (l.map lnT) [] (by rw [A0G];omega) (by rw [A8l];exact hfl);rw [A8l] at hj;obtain rfl:k=l.length:=by omega
  rw [A2Z] at hkl ⊢;rcases o with _|id
  ·have hk0:=hno rfl;have h00:l=[]:=A1N (by omega);repeat' ((with_reducible first|refine wr ?_|refine A2 ?_ ?_|fail)<;>try simp only [go_sem,seval,hd])
   refine AC.call (hj.give (H0:=Sym.nil) ⟨fun _ h=>h,fun ρ w vs h1 h2=>⟨ρ,rfl,h1,?_,Ext.refl _ _ _⟩⟩) ?_
   ·rw [h00];exact ⟨h2.1,fun i x y hx hy=>by
     match i with
     | 0=>cases hx;exact (h2.2 0 _ y rfl hy).snil_lst
     | 1=>cases hx;exact h2.2 1 _ y rfl hy
     | _+2=>cases hx⟩
   ·rintro v H' c' ⟨rfl,rfl,rfl⟩ -;simp only [go_sem,seval];repeat' ((with_reducible first|refine wr ?_|refine A2 ?_ ?_|fail)<;>try simp only [go_sem,seval])
    exact B3 rfl
  ·repeat' ((with_reducible first|refine wr ?_|refine A2 ?_ ?_|fail)<;>try simp only [go_sem,seval,hd])
   refine AC.call (hj.give (H0:=Sym.nil) (GL.one (id:=id) A0 rfl (.cons _ _ _ _ (N7 (u:=1) (by rw [A0G,hkl]) (J1 _) ⟨[],by rw [A2v];simp⟩) (.cons _ _ _ _ (.same _) .nil)))) ?_;rintro v H' c' ⟨rfl,rfl,rfl⟩ -;simp only [go_sem,seval];repeat' ((with_reducible first|refine wr ?_|refine A2 ?_ ?_|fail)<;>try simp only [go_sem,seval])
   exact B3 rfl
theorem c_pblk (P:Pb.St->List (List UInt8)) (l:List Pb.St) (hl:l.length<=4000000) (hP:∀ s∈l,OwL 102 [s.v] (P s)) (hb:(l.flatMap P).length<=1000000000):OwL 59 [F1 l] (M1 P l):=by
 refine OwL.of (by simp [DV.nlL,DV.nl,O5]) ?_;refine AC.bodyT B1 rfl (A0B rfl) fun hfr=>?_;repeat' ((with_reducible first|refine wr ?_|refine A2 ?_ ?_|fail)<;>try simp only [go_sem,seval])
 refine A1v (fun q:Nat × Nat=>[(3,.slc q.2 0 (1+((l.take q.1).flatMap P).length)),(7,F1 l),(8,I64 l.length),(9,I64 q.1)]) (fun q=>nil.upd q.2 ⟨1,true,([123] :: (l.take q.1).flatMap P).map DV.str⟩)
  (fun q cc=>q.1<=l.length/\q.2<cc) (fun q=>l.length-q.1) (0,0) (fun b=>⟨rfl,rfl,rfl,rfl,trivial⟩) (by simp [C9,tm,Tm.upd]) (by simp;exact Sub.refl _) ⟨by simp,by simp⟩ ?_
 rintro ⟨k,id⟩ c ⟨hk,hid⟩;simp only at hk hid;simp only;have hle:((l.take k).flatMap P).length<=(l.flatMap P).length:=by
  have:=congrArg List.length (congrArg (List.flatMap P) (A2S k l));rw [A2M,A0A] at this;omega
 obtain ⟨A,hA⟩:∃ A,A=(l.take k).flatMap P:=⟨_,rfl⟩;rw [<- hA] at hle ⊢;by_cases hlt:k<l.length
 ·have hd:decide ((k:Int)<l.length)=true:=by simpa using hlt
  have hg:=A0C hlt;have hw:IntKind.i64.wrap ((k:Int)+1)=((k+1:Nat):Int):=by rw [w64 (by omega) (by omega)];omega
  have est:(l.take (k+1)).flatMap P=A++P l[k]:=by
   rw [A1D,hg,Option.toList_some,A2M,hA];simp
  have hc:=hP _ (A0S hlt);have hle2:(A++P l[k]).length<=(l.flatMap P).length:=by
   have:=congrArg List.length (congrArg (List.flatMap P) (A2S (k+1) l));rw [A2M,A0A,est] at this;omega
  obtain ⟨s,hs⟩:∃ s,s=l[k]:=⟨_,rfl⟩;rw [<- hs] at hg est hc hle2;have hgm:(l.map Pb.St.v)[k]? = some s.v:=by rw [A1A,hg];rfl
  rw [Pb.St.v_w] at hgm hc;have ne0:=O0 id c (c+1) (by omega);repeat' ((with_reducible first|refine wr ?_|refine A2 ?_ ?_|fail)<;>try simp only [go_sem,seval,hd,hgm,hw,ne0,A0])
  refine AC.call (hc _ _) ?_;rintro _ _ _ ⟨rfl,rfl,rfl⟩ -;have tk:List.take (P s).length ((P s).map DV.str)=(P s).map DV.str:=A0I (by simp);rw [A0A] at hle2;have ne0:=V4 id c (c+1) (c+1+1) (by omega);simp only [go_sem,seval,ne0,A0,tk];repeat' ((with_reducible first|refine wr ?_|refine A2 ?_ ?_|fail)<;>try simp only [go_sem,seval,ne0,A0,tk])
  refine C4 (E1 (by simp;omega) (by omega) (by omega)) ?_;simp only [go_sem,seval,ne0,A0];repeat' ((with_reducible first|refine wr ?_|refine A2 ?_ ?_|fail)<;>try simp only [go_sem,seval,hw,ne0,A0])
  have e1:1+A.length+(P s).length=1+((l.take (k+1)).flatMap P).length:=by rw [est,A0A];omega
  refine ⟨(k+1,c+1+1),⟨by rw [e1],rfl⟩,GL.less fun j=>?_,inv ⟨hlt,by simp only;omega⟩,by simp only;omega⟩;by_cases e:j=c+1+1
  ·subst e;right;rw [A0,A0];simp only [est,A0M]
  ·left;rw [A3 e];rfl
 ·have hd:decide ((k:Int)<l.length)=false:=by simpa using hlt
  obtain rfl:k=l.length:=by omega
  rw [A2Z] at hA;have ne0:=O0 id c (c+1) (by omega);repeat' ((with_reducible first|refine wr ?_|refine A2 ?_ ?_|fail)<;>try simp only [go_sem,seval,hd,ne0,A0])
  refine C4 (E1 (by simp;omega) (by omega) (by omega)) ?_;simp only [go_sem,seval,ne0,A0];repeat' ((with_reducible first|refine wr ?_|refine A2 ?_ ?_|fail)<;>try simp only [go_sem,seval,hd,ne0,A0])
  have e1:(M1 P l).length=1+A.length+1:=by rw [M1, <- hA];simp;omega
  rw [<- e1];exact ⟨_,nil.upd (c+1) ⟨1,true,(M1 P l).map DV.str⟩,V6 A0 (fun j hj=>.inl (by rw [A3 hj];rfl)) (by rw [A0,M1, <- hA];simp),c+1,rfl,rfl⟩
abbrev B3g (k:Int) (n t:List UInt8) (a:List Ex) (x y:List Pb.St) (p:Int):Blk:=⟨0,true,[I64 k,.str n,.str t,H3 a,F1 x,F1 y,I64 p]⟩
abbrev B5l (q:Shp):Blk:=⟨0,true,[.bool q.name,.bool q.text,I64 q.args,.bool q.thn,.bool q.els]⟩
theorem c_psE (k:Int) (n t:List UInt8) (a:List Ex) (x y:List Pb.St) (p:Int) (P:Pb.St->List (List UInt8)) (hY:OwL 59 [F1 y] (M1 P y))
  (hS:∀ s,y=[s]->OwL 102 [s.v] (P s)) (hb2:(M1 P y).length<=1000000000) (hb3:∀ s,y=[s]->(P s).length<=1000000000)
  (l R:List (List UInt8)) (id c:Nat) (hid:1<=id) (hc:id<c) (hl:l.length<=10000000000) (hR:R=l++A8v P y) :
  IW Tryz.prog 107 (pz Tryz.prog 102 (.o (.i (.o (.i (.i .h)))))) ⟨(tm [(1,.ptr 0 0),(3,.slc id 0 l.length)]),((nil.upd 0 (B3g k n t a x y p)).upd id ⟨1,true,l.map DV.str⟩),c⟩ (rt [.tmp 2] fun v H' c' => ∃ v2 H2,GL H' [v] H2 [v2]/\∃ id,v2=.slc id 0 R.length/\H2=nil.upd id ⟨1,true,R.map DV.str⟩):=by
 have ne0:=O0 0 id c (by omega)
 match y with
 | [] =>
  rw [A8v,A1J] at hR;subst hR;repeat' ((with_reducible first|refine wr ?_|refine A2 ?_ ?_|fail)<;>try simp only [go_sem,seval,ne0,A0,A1C,List.map_nil,A0G])
  exact ⟨_,nil.upd id ⟨1,true,R.map DV.str⟩,V6 A0 (fun j hj=>.inl (by rw [A3 hj];rfl)) A0,id,rfl,rfl⟩
 | [s] =>
  have hS':=hS s rfl;rw [Pb.St.v_w] at hS';rw [A8v] at hR;by_cases hk2:s.kind=2
  ·have d2:(s.kind == 2)=true:=by simpa using hk2
   repeat' ((with_reducible first|refine wr ?_|refine A2 ?_ ?_|fail)<;>try simp only [go_sem,seval,ne0,A0,d2,Pb.St.v_w])
   rw [A3 (show ¬ id=c+1 by omega),A0];refine M9 (E1 (by simp) (by omega) (by omega)) ?_;rw [if_pos hk2] at hR;simp only [go_sem,seval,ne0,A0,Pb.St.v_w];obtain ⟨M,hM⟩:∃ M,M=((((nil.upd 0 (B3g k n t a x [s] p)).upd id ⟨1,true,l.map DV.str⟩).upd (c+1) ⟨1,true,[.str [101,108,115,101]]⟩).del id).upd (c+10) ⟨1,true,l.map DV.str++[.str [101,108,115,101]]⟩:=⟨_,rfl⟩;rw [<- hM];have hMn:∀ i,i≠0->i≠c+1->i≠c+10->M i=none:=fun i h0 h1 h2=>by
    rw [hM,A3 h2];simp only [Hp.del];split
    ·rfl
    ·rename_i h3;rw [A3 h1,A3 h3,A3 h0];rfl
   have hMl:M (c+10)=some ⟨1,true,l.map DV.str++[.str [101,108,115,101]]⟩:=by rw [hM];exact A0
   clear hM;refine ⟨by and_intros<;>exact hMn _ (by omega) (by omega) (by omega),?_⟩;refine AC.call (hS' M (c+10+1)) ?_;rintro _ _ _ ⟨rfl,rfl,rfl⟩ -;obtain ⟨W,hW⟩:∃ W,W=P s:=⟨_,rfl⟩;rw [<- hW] at hR ⊢;have hWl:W.length<=1000000000:=hW▸hb3 s rfl;have tk:List.take W.length (W.map DV.str)=W.map DV.str:=A0I (by simp);have hMl2:(M.upd (c+10+1) ⟨1,true,W.map DV.str⟩) (c+10)=some ⟨1,true,l.map DV.str++[.str [101,108,115,101]]⟩:=by rw [A3 (by omega)];exact hMl
   simp only [go_sem,seval,ne0,A0,tk,hMl2];refine M9 (E1 (by simp) (by omega) (by omega)) ?_;simp only [go_sem,seval,ne0,A0];repeat' ((with_reducible first|refine wr ?_|refine A2 ?_ ?_|fail)<;>try simp only [go_sem,seval,ne0,A0])
   have e1:R.length=l.length+1+W.length:=by rw [hR];simp;omega
   rw [<- e1];exact ⟨_,nil.upd (c+10+1+1) ⟨1,true,R.map DV.str⟩,V6 A0 (fun j hj=>.inl (by rw [A3 hj];rfl)) (by rw [A0,hR];simp),c+10+1+1,rfl,rfl⟩
  ·have d2:(s.kind == 2)=false:=by simpa using hk2
   repeat' ((with_reducible first|refine wr ?_|refine A2 ?_ ?_|fail)<;>try simp only [go_sem,seval,ne0,A0,d2,Pb.St.v_w])
   rw [A3 (show ¬ id=c+1 by omega),A0];refine M9 (E1 (by simp) (by omega) (by omega)) ?_;rw [if_neg hk2] at hR;simp only [go_sem,seval,ne0,A0];obtain ⟨M,hM⟩:∃ M,M=((((nil.upd 0 (B3g k n t a x [s] p)).upd id ⟨1,true,l.map DV.str⟩).upd (c+1) ⟨1,true,[.str [101,108,115,101]]⟩).del id).upd (c+8) ⟨1,true,l.map DV.str++[.str [101,108,115,101]]⟩:=⟨_,rfl⟩;rw [<- hM];have hMn:∀ i,i≠0->i≠c+1->i≠c+8->M i=none:=fun i h0 h1 h2=>by
    rw [hM,A3 h2];simp only [Hp.del];split
    ·rfl
    ·rename_i h3;rw [A3 h1,A3 h3,A3 h0];rfl
   have hMl:M (c+8)=some ⟨1,true,l.map DV.str++[.str [101,108,115,101]]⟩:=by rw [hM];exact A0
   clear hM;refine ⟨by and_intros<;>exact hMn _ (by omega) (by omega) (by omega),?_⟩;refine AC.call (hY M (c+8+1)) ?_;rintro _ _ _ ⟨rfl,rfl,rfl⟩ -;obtain ⟨W,hW⟩:∃ W,W=M1 P [s]:=⟨_,rfl⟩;rw [<- hW] at hR ⊢;have hWl:W.length<=1000000000:=hW▸hb2;have tk:List.take W.length (W.map DV.str)=W.map DV.str:=A0I (by simp);have hMl2:(M.upd (c+8+1) ⟨1,true,W.map DV.str⟩) (c+8)=some ⟨1,true,l.map DV.str++[.str [101,108,115,101]]⟩:=by rw [A3 (by omega)];exact hMl
   simp only [go_sem,seval,ne0,A0,tk,hMl2];refine M9 (E1 (by simp) (by omega) (by omega)) ?_;simp only [go_sem,seval,ne0,A0];repeat' ((with_reducible first|refine wr ?_|refine A2 ?_ ?_|fail)<;>try simp only [go_sem,seval,ne0,A0])
   have e1:R.length=l.length+1+W.length:=by rw [hR];simp;omega
   rw [<- e1];exact ⟨_,nil.upd (c+8+1+1) ⟨1,true,R.map DV.str⟩,V6 A0 (fun j hj=>.inl (by rw [A3 hj];rfl)) (by rw [A0,hR];simp),c+8+1+1,rfl,rfl⟩
 | s :: s2 :: r =>
  obtain ⟨A,hA⟩:∃ A,A=s :: s2 :: r:=⟨_,rfl⟩;have n1:((A.length:Int) == 1)=false:=by rw [hA];simp;omega
  have n0:decide ((A.length:Int)>0)=true:=by rw [hA];simp;omega
  rw [A8v] at hR;rw [<- hA] at hR hY hb2 ⊢;repeat' ((with_reducible first|refine wr ?_|refine A2 ?_ ?_|fail)<;>try simp only [go_sem,seval,ne0,A0,n1,n0])
  rw [A3 (show ¬ id=c+1 by omega),A0];refine M9 (E1 (by simp) (by omega) (by omega)) ?_;simp only [go_sem,seval,ne0,A0];obtain ⟨M,hM⟩:∃ M,M=((((nil.upd 0 (B3g k n t a x A p)).upd id ⟨1,true,l.map DV.str⟩).upd (c+1) ⟨1,true,[.str [101,108,115,101]]⟩).del id).upd (c+8) ⟨1,true,l.map DV.str++[.str [101,108,115,101]]⟩:=⟨_,rfl⟩;rw [<- hM];have hMn:∀ i,i≠0->i≠c+1->i≠c+8->M i=none:=fun i h0 h1 h2=>by
   rw [hM,A3 h2];simp only [Hp.del];split
   ·rfl
   ·rename_i h3;rw [A3 h1,A3 h3,A3 h0];rfl
  have hMl:M (c+8)=some ⟨1,true,l.map DV.str++[.str [101,108,115,101]]⟩:=by rw [hM];exact A0
  clear hM;refine ⟨by and_intros<;>exact hMn _ (by omega) (by omega) (by omega),?_⟩;refine AC.call (hY M (c+8+1)) ?_;rintro _ _ _ ⟨rfl,rfl,rfl⟩ -;obtain ⟨W,hW⟩:∃ W,W=M1 P A:=⟨_,rfl⟩;rw [<- hW] at hR ⊢;have hWl:W.length<=1000000000:=hW▸hb2;have tk:List.take W.length (W.map DV.str)=W.map DV.str:=A0I (by simp);have hMl2:(M.upd (c+8+1) ⟨1,true,W.map DV.str⟩) (c+8)=some ⟨1,true,l.map DV.str++[.str [101,108,115,101]]⟩:=by rw [A3 (by omega)];exact hMl
  simp only [go_sem,seval,ne0,A0,tk,hMl2];refine M9 (E1 (by simp) (by omega) (by omega)) ?_;simp only [go_sem,seval,ne0,A0];repeat' ((with_reducible first|refine wr ?_|refine A2 ?_ ?_|fail)<;>try simp only [go_sem,seval,ne0,A0])
  have e1:R.length=l.length+1+W.length:=by rw [hR];simp;omega
  rw [<- e1];exact ⟨_,nil.upd (c+8+1+1) ⟨1,true,R.map DV.str⟩,V6 A0 (fun j hj=>.inl (by rw [A3 hj];rfl)) (by rw [A0,hR];simp),c+8+1+1,rfl,rfl⟩
theorem c_psD (k:Int) (n t:List UInt8) (a:List Ex) (x y:List Pb.St) (p:Int) (P:Pb.St->List (List UInt8)) (hX:OwL 59 [F1 x] (M1 P x)) (hY:OwL 59 [F1 y] (M1 P y))
  (hS:∀ s,y=[s]->OwL 102 [s.v] (P s)) (hb1:(M1 P x).length<=1000000000) (hb2:(M1 P y).length<=1000000000) (hb3:∀ s,y=[s]->(P s).length<=1000000000)
  (l R:List (List UInt8)) (id c:Nat) (hid:2<=id) (hc:id<c) (hl:l.length<=1000000000) (hR:R=l++A6l P k x y) :
  IW Tryz.prog 107 (pz Tryz.prog 102 (.o (.o (.o (.o (.i .h)))))) ⟨(tm [(1,.ptr 0 0),(3,.slc id 0 l.length),(4,.ptr 1 0)]),(((nil.upd 0 (B3g k n t a x y p)).upd 1 (B5l (I4 k))).upd id ⟨1,true,l.map DV.str⟩),c⟩ (rt [.tmp 2] fun v H' c' => ∃ v2 H2,GL H' [v] H2 [v2]/\∃ id,v2=.slc id 0 R.length/\H2=nil.upd id ⟨1,true,R.map DV.str⟩):=by
 unfold A6l at hR;have tk1:List.take (M1 P x).length ((M1 P x).map DV.str)=(M1 P x).map DV.str:=A0I (by simp);have ne0:=P0 0 1 id c (c+1) (by omega);cases hth:(I4 k).thn with
 | false =>
  rw [hth] at hR;rw [if_neg A1Y] at hR;repeat' ((with_reducible first|refine wr ?_|refine A2 ?_ ?_|fail)<;>try simp only [go_sem,seval,hth,ne0,A0])
  refine C4 (E1 (by simp) (by omega) (by omega)) ?_;simp only [go_sem,seval,ne0,A0];repeat' ((with_reducible first|refine wr ?_|refine A2 ?_ ?_|fail)<;>try simp only [go_sem,seval,ne0,A0])
  have e1:R.length=l.length+1:=by rw [hR];simp
  rw [<- e1];exact ⟨_,nil.upd (c+1) ⟨1,true,R.map DV.str⟩,V6 A0 (fun j hj=>.inl (by rw [A3 hj];rfl)) (by rw [A0,hR];simp),c+1,rfl,rfl⟩
 | true =>
  rw [hth] at hR;rw [if_pos rfl] at hR;repeat' ((with_reducible first|refine wr ?_|refine A2 ?_ ?_|fail)<;>try simp only [go_sem,seval,hth,ne0,A0])
  refine AC.call (hX _ _) ?_;rintro _ _ _ ⟨rfl,rfl,rfl⟩ -;simp only [go_sem,seval,ne0,A0,tk1];refine C4 (E1 (by simp) (by omega) (by omega)) ?_;simp only [go_sem,seval,ne0,A0];have e1:l.length+(M1 P x).length=(l++M1 P x).length:=by simp
  rw [e1];refine IW.weaken (W5 (l:=[(1,.ptr 0 0),(3,.slc (c+1) 0 (l++M1 P x).length)]) ⟨rfl,rfl,trivial⟩) ?_ (c_psE k n t a x y p P hY hS hb2 hb3 (l++M1 P x) R (c+1) _ (by omega) (by omega) (by simp;omega) (by rw [hR,A0V]));intro j b hj;by_cases e:j=c+1
  ·subst e;rw [A0] at hj ⊢;rw [<- hj,A0M]
  ·rw [A3 e] at hj ⊢;by_cases e0:j=0
   ·subst e0;rw [A0] at hj;rw [<- hj];simp only [Hp.del];rw [if_neg (by omega),A3 (by omega),A3 (by omega),A3 (by omega),A0]
   ·rw [A3 e0] at hj;cases hj
theorem c_psC (k:Int) (n t:List UInt8) (a:List Ex) (x y:List Pb.St) (p:Int) (P:Pb.St->List (List UInt8)) (hX:OwL 59 [F1 x] (M1 P x)) (hY:OwL 59 [F1 y] (M1 P y))
  (hS:∀ s,y=[s]->OwL 102 [s.v] (P s)) (hb1:(M1 P x).length<=1000000000) (hb2:(M1 P y).length<=1000000000) (hb3:∀ s,y=[s]->(P s).length<=1000000000)
  (hE:∀ e∈a,OwL 65 [e.v] (txT (exT e))) (ha:a.length<=1000)
  (l R:List (List UInt8)) (id c:Nat) (hid:2<=id) (hc:id<c) (hRl:R.length<=1000000000) (hR:R=l++(agI 0 a++A6l P k x y)) :
  IW Tryz.prog 107 (pz Tryz.prog 102 (.i (.o (.o (.i .h))))) ⟨(tm [(1,.ptr 0 0),(3,.slc id 0 l.length),(4,.ptr 1 0)]),(((nil.upd 0 (B3g k n t a x y p)).upd 1 (B5l (I4 k))).upd id ⟨1,true,l.map DV.str⟩),c⟩ (rt [.tmp 2] fun v H' c' => ∃ v2 H2,GL H' [v] H2 [v2]/\∃ id,v2=.slc id 0 R.length/\H2=nil.upd id ⟨1,true,R.map DV.str⟩):=by
 have ne0:=V4 0 1 id c (by omega);repeat' ((with_reducible first|refine wr ?_|refine A2 ?_ ?_|fail)<;>try simp only [go_sem,seval,ne0,A0])
 refine A1v (fun q:Nat × Nat × List (List UInt8)=>[(1,.ptr 0 0),(3,.slc q.2.1 0 q.2.2.length),(4,.ptr 1 0),(44,H3 a),(45,I64 a.length),(46,I64 q.1)]) (fun q=>((nil.upd 0 (B3g k n t a x y p)).upd 1 (B5l (I4 k))).upd q.2.1 ⟨1,true,q.2.2.map DV.str⟩)
  (fun q cc=>q.1<=a.length/\2<=q.2.1/\q.2.1<cc/\R=q.2.2++(agI q.1 (a.drop q.1)++A6l P k x y)) (fun q=>a.length-q.1) (0,id,l) (fun b=>⟨rfl,rfl,rfl,rfl,rfl,rfl,trivial⟩) (by simp [C9,tm,Tm.upd]) (Sub.refl _) ⟨A0Y _,hid,hc,hR⟩ ?_
 clear ne0 hR hc hid;rintro ⟨i,id,cur⟩ c ⟨hi,hid,hc,hR⟩;simp only at hi hid hc hR;simp only;by_cases hlt:i<a.length
 ·have hd:decide ((i:Int)<a.length)=true:=by simpa using hlt
  have hg:=A0C hlt;have hw:IntKind.i64.wrap ((i:Int)+1)=((i+1:Nat):Int):=by rw [w64 (by omega) (by omega)];omega
  have hP:=hE _ (A0S hlt);rw [A0Z hlt,agI] at hR;obtain ⟨e,he⟩:∃ e,e=a[i]:=⟨_,rfl⟩;rw [<- he] at hg hP hR;have hgm:(a.map Ex.v)[i]? = some e.v:=by rw [A1A,hg];rfl
  rw [Ex.v_w] at hP hgm;have hle:cur.length+(txT (exT e)).length+1<=2000000000:=by
   have:=congrArg List.length hR;simp only [A0A] at this;omega
  have tk:List.take (txT (exT e)).length ((txT (exT e)).map DV.str)=(txT (exT e)).map DV.str:=A0I (by simp);have ne0:=D0l 0 1 id c (c+1) (c+1+1) (c+1+1+1) (by omega);by_cases h0:0<i
  ·have hp:decide ((i:Int)>0)=true:=by simpa using h0
   rw [if_pos h0] at hR;repeat' ((with_reducible first|refine wr ?_|refine A2 ?_ ?_|fail)<;>try simp only [go_sem,seval,ne0,A0,hd,hgm,hp,hw])
   refine C4 (E1 (by simp) (by omega) (by omega)) ?_;simp only [go_sem,seval,ne0,A0];repeat' ((with_reducible first|refine wr ?_|refine A2 ?_ ?_|fail)<;>try simp only [go_sem,seval,ne0,A0,hw])
   refine AC.call (hP _ _) ?_;rintro _ _ _ ⟨rfl,rfl,rfl⟩ -;simp only [go_sem,seval,ne0,A0,tk];refine C4 (E1 (by simp) (by omega) (by omega)) ?_;simp only [go_sem,seval,ne0,A0];repeat' ((with_reducible first|refine wr ?_|refine A2 ?_ ?_|fail)<;>try simp only [go_sem,seval,ne0,A0,hw])
   have e1:cur.length+1+(txT (exT e)).length=(cur++([44] :: txT (exT e))).length:=by simp;try omega
   rw [e1];refine ⟨(i+1,c+1+1+1+1,cur++([44] :: txT (exT e))),⟨rfl,rfl⟩,GL.less fun j=>?_,inv ⟨hlt,by simp only;omega,by simp only;omega,by simp only;rw [hR];simp⟩,by simp only;omega⟩;by_cases e:j=c+1+1+1+1
   ·subst e;right;rw [A0,A0];simp
   ·by_cases e2:j=0\/j=1
    ·right;rcases e2 with rfl|rfl<;>(rw [A3 e,A3 e];simp only [Hp.upd,Hp.del,ne0,if_true,if_false])
    ·left;rw [A3 e,A3 (by omega),A3 (by omega)];rfl
  ·have hp:decide ((i:Int)>0)=false:=by simpa using h0
   rw [if_neg h0] at hR;repeat' ((with_reducible first|refine wr ?_|refine A2 ?_ ?_|fail)<;>try simp only [go_sem,seval,ne0,A0,hd,hgm,hp,hw])
   refine AC.call (hP _ _) ?_;rintro _ _ _ ⟨rfl,rfl,rfl⟩ -;simp only [go_sem,seval,ne0,A0,tk];refine C4 (E1 (by simp) (by omega) (by omega)) ?_;simp only [go_sem,seval,ne0,A0];repeat' ((with_reducible first|refine wr ?_|refine A2 ?_ ?_|fail)<;>try simp only [go_sem,seval,ne0,A0,hw])
   have e1:cur.length+(txT (exT e)).length=(cur++txT (exT e)).length:=by simp;try omega
   rw [e1];refine ⟨(i+1,c+1+1,cur++txT (exT e)),⟨rfl,rfl⟩,GL.less fun j=>?_,inv ⟨hlt,by simp only;omega,by simp only;omega,by simp only;rw [hR];simp⟩,by simp only;omega⟩;by_cases e:j=c+1+1
   ·subst e;right;rw [A0,A0];simp
   ·by_cases e2:j=0\/j=1
    ·right;rcases e2 with rfl|rfl<;>(rw [A3 e,A3 e];simp only [Hp.upd,Hp.del,ne0,if_true,if_false])
    ·left;rw [A3 e,A3 (by omega),A3 (by omega)];rfl
 ·have hd:decide ((i:Int)<a.length)=false:=by simpa using hlt
  rw [A1P (by omega),agI,List.nil_append] at hR;repeat' ((with_reducible first|refine F9 (p:=IW _ _ (pz Tryz.prog 102 (.o (.o (.o (.o (.i .h)))))) _ _) ?_|refine wr ?_|refine A2 ?_ ?_|fail)<;>try simp only [go_sem,seval,hd])
  unfold X3;exact IW.weaken (W5 (l:=[(1,.ptr 0 0),(3,.slc id 0 cur.length),(4,.ptr 1 0)]) ⟨rfl,rfl,rfl,trivial⟩) (Sub.refl _) (c_psD k n t a x y p P hX hY hS hb1 hb2 hb3 cur R id c hid hc (by have:=congrArg List.length hR;simp only [A0A] at this;omega) hR)
theorem c_psB (k:Int) (n t:List UInt8) (a:List Ex) (x y:List Pb.St) (p:Int) (P:Pb.St->List (List UInt8)) (hX:OwL 59 [F1 x] (M1 P x)) (hY:OwL 59 [F1 y] (M1 P y))
  (hS:∀ s,y=[s]->OwL 102 [s.v] (P s)) (hb1:(M1 P x).length<=1000000000) (hb2:(M1 P y).length<=1000000000) (hb3:∀ s,y=[s]->(P s).length<=1000000000)
  (hE:∀ e∈a,OwL 65 [e.v] (txT (exT e))) (ha:a.length<=1000) (ht:t.length<=1000)
  (l R:List (List UInt8)) (id c:Nat) (hid:2<=id) (hc:id<c) (hRl:R.length<=1000000000) (hR:R=l++(txL k t++(agI 0 a++A6l P k x y))) :
  IW Tryz.prog 107 (pz Tryz.prog 102 (.i (.i (.o (.o .h))))) ⟨(tm [(1,.ptr 0 0),(3,.slc id 0 l.length),(4,.ptr 1 0)]),(((nil.upd 0 (B3g k n t a x y p)).upd 1 (B5l (I4 k))).upd id ⟨1,true,l.map DV.str⟩),c⟩ (rt [.tmp 2] fun v H' c' => ∃ v2 H2,GL H' [v] H2 [v2]/\∃ id,v2=.slc id 0 R.length/\H2=nil.upd id ⟨1,true,R.map DV.str⟩):=by
 have hq:=c_Quote t (by omega);have hl:l.length<=1000000000:=by
  have:=congrArg List.length hR;simp only [A0A] at this;omega
 unfold txL at hR;have ne0:=P0 0 1 id c (c+1) (by omega);cases htx:(I4 k).text with
 | false =>
  rw [htx,if_neg A1Y,List.nil_append] at hR;repeat' ((with_reducible first|refine F9 (p:=IW _ _ (pz Tryz.prog 102 (.i (.o (.o (.i .h))))) _ _) ?_|refine wr ?_|refine A2 ?_ ?_|fail)<;>try simp only [go_sem,seval,ne0,A0,htx])
  unfold X3;exact IW.weaken (W5 (l:=[(1,.ptr 0 0),(3,.slc id 0 l.length),(4,.ptr 1 0)]) ⟨rfl,rfl,rfl,trivial⟩) (Sub.refl _) (c_psC k n t a x y p P hX hY hS hb1 hb2 hb3 hE ha l R id c hid hc hRl hR)
 | true =>
  rw [htx,if_pos rfl] at hR;repeat' ((with_reducible first|refine F9 (p:=IW _ _ (pz Tryz.prog 102 (.i (.o (.o (.i .h))))) _ _) ?_|refine wr ?_|refine cpc hq ?_|refine A2 ?_ ?_|fail)<;>try simp only [go_sem,seval,ne0,A0,htx])
  refine C4 (E1 (by simp) (by omega) (by omega)) ?_;simp only [go_sem,seval,ne0,A0];repeat' ((with_reducible first|refine F9 (p:=IW _ _ (pz Tryz.prog 102 (.i (.o (.o (.i .h))))) _ _) ?_|refine wr ?_|refine A2 ?_ ?_|fail)<;>try simp only [go_sem,seval,ne0,A0])
  unfold X3;have e1:l.length+2=(l++[T2 t,[44]]).length:=by simp
  rw [e1];refine IW.weaken (W5 (l:=[(1,.ptr 0 0),(3,.slc (c+1) 0 (l++[T2 t,[44]]).length),(4,.ptr 1 0)]) ⟨rfl,rfl,rfl,trivial⟩) ?_ (c_psC k n t a x y p P hX hY hS hb1 hb2 hb3 hE ha (l++[T2 t,[44]]) R (c+1) _ (by omega) (by omega) hRl (by rw [hR];simp));intro j b hj;by_cases e:j=c+1
  ·subst e;rw [A0] at hj ⊢;rw [<- hj];simp
  ·rw [A3 e] at hj ⊢;by_cases e2:j=0\/j=1
   ·rw [<- hj];rcases e2 with rfl|rfl<;>simp only [Hp.upd,Hp.del,ne0,if_true,if_false]
   ·rw [A3 (by omega),A3 (by omega)] at hj;cases hj
theorem c_psA (k:Int) (n t:List UInt8) (a:List Ex) (x y:List Pb.St) (p:Int) (P:Pb.St->List (List UInt8)) (hX:OwL 59 [F1 x] (M1 P x)) (hY:OwL 59 [F1 y] (M1 P y))
  (hS:∀ s,y=[s]->OwL 102 [s.v] (P s)) (hb1:(M1 P x).length<=1000000000) (hb2:(M1 P y).length<=1000000000) (hb3:∀ s,y=[s]->(P s).length<=1000000000)
  (hE:∀ e∈a,OwL 65 [e.v] (txT (exT e))) (ha:a.length<=1000) (ht:t.length<=1000) (hRl:(psL P (.mk k n t a x y p)).length<=1000000000) :
  OwL 102 [(Pb.St.mk k n t a x y p).v] (psL P (.mk k n t a x y p)):=by
 have hsh:PC Tryz.prog 153 [I64 k] (.tup [.agg [.bool (I4 k).name,.bool (I4 k).text,I64 (I4 k).args,.bool (I4 k).thn,.bool (I4 k).els],.bool (C2d k)]):=c_shapeOf k;have hwd:=c_wordOf k;refine OwL.of (by simp [DV.nlL,DV.nl,St.nl]) ?_;refine AC.bodyT B1 rfl (A0B rfl) fun hfr=>?_;rw [Pb.St.v_w];dsimp only [Pb.St.w,Pb.St.kind,Pb.St.name,Pb.St.text,Pb.St.args,Pb.St.thn,Pb.St.els,Pb.St.pos];obtain ⟨R,hR⟩:∃ R,R=psL P (.mk k n t a x y p):=⟨_,rfl⟩;rw [<- hR] at hRl ⊢;rw [psL] at hR;unfold hdL at hR;by_cases h1:k=1
 ·have d1:(k == 1)=true:=by simpa using h1
  rw [if_pos h1] at hR;repeat' ((with_reducible first|refine F9 (p:=IW _ _ (pz Tryz.prog 102 (.i (.i (.o (.o .h))))) _ _) ?_|refine wr ?_|refine cpc hsh ?_|refine cpc hwd ?_|refine A2 ?_ ?_|fail)<;>try simp only [go_sem,seval,d1])
  refine C4 (A1r (by decide) (by decide) (by decide)) ?_;simp only [go_sem,seval,A0];repeat' ((with_reducible first|refine F9 (p:=IW _ _ (pz Tryz.prog 102 (.i (.i (.o (.o .h))))) _ _) ?_|refine wr ?_|refine A2 ?_ ?_|fail)<;>try simp only [go_sem,seval])
  unfold X3;refine IW.weaken (W5 (l:=[(1,.ptr 0 0),(3,.slc 3 0 ([n,[61]]).length),(4,.ptr 1 0)]) ⟨rfl,rfl,rfl,trivial⟩) ?_ (c_psB k n t a x y p P hX hY hS hb1 hb2 hb3 hE ha ht ([n,[61]]) R 3 _ (by decide) (by decide) hRl hR);intro j b hj;by_cases e:j=3
  ·subst e;rw [A0] at hj ⊢;exact hj
  ·rw [A3 e] at hj ⊢;by_cases e2:j=0\/j=1
   ·rw [<- hj];rcases e2 with rfl|rfl<;>first|rfl|(unfold B5l;rw [hnm];rfl)
   ·rw [A3 (by omega),A3 (by omega)] at hj;cases hj
 ·have d1:(k == 1)=false:=by simpa using h1
  rw [if_neg h1] at hR;repeat' ((with_reducible first|refine F9 (p:=IW _ _ (pz Tryz.prog 102 (.i (.i (.o (.o .h))))) _ _) ?_|refine wr ?_|refine cpc hsh ?_|refine cpc hwd ?_|refine A2 ?_ ?_|fail)<;>try simp only [go_sem,seval,d1])
  refine C4 (A1r (by decide) (by decide) (by decide)) ?_;simp only [go_sem,seval,A0];cases hnm:(I4 k).name with
  | false =>
   rw [hnm,if_neg A1Y] at hR;repeat' ((with_reducible first|refine F9 (p:=IW _ _ (pz Tryz.prog 102 (.i (.i (.o (.o .h))))) _ _) ?_|refine wr ?_|refine A2 ?_ ?_|fail)<;>try simp only [go_sem,seval,hnm,A0])
   unfold X3;refine IW.weaken (W5 (l:=[(1,.ptr 0 0),(3,.slc 3 0 ([R8 B7 Z9 k]).length),(4,.ptr 1 0)]) ⟨rfl,rfl,rfl,trivial⟩) ?_ (c_psB k n t a x y p P hX hY hS hb1 hb2 hb3 hE ha ht ([R8 B7 Z9 k]) R 3 _ (by decide) (by decide) hRl hR);intro j b hj;by_cases e:j=3
   ·subst e;rw [A0] at hj ⊢;exact hj
   ·rw [A3 e] at hj ⊢;by_cases e2:j=0\/j=1
    ·rw [<- hj];rcases e2 with rfl|rfl<;>first|rfl|(unfold B5l;rw [hnm];rfl)
    ·rw [A3 (by omega),A3 (by omega)] at hj;cases hj
  | true =>
   rw [hnm,if_pos rfl] at hR;repeat' ((with_reducible first|refine F9 (p:=IW _ _ (pz Tryz.prog 102 (.i (.i (.o (.o .h))))) _ _) ?_|refine wr ?_|refine A2 ?_ ?_|fail)<;>try simp only [go_sem,seval,hnm,A0])
   refine C4 (E1 rfl (by decide) (by decide)) ?_;simp only [go_sem,seval,A0];repeat' ((with_reducible first|refine F9 (p:=IW _ _ (pz Tryz.prog 102 (.i (.i (.o (.o .h))))) _ _) ?_|refine wr ?_|refine A2 ?_ ?_|fail)<;>try simp only [go_sem,seval])
   unfold X3;refine IW.weaken (W5 (l:=[(1,.ptr 0 0),(3,.slc 5 0 ([R8 B7 Z9 k,n]).length),(4,.ptr 1 0)]) ⟨rfl,rfl,rfl,trivial⟩) ?_ (c_psB k n t a x y p P hX hY hS hb1 hb2 hb3 hE ha ht ([R8 B7 Z9 k,n]) R 5 _ (by decide) (by decide) hRl hR);intro j b hj;by_cases e:j=5
   ·subst e;rw [A0] at hj ⊢;exact hj
   ·rw [A3 e] at hj ⊢;by_cases e2:j=0\/j=1
    ·rw [<- hj];rcases e2 with rfl|rfl<;>first|rfl|(unfold B5l;rw [hnm];rfl)
    ·rw [A3 (by omega),A3 (by omega)] at hj;cases hj
theorem A3b {d:Nat}:∀ {l:List Pb.St},M5 d l=true->∀ s∈l,S5 d s=true
 | [],_,s,hs=>by cases hs
 | a :: l,h,s,hs=>by
  rw [M5,A0D] at h;rcases A1S.1 hs with rfl|hs
  ·exact h.1
  ·exact A3b h.2 s hs
theorem c_pblkT (l:List Pb.St) (hl:l.length<=4000000) (hP:∀ s∈l,OwL 102 [s.v] (txT (stT s))) (hB:Pb.St.szs l<=4000000):OwL 59 [F1 l] (txT (blT l)):=by
 rw [B4s];refine c_pblk _ l hl hP ?_;rw [<- A7d];have:=A2n l;unfold txT;rw [A0G];omega
theorem c_prStmt:∀ (m:Nat) (s:Pb.St) (d:Nat),s.sz<m->s.sz<=4000000->S5 d s=true->OwL 102 [s.v] (txT (stT s)):=by
 intro m
 induction m with
 | zero=>intro s d h;omega
 | succ m ih =>
 intro s d hm hB hv;have hps:=D3v hv;have hlen:=(A3e s).2;obtain ⟨k,n,t,a,x,y,p⟩:=s;have hv2:=hv;unfold S5 at hv2;simp only [A0D,A0H,A1F] at hv2;obtain ⟨⟨⟨⟨⟨k1,k2⟩,⟨ha,hE⟩⟩,⟨hn,ht⟩⟩,⟨hx,hy⟩⟩,⟨⟨⟨hx1,hx2⟩,hx3⟩,⟨⟨hy1,hy2⟩,hy3⟩⟩⟩:=hv2;have hsz:Pb.St.szs x+Pb.St.szs y+Ex.szs a+t.length<(Pb.St.mk k n t a x y p).sz:=by rw [Pb.St.sz];omega
 have hPx:∀ s∈x,OwL 102 [s.v] (txT (stT s)):=fun s hs=>ih s (d+1) (by have:=Pb.St.szs_mem hs;omega) (by have:=Pb.St.szs_mem hs;omega) (A3b hx3 s hs);have hPy:∀ s∈y,OwL 102 [s.v] (txT (stT s)):=fun s hs=>ih s (d+1) (by have:=Pb.St.szs_mem hs;omega) (by have:=Pb.St.szs_mem hs;omega) (A3b hy3 s hs);have hX:=c_pblkT x (by omega) hPx (by omega);have hY:=c_pblkT y (by omega) hPy (by omega);rw [B4s] at hX hY;have bl:∀ l:List Pb.St,Pb.St.szs l<=4000000->(M1 (fun s=>txT (stT s)) l).length<=1000000000:=fun l h=>by
  rw [<- B4s];have:=(A3o l).2;unfold txT;rw [A0G];omega
 have har:a.length<=1000:=by
  rw [ha];unfold I4;repeat' split
  all_goals decide
 have htl:t.length<=1000:=by
  by_cases hc:(I4 k).text=true
  ·rw [if_pos hc] at ht;unfold R0 at ht;simp only [A0D,A0H] at ht;omega
  ·rw [if_neg hc] at ht;rw [A1F.1 ht];simp
 rw [<- hps];refine c_psA k n t a x y p _ hX hY (fun s hs=>hPy s (by rw [hs];simp)) (bl x (by omega)) (bl y (by omega)) (fun s hs=>?_) (fun e he=>?_) har htl (by rw [hps];unfold txT;rw [A0G];omega)
 ·have:=(A3e s).2;unfold txT;rw [A0G];have h2:=Pb.St.szs_mem (l:=y) (x:=s) (by rw [hs];simp);omega
 ·exact c_printed _ e (A2R _) (by have:=Ex.szs_mem he;omega) (C7e (A0P.1 hE e he))
theorem c_RFormat (r:Ru) (hB:r.sz<=3000000):PC Tryz.prog 26 [r.v] (.str (B2b r)):=by
 have hF:=C6i r;unfold B2b;have hv:=c_ValidR31 r (by omega);rw [B6s] at hv;have hlen:=B1g r;have hT:=c_rulesT r (by omega) (by omega);refine PC.ofT B1 rfl (A0B rfl) (by simp [DV.nlL,DV.nl,M8,M7]) rfl ?_;cases hb:Y5 r with
 | false =>
  rw [hb] at hv;rw [if_neg A1Y];repeat' ((with_reducible first|refine wr ?_|refine cpc hv ?_|refine A2 ?_ ?_|fail)<;>try simp only [go_sem,seval])
  exact B3 rfl
 | true =>
  rw [hb] at hv;rw [if_pos rfl, <- C9g hb];repeat' ((with_reducible first|refine wr ?_|refine cpc hv ?_|refine cpc hT ?_|refine A2 ?_ ?_|fail)<;>try simp only [go_sem,seval])
  have hl:(ruT r).length<=80000000:=by omega
  obtain ⟨L,hL⟩:∃ L,L=ruT r:=⟨_,rfl⟩;rw [<- hL] at hF hl ⊢;have hR:=B7g hF;clear hT hv hlen;refine D8 (fun q:Nat × List UInt8=>[(3,.str q.2),(4,E4 L),(5,I64 q.1)]) (fun _=>nil)
   (fun q cc=>q.1<=L.length/\rfm L=q.2++rfm (L.drop q.1)) (fun q=>L.length-q.1) (0,[]) (by simp [C9,tm,Tm.upd]) (Sub.nil _) ⟨by simp,by simp⟩ ?_
  rintro ⟨i,cur⟩ c ⟨hi,hI⟩;simp only at hi hI;simp only;by_cases hlt:i<L.length
  ·have hd:decide ((i:Int)<L.length)=true:=by simpa using hlt
   have hg:=A0C hlt;have hw:IntKind.i64.wrap ((i:Int)+1)=((i+1:Nat):Int):=by rw [w64 (by omega) (by omega)];omega
   have hf:=hF _ (A0S hlt);rw [A0Z hlt,rfm] at hI;obtain ⟨t,ht⟩:∃ t,t=L[i]:=⟨_,rfl⟩;rw [<- ht] at hg hf hI;have hgm:(L.map Tok.v)[i]? = some t.v:=by rw [A1A,hg];rfl
   have ho:=c_OneR t hf;have hcl:cur.length+(J7 t).length+1<=maxLen:=by
    have h1:=congrArg List.length hI;simp only [A0A] at h1;have:maxLen=9223372036854775807:=rfl;omega
   have a0:binR .add (.str cur) (.str (J7 t))=some (.str (cur++J7 t)):=A4e (by omega);have a1:binR .add (.str (cur++J7 t)) (.str [10])=some (.str (cur++J7 t++[10])):=A4e (by simp;omega);have a2:binR .add (.str (cur++J7 t)) (.str [32])=some (.str (cur++J7 t++[32])):=A4e (by simp;omega);have key:∀ (z:List UInt8),(if A2l t=true then [10] else if L.drop (i+1)=[] then [] else [32])=z->rfm L=(cur++J7 t++z)++rfm (L.drop (i+1)):=fun z hz=>by rw [hI,hz];simp
   by_cases hnx:i+1<L.length
   ·have hd2:decide (((i+1:Nat):Int)<L.length)=true:=by simp;omega
    have hne:¬ L.drop (i+1)=[]:=by simp;omega
    rw [if_neg hne] at key;repeat' ((with_reducible first|refine wr ?_|refine cpc ho ?_|refine A2 ?_ ?_|refine wb2 ?_ ?_<;>(intro hb;try simp only [hb])|fail)<;>try simp only [go_sem,seval,hd,hgm,hw,a0,a1,a2,hd2])
    all_goals first
     | exact ⟨(i+1,cur++J7 t++[10]),⟨rfl,rfl⟩,Sub.refl _,inv ⟨hlt,key [10] (by unfold A2l;simp_all)⟩,by simp only;omega⟩
     | exact ⟨(i+1,cur++J7 t++[32]),⟨rfl,rfl⟩,Sub.refl _,inv ⟨hlt,key [32] (by unfold A2l;simp_all)⟩,by simp only;omega⟩
     | exact ⟨(i+1,cur++J7 t),⟨rfl,rfl⟩,Sub.refl _,inv ⟨hlt,by have:=key [] (by unfold A2l;simp_all);simpa using this⟩,by simp only;omega⟩
   ·have hd2:decide (((i+1:Nat):Int)<L.length)=false:=by simp;omega
    have hne:L.drop (i+1)=[]:=by simp;omega
    rw [if_pos hne] at key;repeat' ((with_reducible first|refine wr ?_|refine cpc ho ?_|refine A2 ?_ ?_|refine wb2 ?_ ?_<;>(intro hb;try simp only [hb])|fail)<;>try simp only [go_sem,seval,hd,hgm,hw,a0,a1,a2,hd2])
    all_goals first
     | exact ⟨(i+1,cur++J7 t++[10]),⟨rfl,rfl⟩,Sub.refl _,inv ⟨hlt,key [10] (by unfold A2l;simp_all)⟩,by simp only;omega⟩
     | exact ⟨(i+1,cur++J7 t++[32]),⟨rfl,rfl⟩,Sub.refl _,inv ⟨hlt,key [32] (by unfold A2l;simp_all)⟩,by simp only;omega⟩
     | exact ⟨(i+1,cur++J7 t),⟨rfl,rfl⟩,Sub.refl _,inv ⟨hlt,by have:=key [] (by unfold A2l;simp_all);simpa using this⟩,by simp only;omega⟩
  ·have hd:decide ((i:Int)<L.length)=false:=by simpa using hlt
   rw [A1P (by omega),rfm,A1J] at hI;repeat' ((with_reducible first|refine wr ?_|refine A2 ?_ ?_|fail)<;>try simp only [go_sem,seval,hd])
   rw [hI];exact B3 rfl
end Go.Proofs.YthlpinppaclofaaGreatDoor
namespace Go.Pb
variable [Go.Sym.Tab]
open Go.Sym
def dcL (d:Dc):List (List UInt8):=[D1.getD (d.kind-1).toNat [],d.name]++((if d.kind<7 then (if d.value<0 then [[45]] else [])++[M0 (if d.value<0 then -d.value else d.value)] else [])++[[59]])
theorem B4r {v:Int} (h1:0<=v) (h2:v<=2147483647):txT (P8 v)=[M0 v]:=by
 unfold P8;rw [if_neg (by omega)];rfl
theorem D5z {d:Dc} (h:A0p d=true):txT (dcT d)=dcL d:=by
 unfold A0p at h;simp only [A0D,A0H] at h;obtain ⟨⟨⟨⟨k1,k2⟩,hn⟩,v1⟩,v2⟩:=h;unfold dcT dcL;rw [if_neg (by omega)];dsimp only;by_cases h6:6<d.kind
 ·rw [if_pos h6,if_neg (show ¬ d.kind<7 by omega)];simp [G2,K9,P7,S6 hn]
 ·rw [if_neg h6,if_pos (show d.kind<7 by omega)];have v2':d.value<=2147483647:=by split at v2<;>omega
  by_cases hv:d.value<0
  ·have hk:d.kind=6:=by split at v1<;>omega
   have v1' : -2147483647<=d.value:=by rw [if_pos hk] at v1;exact v1
   rw [if_pos (show d.value<0 /\ -2147483647<=d.value/\d.kind=6 from ⟨hv,v1',hk⟩),if_pos hv,if_pos hv];simp [G2,K9,P7,S6 hn,B4r (v := -d.value) (by omega) (by omega)]
  ·rw [if_neg (show ¬ (d.value<0 /\ -2147483647<=d.value/\d.kind=6) from fun hc=>hv hc.1),if_neg hv,if_neg hv];simp [G2,K9,P7,S6 hn,B4r (v:=d.value) (by omega) v2']
def B6f (h:Hd):List (List UInt8):=[[111,110],D3.getD (h.trig-1).toNat []]++((if 3<=h.trig then [h.name] else [])++txT (blT h.body))
theorem D4y {h:Hd} (hv:X4 h=true):txT (hdT h)=B6f h:=by
 unfold X4 at hv;simp only [A0D,A0H] at hv;obtain ⟨⟨⟨k1,k2⟩,hn⟩, -⟩:=hv;unfold hdT B6f;by_cases h3:3<=h.trig
 ·rw [if_pos h3] at hn;rw [if_pos (by omega),if_pos h3];simp [G2,K9,P7,S6 hn]
 ·rw [if_neg (by omega),if_neg h3];simp [G2,K9,P7]
def mdL (m:Md):List (List UInt8):=[[109,111,100,101],m.name,M0 m.prio,[123]]++(m.hds.flatMap B6f++[[125]])
theorem A7p {α : Type} {f : α -> List Tok} {g : α -> List (List UInt8)}:∀ {l:List α},(∀ x∈l,txT (f x)=g x)->txT (l.flatMap f)=l.flatMap g
 | [],_=>rfl
 | a :: l,h=>by
  rw [A1E,A1E,G2,h a A0K,A7p fun x hx=>h x (A0J _ hx)]
theorem D4b {m:Md} (hv:U8 m=true):txT (mdT m)=mdL m:=by
 unfold U8 at hv;simp only [A0D,A0H] at hv;obtain ⟨⟨⟨⟨hn,p1⟩,p2⟩, -⟩,hh⟩:=hv;unfold mdT mdL;have hf:=A7p (l:=m.hds) (f:=hdT) (g:=B6f) fun h hm=>D4y (A0P.1 hh h hm);simp [G2,K9,P7,S6 hn,B4r p1 p2,hf]
theorem D2t {r:Ru} (h:Y5 r=true):txT (ruT r)=r.decls.flatMap dcL++r.modes.flatMap mdL:=by
 have h0:=h;unfold Y5 at h;simp only [A0D,A0H] at h;obtain ⟨⟨-,h1⟩,h2⟩:=h;unfold ruT;rw [if_neg,G2,A7p fun d hd=>D5z (A0P.1 h1 d hd),A7p fun m hm=>D4b (A0P.1 h2 m hm)];intro hb;obtain ⟨m,hm,hb⟩:=A3O.1 hb;obtain ⟨g,hg,hb⟩:=A3O.1 hb;have h3:=A0P.1 h2 m hm;unfold U8 at h3;simp only [A0D] at h3;have h4:=A0P.1 h3.2 g hg;unfold X4 at h4;simp only [A0D,A0H] at h4;unfold T9 at hb;simp only [A0X,A0H] at hb;omega
def ShT (t:Tok):Prop:=(J7 t).length<=1000
theorem C4i:ShT M6:=by show (J7 M6).length<=1000;rw [show J7 M6=[] from rfl];simp
theorem D2d:Clo ShT:=⟨fun t ht=>by obtain rfl:=A0N.1 ht;exact C4i,fun x h t ht=>by
  obtain rfl:=A0N.1 ht;unfold ShT;rw [L7];omega,fun x t ht=>by
  unfold D4 at ht;by_cases h:C8 x=false
  ·rw [if_pos h] at ht;obtain rfl:=A0N.1 ht;exact C4i
  ·rw [if_neg h] at ht;obtain rfl:=A0N.1 ht;have h1:C8 x=true:=by cases hx:C8 x with|true=>rfl|false=>exact absurd hx h
   unfold C8 at h1;simp only [A0D,A0H] at h1;show x.length<=1000;omega,fun x t ht=>by
  unfold P8 at ht;split at ht
  ·obtain rfl:=A0N.1 ht;exact C4i
  ·obtain rfl:=A0N.1 ht;have:=A5j (n:=x) (by omega) (by omega);show (M0 x).length<=1000;omega,fun x t ht=>by
  unfold S8 at ht;split at ht
  ·obtain rfl:=A0N.1 ht;exact C4i
  ·rename_i hc;obtain rfl:=A0N.1 ht;have h2:¬ 32<x.length:=fun h=>hc (.inr h);have:=A9y x;show (T2 x).length<=1000;omega⟩
theorem C9b (r:Ru):∀ t∈txT (ruT r),t.length<=100000:=fun t ht=>by
 obtain ⟨x,hx,rfl⟩:=A1M.1 ht;have:(J7 x).length<=1000:=C0y D2d r x hx;omega
end Go.Pb
namespace Go.Proofs.YthlpinppaclofaaGreatDoor
open Go.Eng (IC IOper DReg IFn C2)
open Go.Sym Go.Pb
theorem c_fmZ (R:List (List UInt8)) (o:Option Nat) (c:Nat) (ho:∀ i,o=some i->i<c) (hn:o=none->R=[]) (hl:R.length<=1000000000) (hb:∀ t∈R,t.length<=100000) :
  IW Tryz.prog 105 (pz Tryz.prog 25 (.o (.o (.o (.i (.i (.o .h))))))) ⟨tm [(3,B6 o R.length)],C5 Sym.nil o ⟨1,true,R.map DV.str⟩,c⟩ (rt [.tmp 2] fun v H' _ => ∃ H2,GL H' [v] H2 [.str (R7 R)]):=by
 have hL:=c_lines R hl hb;rcases o with _|id
 ·obtain rfl:=hn rfl;repeat' ((with_reducible first|refine wr ?_|refine A2 ?_ ?_|fail)<;>try simp only [go_sem,seval])
  refine AC.call (hL.give (H0:=Sym.nil) ⟨fun _ h=>h,fun ρ w vs h1 h2=>⟨ρ,rfl,h1,?_,Ext.refl _ _ _⟩⟩) ?_
  ·exact ⟨h2.1,fun i x y hx hy=>by
    match i with
    | 0=>cases hx;exact (h2.2 0 _ y rfl hy).snil_lst
    | _+1=>cases hx⟩
  ·rintro v H' c' ⟨rfl,rfl,rfl⟩ -;simp only [go_sem,seval];repeat' ((with_reducible first|refine wr ?_|refine A2 ?_ ?_|fail)<;>try simp only [go_sem,seval])
   exact B3 rfl
 ·repeat' ((with_reducible first|refine wr ?_|refine A2 ?_ ?_|fail)<;>try simp only [go_sem,seval])
  refine AC.call (hL.give (H0:=Sym.nil) (GL.one (id:=id) A0 rfl (.cons _ _ _ _ (N7 (u:=1) (by rw [A0G]) (J1 _) ⟨[],by rw [A2v];simp⟩) .nil))) ?_;rintro v H' c' ⟨rfl,rfl,rfl⟩ -;simp only [go_sem,seval];repeat' ((with_reducible first|refine wr ?_|refine A2 ?_ ?_|fail)<;>try simp only [go_sem,seval])
  exact B3 rfl
abbrev B1h (ds:List Dc) (ms:List Md):Blk:=⟨0,true,[E8 ds,G6 ms]⟩
theorem A1k {M:Hp} {x y z c:Nat} {a b B0 Bc:Blk} (h0:M 0=some B0) (hc:M c=some Bc) (h1:0<c) (h2:c<x) (h3:x<y) (h4:y<z) :
  (((M.upd y a).del x).upd z b) 0=some B0/\(((M.upd y a).del x).upd z b) c=some Bc/\(((M.upd y a).del x).upd z b) z=some b:=by
 refine ⟨?_,?_,A0⟩
 ·rw [A3 (by omega)];simp only [Hp.del];rw [if_neg (by omega),A3 (by omega)];exact h0
 ·rw [A3 (by omega)];simp only [Hp.del];rw [if_neg (by omega),A3 (by omega)];exact hc
theorem c_fmD (ds:List Dc) (ms:List Md) (R rest:List (List UInt8)) (hds:ds.length<=1000) (hv:∀ d∈ds,A0p d=true) (hRl:R.length<=1000000000)
  (next:∀ (o:Option Nat) (cur:List (List UInt8)) (c:Nat),(∀ i,o=some i->0<i/\i<c)->(o=none->cur=[])->1<=c->R=cur++rest ->
   IW Tryz.prog 105 (pz Tryz.prog 25 (.o (.o (.i (.i (.o .h)))))) ⟨tm [(1,.ptr 0 0),(3,B6 o cur.length)],C5 (nil.upd 0 (B1h ds ms)) o ⟨1,true,cur.map DV.str⟩,c⟩ (rt [.tmp 2] fun v H' _ => ∃ H2,GL H' [v] H2 [.str (R7 R)]))
  (hR:R=ds.flatMap dcL++rest) :
  IW Tryz.prog 105 (pz Tryz.prog 25 (.i (.o (.i .h)))) ⟨tm [(1,.ptr 0 0),(3,.snil)],nil.upd 0 (B1h ds ms),1⟩ (rt [.tmp 2] fun v H' _ => ∃ H2,GL H' [v] H2 [.str (R7 R)]):=by
 repeat' ((with_reducible first|refine wr ?_|refine A2 ?_ ?_|fail)<;>try simp only [go_sem,seval,A0])
 refine A1v (fun q:Nat × Option Nat × List (List UInt8)=>[(1,.ptr 0 0),(3,B6 q.2.1 q.2.2.length),(14,E8 ds),(15,I64 ds.length),(16,I64 q.1)]) (fun q=>C5 (nil.upd 0 (B1h ds ms)) q.2.1 ⟨1,true,q.2.2.map DV.str⟩)
  (fun q cc=>q.1<=ds.length/\(∀ i,q.2.1=some i->0<i/\i<cc)/\(q.2.1=none->q.2.2=[])/\1<=cc/\R=q.2.2++((ds.drop q.1).flatMap dcL++rest)) (fun q=>ds.length-q.1) (0,none,[]) (fun b=>⟨rfl,rfl,rfl,rfl,rfl,trivial⟩) (by simp [C9,tm,Tm.upd,B6]) (Sub.refl _) ⟨A0Y _,by simp,by simp,by decide,hR⟩ ?_
 clear hR;rintro ⟨i,o,cur⟩ c ⟨hi,ho,hn,hc,hR⟩;simp only at hi ho hn hc hR;simp only;by_cases hlt:i<ds.length
 ·have hd:decide ((i:Int)<ds.length)=true:=by simpa using hlt
  have hg:=A0C hlt;have hw:IntKind.i64.wrap ((i:Int)+1)=((i+1:Nat):Int):=by rw [w64 (by omega) (by omega)];omega
  have hvd:=hv _ (A0S hlt);rw [A0Z hlt,A1E] at hR;obtain ⟨d,hd0⟩:∃ d,d=ds[i]:=⟨_,rfl⟩;rw [<- hd0] at hg hvd hR;have hgm:(ds.map Dc.v)[i]? = some d.v:=by rw [A1A,hg];rfl
  unfold A0p at hvd;simp only [A0D,A0H] at hvd;obtain ⟨⟨⟨⟨k1,k2⟩,hnm⟩,v1⟩,v2⟩:=hvd;obtain ⟨j,hj⟩:∃ j:Nat,d.kind=1+(j:Int):=⟨(d.kind-1).toNat,by omega⟩;have hwj:IntKind.i64.wrap (d.kind-1)=(j:Int):=by rw [w64 (by omega) (by omega)];omega
  have hjn:(d.kind-1).toNat=j:=by omega
  have hgj:(D1.map DV.str)[j]? = some (.str (D1.getD j [])):=by
   rw [A1A,A0T,A0C (show j<D1.length from (by show j<8;omega))];rfl
  rw [dcL,hjn] at hR;generalize D1.getD j []=kw at hgj hR;repeat' ((with_reducible first|refine wr ?_|refine cpc c_pdecls ?_|refine A2 ?_ ?_|fail)<;>try simp only [go_sem,seval,A0,hd,hgm,hw])
  obtain ⟨M,hM⟩:∃ M,M=((C5 (nil.upd 0 (B1h ds ms)) o ⟨1,true,cur.map DV.str⟩).upd c ⟨0,true,[I64 0,.str [],I64 0,I64 0]⟩).upd c ⟨0,true,[I64 d.kind,.str d.name,I64 d.value,I64 d.pos]⟩:=⟨_,rfl⟩;rw [<- hM];have hMn:∀ j,c<j->M j=none:=fun j hj=>by
   rw [hM,A3 (by omega),A3 (by omega)];cases o with
   | none=>rw [C7l,A3 (by omega)];rfl
   | some id=>have:=ho id rfl;rw [A0f,A3 (by omega),A3 (by omega)];rfl
  have hMc:M c=some ⟨0,true,[I64 d.kind,.str d.name,I64 d.value,I64 d.pos]⟩:=by rw [hM];exact A0
  have hM0:M 0=some (B1h ds ms):=by
   rw [hM,A3 (by omega),A3 (by omega)];cases o with
   | none=>exact A0
   | some id=>have:=ho id rfl;rw [A0f,A3 (by omega)];exact A0
  have hMo:∀ id,o=some id->M id=some ⟨1,true,cur.map DV.str⟩:=fun id hid=>by
   subst hid;have:=ho id rfl;rw [hM,A3 (by omega),A3 (by omega),A0f];exact A0
  clear hM;refine ⟨by and_intros<;>exact hMn _ (by omega),?_⟩;simp only [go_sem,seval,hMc,hwj,hgj];have hcl:cur.length<=1000000000:=by
   have:=congrArg List.length hR;simp only [A0A] at this;omega
  refine M9 (E6 (cs:=cur.map DV.str) (fun e=>by rw [hn e];simp) (fun id hid=>by have:=ho id hid;rw [A3 (by omega)];exact hMo id hid) (by simp) (by omega) (by omega) (by omega)) ?_;obtain ⟨x,hx⟩:∃ x,x=c+1+12:=⟨_,rfl⟩;rw [<- hx];obtain ⟨M2,hM2⟩:∃ M2,M2=(K3 (M.upd (c+1+9) ⟨1,true,[.str kw,.str d.name]⟩) o).upd x ⟨1,true,cur.map DV.str++[.str kw,.str d.name]⟩:=⟨_,rfl⟩;rw [<- hM2];have e0:M2 0=some (B1h ds ms):=by
   rw [hM2,A3 (by omega)];cases o with
   | none=>show (M.upd _ _) 0=_;rw [A3 (by omega)];exact hM0
   | some id=>have:=ho id rfl;rw [P4,if_neg (by omega),A3 (by omega)];exact hM0
  have ec:M2 c=some ⟨0,true,[I64 d.kind,.str d.name,I64 d.value,I64 d.pos]⟩:=by
   rw [hM2,A3 (by omega)];cases o with
   | none=>show (M.upd _ _) c=_;rw [A3 (by omega)];exact hMc
   | some id=>have:=ho id rfl;rw [P4,if_neg (by omega),A3 (by omega)];exact hMc
  have el:M2 x=some ⟨1,true,(cur++[kw,d.name]).map DV.str⟩:=by rw [hM2,A0];simp
  clear hM2;have hxc:c<x:=by omega
  clear hx;obtain ⟨l2,hl2⟩:∃ l2,l2=cur++[kw,d.name]:=⟨_,rfl⟩;rw [<- hl2] at el;have hln:cur.length+2=l2.length:=by rw [hl2];simp
  rw [hln];have hl2l:l2.length<=1000000002:=by omega
  have ne0:=P0 0 c x (x+1) (x+1+1) (by omega);by_cases h7:d.kind<7
  ·have d7:decide (d.kind<7)=true:=by simpa using h7
   rw [if_pos h7] at hR;simp only [go_sem,seval,ec,el];by_cases hng:d.value<0
   ·have dn:decide (d.value<0)=true:=by simpa using hng
    have hwn:IntKind.i64.wrap (0-d.value) = -d.value:=by rw [w64 (by omega) (by split at v1<;>omega)];omega
    have hmx:(if -d.value>d.value then -d.value else d.value) = -d.value:=by rw [if_pos (by omega)]
    rw [if_pos hng,if_pos hng] at hR;repeat' ((with_reducible first|refine wr ?_|refine A2 ?_ ?_|fail)<;>try simp only [go_sem,seval,ne0,A0,e0,ec,el,d7,hw,dn,hwn,hmx])
    refine C4 (E1 (by simp) (by omega) (by omega)) ?_;simp only [go_sem,seval,ne0,A0];obtain ⟨f0,fc,f2⟩:=A1k (y:=x+1) (z:=x+1+1) (x:=x) (a:=⟨1,true,[.str [45]]⟩) (b:=⟨1,true,l2.map DV.str++[.str [45]]⟩) e0 ec (by omega) (by omega) (by omega) (by omega);obtain ⟨M3,hM3⟩:∃ M3,M3=((M2.upd (x+1) ⟨1,true,[.str [45]]⟩).del x).upd (x+1+1) ⟨1,true,l2.map DV.str++[.str [45]]⟩:=⟨_,rfl⟩;rw [<- hM3] at f0 fc f2 ⊢;clear hM3 e0 ec;obtain ⟨l3,hl3⟩:∃ l3,l3=l2++[[45]]:=⟨_,rfl⟩;have el3:M3 (x+1+1)=some ⟨1,true,l3.map DV.str⟩:=by rw [f2,hl3];simp
    clear f2;have e0:=f0;have ec:=fc;clear f0 fc;have hl3n:l2.length+1=l3.length:=by rw [hl3];simp
    rw [hl3n];obtain ⟨x3,hx3⟩:∃ x3,x3=x+1+1:=⟨_,rfl⟩;rw [<- hx3] at el3 ⊢;have ne0:=P0 0 c x3 (x3+1) (x3+1+1) (by omega);repeat' ((with_reducible first|refine wr ?_|refine A2 ?_ ?_|fail)<;>try simp only [go_sem,seval,ne0,A0,e0,ec,el3,d7,hw,dn,hwn,hmx])
    refine cpc (c_Itoa (-d.value) (by omega) (by split at v1<;>omega)) ?_;simp only [go_sem,seval,ne0,A0,el3];repeat' ((with_reducible first|refine wr ?_|refine A2 ?_ ?_|fail)<;>try simp only [go_sem,seval,ne0,A0,e0,ec,el3,d7,hw])
    refine C4 (E1 (by simp) (by omega) (by omega)) ?_;simp only [go_sem,seval,ne0,A0];obtain ⟨f0,fc,f2⟩:=A1k (y:=x3+1) (z:=x3+1+1) (x:=x3) (a:=⟨1,true,[.str (M0 (-d.value))]⟩) (b:=⟨1,true,l3.map DV.str++[.str (M0 (-d.value))]⟩) e0 ec (by omega) (by omega) (by omega) (by omega);obtain ⟨M4,hM4⟩:∃ M4,M4=((M3.upd (x3+1) ⟨1,true,[.str (M0 (-d.value))]⟩).del x3).upd (x3+1+1) ⟨1,true,l3.map DV.str++[.str (M0 (-d.value))]⟩:=⟨_,rfl⟩;rw [<- hM4] at f0 fc f2 ⊢;clear hM4 e0 ec;obtain ⟨l4,hl4⟩:∃ l4,l4=l3++[(M0 (-d.value))]:=⟨_,rfl⟩;have el4:M4 (x3+1+1)=some ⟨1,true,l4.map DV.str⟩:=by rw [f2,hl4];simp
    clear f2;have e0:=f0;have ec:=fc;clear f0 fc;have hl4n:l3.length+1=l4.length:=by rw [hl4];simp
    rw [hl4n];obtain ⟨x4,hx4⟩:∃ x4,x4=x3+1+1:=⟨_,rfl⟩;rw [<- hx4] at el4 ⊢;have ne0:=P0 0 c x4 (x4+1) (x4+1+1) (by omega);repeat' ((with_reducible first|refine wr ?_|refine A2 ?_ ?_|fail)<;>try simp only [go_sem,seval,ne0,A0,e0,ec,el4,d7,hw])
    refine C4 (E1 (by simp) (by omega) (by omega)) ?_;simp only [go_sem,seval,ne0,A0];repeat' ((with_reducible first|refine wr ?_|refine A2 ?_ ?_|fail)<;>try simp only [go_sem,seval,ne0,A0,hw])
    have e1:l4.length+1=(l4++[[59]]).length:=by simp
    rw [e1];obtain ⟨f0, -,f2⟩:=A1k (y:=x4+1) (z:=x4+1+1) (x:=x4) (a:=⟨1,true,[.str [59]]⟩) (b:=⟨1,true,l4.map DV.str++[.str [59]]⟩) e0 ec (by omega) (by omega) (by omega) (by omega);refine ⟨(i+1,some (x4+1+1),l4++[[59]]),⟨rfl,rfl⟩,GL.less' fun j b hj=>?_,inv ⟨hlt,(fun i h=>by cases h;omega),(fun h=>by cases h),by omega,by simp only;rw [hR,hl4,hl3,hl2];simp⟩,by simp only;omega⟩;simp only [A0f] at hj;by_cases e:j=x4+1+1
    ·subst e;rw [A0] at hj;rw [f2, <- hj];simp
    ·rw [A3 e] at hj;by_cases e2:j=0
     ·subst e2;rw [A0] at hj;rw [f0, <- hj]
     ·rw [A3 e2] at hj;cases hj
   ·have dn:decide (d.value<0)=false:=by simpa using hng
    have hwn:IntKind.i64.wrap (0-d.value) = -d.value:=by rw [w64 (by split at v2<;>omega) (by omega)];omega
    have hmx:(if -d.value>d.value then -d.value else d.value)=d.value:=by
     by_cases h0 : -d.value>d.value
     ·omega
     ·rw [if_neg h0]
    rw [if_neg hng,if_neg hng] at hR;repeat' ((with_reducible first|refine wr ?_|refine A2 ?_ ?_|fail)<;>try simp only [go_sem,seval,ne0,A0,e0,ec,el,d7,hw,dn,hwn,hmx])
    refine cpc (c_Itoa d.value (by omega) (by split at v2<;>omega)) ?_;simp only [go_sem,seval,ne0,A0,el];repeat' ((with_reducible first|refine wr ?_|refine A2 ?_ ?_|fail)<;>try simp only [go_sem,seval,ne0,A0,e0,ec,el,d7,hw])
    refine C4 (E1 (by simp) (by omega) (by omega)) ?_;simp only [go_sem,seval,ne0,A0];obtain ⟨f0,fc,f2⟩:=A1k (y:=x+1) (z:=x+1+1) (x:=x) (a:=⟨1,true,[.str (M0 d.value)]⟩) (b:=⟨1,true,l2.map DV.str++[.str (M0 d.value)]⟩) e0 ec (by omega) (by omega) (by omega) (by omega);obtain ⟨M4,hM4⟩:∃ M4,M4=((M2.upd (x+1) ⟨1,true,[.str (M0 d.value)]⟩).del x).upd (x+1+1) ⟨1,true,l2.map DV.str++[.str (M0 d.value)]⟩:=⟨_,rfl⟩;rw [<- hM4] at f0 fc f2 ⊢;clear hM4 e0 ec;obtain ⟨l4,hl4⟩:∃ l4,l4=l2++[(M0 d.value)]:=⟨_,rfl⟩;have el4:M4 (x+1+1)=some ⟨1,true,l4.map DV.str⟩:=by rw [f2,hl4];simp
    clear f2;have e0:=f0;have ec:=fc;clear f0 fc;have hl4n:l2.length+1=l4.length:=by rw [hl4];simp
    rw [hl4n];obtain ⟨x4,hx4⟩:∃ x4,x4=x+1+1:=⟨_,rfl⟩;rw [<- hx4] at el4 ⊢;have ne0:=P0 0 c x4 (x4+1) (x4+1+1) (by omega);repeat' ((with_reducible first|refine wr ?_|refine A2 ?_ ?_|fail)<;>try simp only [go_sem,seval,ne0,A0,e0,ec,el4,d7,hw])
    refine C4 (E1 (by simp) (by omega) (by omega)) ?_;simp only [go_sem,seval,ne0,A0];repeat' ((with_reducible first|refine wr ?_|refine A2 ?_ ?_|fail)<;>try simp only [go_sem,seval,ne0,A0,hw])
    have e1:l4.length+1=(l4++[[59]]).length:=by simp
    rw [e1];obtain ⟨f0, -,f2⟩:=A1k (y:=x4+1) (z:=x4+1+1) (x:=x4) (a:=⟨1,true,[.str [59]]⟩) (b:=⟨1,true,l4.map DV.str++[.str [59]]⟩) e0 ec (by omega) (by omega) (by omega) (by omega);refine ⟨(i+1,some (x4+1+1),l4++[[59]]),⟨rfl,rfl⟩,GL.less' fun j b hj=>?_,inv ⟨hlt,(fun i h=>by cases h;omega),(fun h=>by cases h),by omega,by simp only;rw [hR,hl4,hl2];simp⟩,by simp only;omega⟩;simp only [A0f] at hj;by_cases e:j=x4+1+1
    ·subst e;rw [A0] at hj;rw [f2, <- hj];simp
    ·rw [A3 e] at hj;by_cases e2:j=0
     ·subst e2;rw [A0] at hj;rw [f0, <- hj]
     ·rw [A3 e2] at hj;cases hj
  ·have d7:decide (d.kind<7)=false:=by simpa using h7
   rw [if_neg h7] at hR;simp only [go_sem,seval,ec,el];repeat' ((with_reducible first|refine wr ?_|refine A2 ?_ ?_|fail)<;>try simp only [go_sem,seval,ne0,A0,e0,ec,el,d7,hw])
   refine C4 (E1 (by simp) (by omega) (by omega)) ?_;simp only [go_sem,seval,ne0,A0];repeat' ((with_reducible first|refine wr ?_|refine A2 ?_ ?_|fail)<;>try simp only [go_sem,seval,ne0,A0,hw])
   have e1:l2.length+1=(l2++[[59]]).length:=by simp
   rw [e1];obtain ⟨f0, -,f2⟩:=A1k (y:=x+1) (z:=x+1+1) (x:=x) (a:=⟨1,true,[.str [59]]⟩) (b:=⟨1,true,l2.map DV.str++[.str [59]]⟩) e0 ec (by omega) (by omega) (by omega) (by omega);refine ⟨(i+1,some (x+1+1),l2++[[59]]),⟨rfl,rfl⟩,GL.less' fun j b hj=>?_,inv ⟨hlt,(fun i h=>by cases h;omega),(fun h=>by cases h),by omega,by simp only;rw [hR,hl2];simp⟩,by simp only;omega⟩;simp only [A0f] at hj;by_cases e:j=x+1+1
   ·subst e;rw [A0] at hj;rw [f2, <- hj];simp
   ·rw [A3 e] at hj;by_cases e2:j=0
    ·subst e2;rw [A0] at hj;rw [f0, <- hj]
    ·rw [A3 e2] at hj;cases hj
 ·have hd:decide ((i:Int)<ds.length)=false:=by simpa using hlt
  rw [A1P (by omega),List.flatMap_nil,List.nil_append] at hR;repeat' ((with_reducible first|refine F9 (p:=IW _ _ (pz Tryz.prog 25 (.o (.o (.i (.i (.o .h)))))) _ _) ?_|refine wr ?_|refine A2 ?_ ?_|fail)<;>try simp only [go_sem,seval,hd])
  unfold X3;exact IW.weaken (W5 (l:=[(1,.ptr 0 0),(3,B6 o cur.length)]) ⟨rfl,rfl,trivial⟩) (Sub.refl _) (next o cur c ho hn hc hR)
abbrev D0g (m:Md):Blk:=⟨0,true,[.str m.name,I64 m.prio,T8 m.hds,I64 m.pos]⟩
theorem B0u {M:Hp} {x y z c:Nat} {a b Bc:Blk} (hc:M c=some Bc) (h2:¬ c=x) (h3:¬ c=y) (h4:¬ c=z) :
  (((M.upd y a).del x).upd z b) c=some Bc/\(((M.upd y a).del x).upd z b) z=some b:=by
 refine ⟨?_,A0⟩;rw [A3 h4];simp only [Hp.del];rw [if_neg h2,A3 h3];exact hc
theorem c_fmH (m:Md) (Q:Exit->Go.Sym.St->Prop) (a55 a56 a57:DV) (R rest:List (List UInt8)) (hh:m.hds.length<=1000) (hv:∀ h∈m.hds,X4 h=true) (hS:∀ h∈m.hds,Pb.St.szs h.body<=4000000) (hRl:R.length<=1000000000)
  (l:List (List UInt8)) (id b c:Nat) (hid:id<c) (hb:b<c) (hne:¬ b=id) (hR:R=l++(m.hds.flatMap B6f++rest))
  (next:∀ (id:Nat) (cur:List (List UInt8)) (c2:Nat),id<c2->c<=c2->R=cur++rest ->
   IW Tryz.prog 105 (pz Tryz.prog 25 (.o (.i (.i (.o (.i (.o .h))))))) ⟨tm [(3,.slc id 0 cur.length),(55,a55),(56,a56),(57,a57)],nil.upd id ⟨1,true,cur.map DV.str⟩,c2⟩ Q) :
  IW Tryz.prog 105 (pz Tryz.prog 25 (.i (.o (.i (.i (.i .h)))))) ⟨tm [(3,.slc id 0 l.length),(7,.ptr b 0),(55,a55),(56,a56),(57,a57)],(nil.upd b (D0g m)).upd id ⟨1,true,l.map DV.str⟩,c⟩ Q:=by
 have hb0:((nil.upd b (D0g m)).upd id ⟨1,true,l.map DV.str⟩) b=some (D0g m):=by rw [A3 hne];exact A0
 repeat' ((with_reducible first|refine wr ?_|refine A2 ?_ ?_|fail)<;>try simp only [go_sem,seval,hb0])
 refine A1v (fun q:Nat × Nat × List (List UInt8)=>[(3,.slc q.2.1 0 q.2.2.length),(55,a55),(56,a56),(57,a57),(70,T8 m.hds),(71,I64 m.hds.length),(72,I64 q.1)]) (fun q=>nil.upd q.2.1 ⟨1,true,q.2.2.map DV.str⟩)
  (fun q cc=>q.1<=m.hds.length/\q.2.1<cc/\c<=cc/\R=q.2.2++((m.hds.drop q.1).flatMap B6f++rest)) (fun q=>m.hds.length-q.1) (0,id,l) (fun b=>⟨rfl,rfl,rfl,rfl,rfl,rfl,rfl,trivial⟩) (by simp [C9,tm,Tm.upd]) (fun j b hj=>by
   by_cases e:j=id
   ·subst e;rw [A0] at hj ⊢;exact hj
   ·rw [A3 e] at hj;cases hj) ⟨A0Y _,hid,A0E _,hR⟩ ?_
 clear hR hid hne hb0;rintro ⟨i,id,cur⟩ c3 ⟨hi,hid,hc3,hR⟩;simp only at hi hid hc3 hR;simp only;by_cases hlt:i<m.hds.length
 ·have hd:decide ((i:Int)<m.hds.length)=true:=by simpa using hlt
  have hg:=A0C hlt;have hw:IntKind.i64.wrap ((i:Int)+1)=((i+1:Nat):Int):=by rw [w64 (by omega) (by omega)];omega
  have hvd:=hv _ (A0S hlt);have hsz:=hS _ (A0S hlt);rw [A0Z hlt,A1E] at hR;obtain ⟨h,hh0⟩:∃ h,h=m.hds[i]:=⟨_,rfl⟩;rw [<- hh0] at hg hvd hR hsz;have hgm:(m.hds.map Hd.v)[i]? = some h.v:=by rw [A1A,hg];rfl
  have hbk:=c_pblkT h.body (by have:=Pb.St.szs_len h.body;omega) (fun s hs=>by
   unfold X4 R1 at hvd;simp only [A0D] at hvd;exact c_prStmt _ s 1 (A2R _) (by have:=Pb.St.szs_mem hs;omega) (A3b hvd.2.2 s hs)) hsz
  have hbl:(txT (blT h.body)).length<=1000000000:=by
   have:=(A3o h.body).2;unfold txT;rw [A0G];omega
  unfold X4 at hvd;simp only [A0D,A0H] at hvd;obtain ⟨⟨⟨k1,k2⟩,hnm⟩, -⟩:=hvd;obtain ⟨j,hj⟩:∃ j:Nat,h.trig=1+(j:Int):=⟨(h.trig-1).toNat,by omega⟩;have hwj:IntKind.i64.wrap (h.trig-1)=(j:Int):=by rw [w64 (by omega) (by omega)];omega
  have hjn:(h.trig-1).toNat=j:=by omega
  have hgj:(D3.map DV.str)[j]? = some (.str (D3.getD j [])):=by
   rw [A1A,A0T,A0C (show j<D3.length from (by show j<6;omega))];rfl
  rw [B6f,hjn] at hR;generalize D3.getD j []=kw at hgj hR;generalize txT (blT h.body)=W at hbk hbl hR;have hcl:cur.length<=1000000000:=by
   have:=congrArg List.length hR;simp only [A0A] at this;omega
  repeat' ((with_reducible first|refine wr ?_|refine cpc c_ptrigs ?_|refine A2 ?_ ?_|fail)<;>try simp only [go_sem,seval,A0,hd,hgm,hw])
  obtain ⟨M,hM⟩:∃ M,M=((nil.upd id ⟨1,true,cur.map DV.str⟩).upd c3 ⟨0,true,[I64 0,.str [],.snil,I64 0]⟩).upd c3 ⟨0,true,[I64 h.trig,.str h.name,F1 h.body,I64 h.pos]⟩:=⟨_,rfl⟩;rw [<- hM];have hMn:∀ j,c3<j->M j=none:=fun j hj=>by
   rw [hM,A3 (by omega),A3 (by omega),A3 (by omega)];rfl
  have hMc:M c3=some ⟨0,true,[I64 h.trig,.str h.name,F1 h.body,I64 h.pos]⟩:=by rw [hM];exact A0
  have hMo:M id=some ⟨1,true,cur.map DV.str⟩:=by rw [hM,A3 (by omega),A3 (by omega)];exact A0
  clear hM;refine ⟨by and_intros<;>exact hMn _ (by omega),?_⟩;simp only [go_sem,seval,hMc,hMo,hwj,hgj];rw [A3 (show ¬ id=c3+1+7 by omega),hMo];refine M9 (E1 (by simp) (by omega) (by omega)) ?_;obtain ⟨ec,el⟩:=B0u (M:=M) (x:=id) (y:=c3+1+7) (z:=c3+1+10) (c:=c3) (a:=⟨1,true,[.str [111,110],.str kw]⟩) (b:=⟨1,true,cur.map DV.str++[.str [111,110],.str kw]⟩) hMc (by omega) (by omega) (by omega);obtain ⟨M2,hM2⟩:∃ M2,M2=((M.upd (c3+1+7) ⟨1,true,[.str [111,110],.str kw]⟩).del id).upd (c3+1+10) ⟨1,true,cur.map DV.str++[.str [111,110],.str kw]⟩:=⟨_,rfl⟩;rw [<- hM2] at ec el ⊢;clear hM2;obtain ⟨x,hx⟩:∃ x,x=c3+1+10:=⟨_,rfl⟩;rw [<- hx] at el ⊢;have hxc:c3<x:=by omega
  clear hx;obtain ⟨l2,hl2⟩:∃ l2,l2=cur++[[111,110],kw]:=⟨_,rfl⟩;rw [show cur.map DV.str++[.str [111,110],.str kw]=l2.map DV.str by rw [hl2];simp] at el;have hln:cur.length+2=l2.length:=by rw [hl2];simp
  rw [hln];have hl2l:l2.length<=1000000002:=by omega
  have ne0:=V4 c3 x (x+1) (x+1+1) (by omega);by_cases h3:3<=h.trig
  ·have d3:decide (h.trig≥3)=true:=by simpa using h3
   rw [if_pos h3] at hR;simp only [go_sem,seval,ec,el];repeat' ((with_reducible first|refine wr ?_|refine A2 ?_ ?_|fail)<;>try simp only [go_sem,seval,ne0,A0,ec,el,d3,hw])
   refine C4 (E1 (by simp) (by omega) (by omega)) ?_;simp only [go_sem,seval,ne0,A0];obtain ⟨fc,f2⟩:=B0u (M:=M2) (x:=x) (y:=x+1) (z:=x+1+1) (c:=c3) (a:=⟨1,true,[.str h.name]⟩) (b:=⟨1,true,l2.map DV.str++[.str h.name]⟩) ec (by omega) (by omega) (by omega);obtain ⟨M3,hM3⟩:∃ M3,M3=((M2.upd (x+1) ⟨1,true,[.str h.name]⟩).del x).upd (x+1+1) ⟨1,true,l2.map DV.str++[.str h.name]⟩:=⟨_,rfl⟩;rw [<- hM3] at fc f2 ⊢;clear hM3 ec;obtain ⟨l3,hl3⟩:∃ l3,l3=l2++[h.name]:=⟨_,rfl⟩;have el3:M3 (x+1+1)=some ⟨1,true,l3.map DV.str⟩:=by rw [f2,hl3];simp
   clear f2;have hl3n:l2.length+1=l3.length:=by rw [hl3];simp
   rw [hl3n];obtain ⟨x3,hx3⟩:∃ x3,x3=x+1+1:=⟨_,rfl⟩;rw [<- hx3] at el3 ⊢;have ne0:=V4 c3 x3 (x3+1) (x3+1+1) (by omega);repeat' ((with_reducible first|refine wr ?_|refine A2 ?_ ?_|fail)<;>try simp only [go_sem,seval,ne0,A0,fc,el3,d3,hw])
   refine AC.call (hbk _ _) ?_;rintro _ _ _ ⟨rfl,rfl,rfl⟩ -;have tk:List.take W.length (W.map DV.str)=W.map DV.str:=A0I (by simp);simp only [go_sem,seval,ne0,A0,tk,el3];refine C4 (E1 (by simp) (by omega) (by omega)) ?_;simp only [go_sem,seval,ne0,A0];repeat' ((with_reducible first|refine wr ?_|refine A2 ?_ ?_|fail)<;>try simp only [go_sem,seval,ne0,A0,hw])
   have e1:l3.length+W.length=(l3++W).length:=by simp
   rw [e1];refine ⟨(i+1,x3+1+1,l3++W),⟨rfl,rfl⟩,GL.less' fun j b hj=>?_,inv ⟨hlt,by simp only;omega,by omega,by simp only;rw [hR,hl3,hl2];simp⟩,by simp only;omega⟩;simp only at hj;by_cases e:j=x3+1+1
   ·subst e;rw [A0] at hj ⊢;rw [<- hj];simp
   ·rw [A3 e] at hj;cases hj
  ·have d3:decide (h.trig≥3)=false:=by simpa using h3
   rw [if_neg h3] at hR;simp only [go_sem,seval,ec,el];repeat' ((with_reducible first|refine wr ?_|refine A2 ?_ ?_|fail)<;>try simp only [go_sem,seval,ne0,A0,ec,el,d3,hw])
   refine AC.call (hbk _ _) ?_;rintro _ _ _ ⟨rfl,rfl,rfl⟩ -;have tk:List.take W.length (W.map DV.str)=W.map DV.str:=A0I (by simp);simp only [go_sem,seval,ne0,A0,tk,el];refine C4 (E1 (by simp) (by omega) (by omega)) ?_;simp only [go_sem,seval,ne0,A0];repeat' ((with_reducible first|refine wr ?_|refine A2 ?_ ?_|fail)<;>try simp only [go_sem,seval,ne0,A0,hw])
   have e1:l2.length+W.length=(l2++W).length:=by simp
   rw [e1];refine ⟨(i+1,x+1+1,l2++W),⟨rfl,rfl⟩,GL.less' fun j b hj=>?_,inv ⟨hlt,by simp only;omega,by omega,by simp only;rw [hR,hl2];simp⟩,by simp only;omega⟩;simp only at hj;by_cases e:j=x+1+1
   ·subst e;rw [A0] at hj ⊢;rw [<- hj];simp
   ·rw [A3 e] at hj;cases hj
 ·have hd:decide ((i:Int)<m.hds.length)=false:=by simpa using hlt
  rw [A1P (by omega),List.flatMap_nil,List.nil_append] at hR;repeat' ((with_reducible first|refine F9 (p:=IW _ _ (pz Tryz.prog 25 (.o (.i (.i (.o (.i (.o .h))))))) _ _) ?_|refine wr ?_|refine A2 ?_ ?_|fail)<;>try simp only [go_sem,seval,hd])
  unfold X3;exact IW.weaken (W5 (l:=[(3,.slc id 0 cur.length),(55,a55),(56,a56),(57,a57)]) ⟨rfl,rfl,rfl,rfl,trivial⟩) (Sub.refl _) (next id cur c3 hid hc3 hR)
theorem c_fmM (ds:List Dc) (ms:List Md) (R:List (List UInt8)) (hms:ms.length<=1000) (hv:∀ m∈ms,U8 m=true) (hS:∀ m∈ms, ∀ h∈m.hds,Pb.St.szs h.body<=4000000) (hRl:R.length<=1000000000) (hRb:∀ t∈R,t.length<=100000)
  (o:Option Nat) (l:List (List UInt8)) (c:Nat) (ho:∀ i,o=some i->0<i/\i<c) (hn:o=none->l=[]) (hc:1<=c) (hR:R=l++ms.flatMap mdL) :
  IW Tryz.prog 105 (pz Tryz.prog 25 (.o (.o (.i (.i (.o .h)))))) ⟨tm [(1,.ptr 0 0),(3,B6 o l.length)],C5 (nil.upd 0 (B1h ds ms)) o ⟨1,true,l.map DV.str⟩,c⟩ (rt [.tmp 2] fun v H' _ => ∃ H2,GL H' [v] H2 [.str (R7 R)]):=by
 have h0:(C5 (nil.upd 0 (B1h ds ms)) o ⟨1,true,l.map DV.str⟩) 0=some (B1h ds ms):=by
  cases o with
  | none=>exact A0
  | some id=>have:=ho id rfl;rw [A0f,A3 (by omega)];exact A0
 repeat' ((with_reducible first|refine wr ?_|refine A2 ?_ ?_|fail)<;>try simp only [go_sem,seval,h0])
 refine A1v (fun q:Nat × Option Nat × List (List UInt8)=>[(3,B6 q.2.1 q.2.2.length),(55,G6 ms),(56,I64 ms.length),(57,I64 q.1)]) (fun q=>C5 Sym.nil q.2.1 ⟨1,true,q.2.2.map DV.str⟩)
  (fun q cc=>q.1<=ms.length/\(∀ i,q.2.1=some i->i<cc)/\(q.2.1=none->q.2.2=[])/\R=q.2.2++(ms.drop q.1).flatMap mdL) (fun q=>ms.length-q.1) (0,o,l) (fun b=>⟨rfl,rfl,rfl,rfl,trivial⟩) (by simp [C9,tm,Tm.upd,B6]) (fun j b hj=>by
   cases o with
   | none=>cases hj
   | some id =>
    simp only [A0f] at hj ⊢;by_cases e:j=id
    ·subst e;rw [A0] at hj ⊢;exact hj
    ·rw [A3 e] at hj;cases hj) ⟨A0Y _,fun i h=>(ho i h).2,hn,hR⟩ ?_
 clear hR hn ho h0;rintro ⟨i,o,cur⟩ c3 ⟨hi,ho,hn,hR⟩;simp only at hi ho hn hR;simp only;by_cases hlt:i<ms.length
 ·have hd:decide ((i:Int)<ms.length)=true:=by simpa using hlt
  have hg:=A0C hlt;have hw:IntKind.i64.wrap ((i:Int)+1)=((i+1:Nat):Int):=by rw [w64 (by omega) (by omega)];omega
  have hvd:=hv _ (A0S hlt);have hsz:=hS _ (A0S hlt);rw [A0Z hlt,A1E] at hR;obtain ⟨m,hm0⟩:∃ m,m=ms[i]:=⟨_,rfl⟩;rw [<- hm0] at hg hvd hR hsz;have hgm:(ms.map Md.v)[i]? = some m.v:=by rw [A1A,hg];rfl
  unfold U8 at hvd;simp only [A0D,A0H] at hvd;obtain ⟨⟨⟨⟨hnm,p1⟩,p2⟩,hhl⟩,hh⟩:=hvd;have hit:=c_Itoa m.prio (by omega) (by omega);rw [mdL] at hR;have hcl:cur.length<=1000000000:=by
   have:=congrArg List.length hR;simp only [A0A] at this;omega
  repeat' ((with_reducible first|refine wr ?_|refine cpc hit ?_|refine A2 ?_ ?_|fail)<;>try simp only [go_sem,seval,A0,hd,hgm,hw])
  obtain ⟨M,hM⟩:∃ M,M=((C5 Sym.nil o ⟨1,true,cur.map DV.str⟩).upd c3 ⟨0,true,[.str [],I64 0,.snil,I64 0]⟩).upd c3 ⟨0,true,[.str m.name,I64 m.prio,T8 m.hds,I64 m.pos]⟩:=⟨_,rfl⟩;rw [<- hM];have hMn:∀ j,c3<j->M j=none:=fun j hj=>by
   rw [hM,A3 (by omega),A3 (by omega)];cases o with
   | none=>rfl
   | some id=>have:=ho id rfl;rw [A0f,A3 (by omega)];rfl
  have hMc:M c3=some ⟨0,true,[.str m.name,I64 m.prio,T8 m.hds,I64 m.pos]⟩:=by rw [hM];exact A0
  have hMo:∀ id,o=some id->M id=some ⟨1,true,cur.map DV.str⟩:=fun id hid=>by
   subst hid;have:=ho id rfl;rw [hM,A3 (by omega),A3 (by omega),A0f];exact A0
  clear hM;refine ⟨by and_intros<;>exact hMn _ (by omega),?_⟩;refine M9 (E6 (cs:=cur.map DV.str) (fun e=>by rw [hn e];simp) (fun id hid=>by have:=ho id hid;rw [A3 (by omega)];exact hMo id hid) (by simp) (by omega) (by omega) (by omega)) ?_;simp only [go_sem,seval];repeat' ((with_reducible first|refine F9 (p:=IW _ _ (pz Tryz.prog 25 (.i (.o (.i (.i (.i .h)))))) _ _) ?_|refine wr ?_|refine A2 ?_ ?_|fail)<;>try simp only [go_sem,seval,A0])
  unfold X3;have e4:cur.length+4=(cur++[[109,111,100,101],m.name,M0 m.prio,[123]]).length:=by simp
  rw [e4];refine IW.weaken (W5 (l:=[(3,.slc (c3+1+9) 0 (cur++[[109,111,100,101],m.name,M0 m.prio,[123]]).length),(7,.ptr c3 0),(55,G6 ms),(56,I64 ms.length),(57,I64 i)]) ⟨rfl,rfl,rfl,rfl,rfl,trivial⟩) ?_ (c_fmH m _ _ _ _ R ([[125]]++(ms.drop (i+1)).flatMap mdL) (by omega) (fun h hm=>A0P.1 hh h hm) hsz hRl (cur++[[109,111,100,101],m.name,M0 m.prio,[123]]) (c3+1+9) c3 _ (by omega) (by omega) (by omega) (by rw [hR];simp) ?_)
  ·intro j b hj;by_cases e:j=c3+1+9
   ·subst e;rw [A0] at hj ⊢;rw [<- hj];simp
   ·rw [A3 e] at hj ⊢;by_cases e2:j=c3
    ·subst e2;rw [A0] at hj;rw [<- hj];cases o with
     | none=>show (M.upd _ _) _=_;rw [A3 (by omega)];exact hMc
     | some id=>have:=ho id rfl;rw [P4,if_neg (by omega),A3 (by omega)];exact hMc
    ·rw [A3 e2] at hj;cases hj
  ·intro id cur2 c4 hid hc4 hR2;have hl2:cur2.length<=1000000000:=by
    have:=congrArg List.length hR2;simp only [A0A] at this;omega
   have ne0:=O0 id c4 (c4+1) (by omega);repeat' ((with_reducible first|refine wr ?_|refine A2 ?_ ?_|fail)<;>try simp only [go_sem,seval,ne0,A0,hw])
   refine C4 (E1 (by simp) (by omega) (by omega)) ?_;simp only [go_sem,seval,ne0,A0];repeat' ((with_reducible first|refine wr ?_|refine A2 ?_ ?_|fail)<;>try simp only [go_sem,seval,ne0,A0,hw])
   have e1:cur2.length+1=(cur2++[[125]]).length:=by simp
   rw [e1];refine ⟨(i+1,some (c4+1),cur2++[[125]]),⟨rfl,rfl⟩,GL.less' fun j b hj=>?_,inv ⟨hlt,(fun i h=>by cases h;omega),(fun h=>by cases h),by simp only;rw [hR2];simp⟩,by simp only;omega⟩;simp only [A0f] at hj;by_cases e:j=c4+1
   ·subst e;rw [A0] at hj ⊢;rw [<- hj];simp
   ·rw [A3 e] at hj;cases hj
 ·have hd:decide ((i:Int)<ms.length)=false:=by simpa using hlt
  rw [A1P (by omega),List.flatMap_nil,A1J] at hR;subst hR;repeat' ((with_reducible first|refine F9 (p:=IW _ _ (pz Tryz.prog 25 (.o (.o (.o (.i (.i (.o .h))))))) _ _) ?_|refine wr ?_|refine A2 ?_ ?_|fail)<;>try simp only [go_sem,seval,hd])
  unfold X3;exact IW.weaken (W5 (l:=[(3,B6 o R.length)]) ⟨rfl,trivial⟩) (Sub.refl _) (c_fmZ R o c3 ho hn hRl hRb)
theorem c_PFormat (r:Ru) (hB:r.sz<=3000000):PC Tryz.prog 25 [r.v] (.str (B2b r)):=by
 have hv:=c_Valid r (by omega);refine PC.ofT B1 rfl (A0B rfl) (by simp [DV.nlL,DV.nl,M8,M7]) rfl ?_;unfold B2b;cases hb:Y5 r with
 | false =>
  rw [hb] at hv;rw [if_neg A1Y];repeat' ((with_reducible first|refine wr ?_|refine cpc hv ?_|refine A2 ?_ ?_|fail)<;>try simp only [go_sem,seval])
  exact B3 rfl
 | true =>
  rw [hb] at hv;rw [if_pos rfl];have hR:=D2t hb;have hsh:=C9b r;have hl:=(B1g r).1;have hlen:(txT (ruT r)).length<=1000000000:=by unfold txT;rw [A0G];omega
  generalize txT (ruT r)=R at hR hsh hlen ⊢;unfold Y5 at hb;simp only [A0D,A0H] at hb;obtain ⟨⟨⟨hd,hm⟩,h1⟩,h2⟩:=hb;have hbod:∀ m∈r.modes, ∀ h∈m.hds,Pb.St.szs h.body<=4000000:=fun m hm h hh=>by
   have e1:h.sz<=(m.hds.map Hd.sz).sum:=J4 hh;have e2:m.sz<=(r.modes.map Md.sz).sum:=J4 hm;have e3:h.sz=1+h.name.length+Pb.St.szs h.body:=rfl;have e4:m.sz=1+m.name.length+(m.hds.map Hd.sz).sum:=rfl;have e5:r.sz=(r.decls.map Dc.sz).sum+(r.modes.map Md.sz).sum:=rfl;omega
  repeat' ((with_reducible first|refine F9 (p:=IW _ _ (pz Tryz.prog 25 (.i (.o (.i .h)))) _ _) ?_|refine wr ?_|refine cpc hv ?_|refine A2 ?_ ?_|fail)<;>try simp only [go_sem,seval])
  unfold X3;refine IW.weaken (W5 (l:=[(1,.ptr 0 0),(3,.snil)]) ⟨rfl,rfl,trivial⟩) (Sub.refl _) ?_;exact c_fmD r.decls r.modes R (r.modes.flatMap mdL) (by omega) (fun d hd=>A0P.1 h1 d hd) hlen (fun o cur c ho hn hc hR2=>c_fmM r.decls r.modes R (by omega) (fun m hm=>A0P.1 h2 m hm) hbod hlen hsh o cur c ho hn hc hR2) hR
end Go.Proofs.YthlpinppaclofaaGreatDoor
namespace Go.Pb
variable [Go.Sym.Tab]
open Go.Sym
abbrev T3:=Int × List UInt8 × Int
def st3 (t:Tok):T3:=(t.kind,t.text,t.value)
end Go.Pb
set_option maxHeartbeats 1000000
namespace Go.Pb
variable [Go.Sym.Tab]
open Go.Sym
def kwL:List (List UInt8):=D1++D3++B7++C3++G0++N9++[[41],[59],[44],[61],[123],[125],[101,108,115,101],[109,111,100,101],[111,110]]
structure Clv (Q:Tok->Prop):Prop where
 w:∀ x∈kwL,Q (A6 x)
 n:∀ x,C8 x=true->Q ⟨1,x,0,0⟩
 v:∀ x,0<=x->x<=2147483647->Q ⟨3,[],x,0⟩
 t:∀ x,R0 x=true->Q ⟨4,x,0,0⟩
section
variable {Q:Tok->Prop} (C:Clv Q)
include C
end
end Go.Pb
namespace Go.Pb
variable [Go.Sym.Tab]
open Go.Sym
theorem C2a {l:List (List UInt8)} (h:l≠[]):R7 l≠[]:=by
 cases l with
 | nil=>exact absurd rfl h
 | cons w l =>
  unfold R7 lnT;rw [A0O,A1K];split<;>simp
theorem C9e {r:Ru} (h:r≠⟨[],[]⟩):ruT r≠[]:=by
 unfold ruT;split
 ·simp
 obtain ⟨D,M⟩:=r;dsimp only;intro e;rw [List.append_eq_nil_iff] at e;cases D with
 | cons d D =>
  have h1:=e.1;rw [A1E,List.append_eq_nil_iff] at h1;have h2:=h1.1;unfold dcT at h2;split at h2
  ·cases h2
  ·simp at h2
 | nil =>
  cases M with
  | nil=>exact h rfl
  | cons m M =>
   have h1:=e.2;rw [A1E,List.append_eq_nil_iff] at h1;have h2:=h1.1;unfold mdT at h2;simp at h2
theorem D1o {r:Ru} (hv:Y5 r=true) (h:r≠⟨[],[]⟩):B2b r≠[]:=by
 unfold B2b;rw [if_pos hv];refine C2a ?_;unfold txT;intro e;rw [List.map_eq_nil_iff] at e;exact C9e h e
section
variable {L:List Tok} {E:Int}
end
end Go.Pb
namespace Go.Pb
variable [Go.Sym.Tab]
open Go.Sym
def Mo {α : Type} (a b:Option α):Prop:=∀ r,a=some r->b=some r
theorem Mo.refl {α : Type} (a:Option α):Mo a a:=fun _ h=>h
theorem Mo.none {α : Type} (b:Option α):Mo none b:=fun _ h=>by cases h
section
variable (L:List Tok) (E:Int)
theorem ME.all:∀ f:Nat,(∀ n s,Mo (F5 L E f n s) (F5 L E (f+1) n s))/\(∀ n e s,Mo (K2 L E f n e s) (K2 L E (f+1) n e s))/\(∀ s,Mo (K8 L E f s) (K8 L E (f+1) s))
 | 0=>⟨fun _ _=>Mo.none _,fun _ _ _=>Mo.none _,fun _=>Mo.none _⟩
 | f+1=>by
  obtain ⟨hb,hl,hu⟩:=ME.all f;refine ⟨fun n s=>?_,fun n e s=>?_,fun s=>?_⟩
  ·rw [F5,F5];split
   ·exact hu s
   cases h:F5 L E f (n+1) s with
   | none=>exact Mo.none _
   | some q=>rw [hb _ _ _ h];exact hl _ _ _
  ·rw [K2,K2];dsimp only;split
   ·exact Mo.refl _
   cases h:F5 L E f (n+1) (A8 s) with
   | none=>exact Mo.none _
   | some q =>
    rw [hb _ _ _ h];dsimp only;split
    ·exact Mo.refl _
    ·exact hl _ _ _
  ·rw [K8,K8];dsimp only;split
   ·exact Mo.refl _
   split
   ·exact Mo.refl _
   split
   ·cases h:F5 L E f 1 { i:=(C7 L E s (s.par+1) 16 50).i+1,e:=(C7 L E s (s.par+1) 16 50).e,pos:=(C7 L E s (s.par+1) 16 50).pos,ops:=(C7 L E s (s.par+1) 16 50).ops,par:=(C7 L E s (s.par+1) 16 50).par+1 } with
    | none=>exact Mo.none _
    | some q=>rw [hb _ _ _ h];exact Mo.refl _
   ·cases h:K8 L E f { i:=(C7 L E s (s.par+1) 16 50).i+1,e:=(C7 L E s (s.par+1) 16 50).e,pos:=(C7 L E s (s.par+1) 16 50).pos,ops:=(C7 L E s (s.par+1) 16 50).ops,par:=(C7 L E s (s.par+1) 16 50).par+1 } with
    | none=>exact Mo.none _
    | some q=>rw [hu _ _ h];exact Mo.refl _
theorem A1t (f:Nat) (s:Rd):Mo (H4 L E f s) (H4 L E (f+1) s):=(ME.all L E f).1 _ _
theorem C5n (f:Nat) (k p:Int) (s:Rd):Mo (N1 L E f k p s) (N1 L E (f+1) k p s):=by
 unfold N1;split
 ·cases h:H4 L E f s with
  | none=>exact Mo.none _
  | some q=>rw [A1t L E f _ _ h];exact Mo.refl _
 split
 ·cases h:H4 L E f (D6 L E (A9 L E s 4).2 [44]) with
  | none=>exact Mo.none _
  | some q=>rw [A1t L E f _ _ h];exact Mo.refl _
 split
 ·exact Mo.refl _
 dsimp only;split
 ·cases h:H4 L E f (A9 L E s 1).2 with
  | none=>exact Mo.none _
  | some q =>
   rw [A1t L E f _ _ h];dsimp only;split
   ·cases h2:H4 L E f (D6 L E q.2 [44]) with
    | none=>exact Mo.none _
    | some q2=>rw [A1t L E f _ _ h2];exact Mo.refl _
   ·exact Mo.refl _
 ·exact Mo.refl _
theorem MS.all:∀ f:Nat,(∀ d s,Mo (G4 L E f d s) (G4 L E (f+1) d s))/\(∀ d l s,Mo (K6 L E f d l s) (K6 L E (f+1) d l s)) /\
  (∀ d s,Mo (J6 L E f d s) (J6 L E (f+1) d s))/\(∀ d s,Mo (N4 L E f d s) (N4 L E (f+1) d s))
 | 0=>⟨fun _ _=>Mo.none _,fun _ _ _=>Mo.none _,fun _ _=>Mo.none _,fun _ _=>Mo.none _⟩
 | f+1=>by
  obtain ⟨hb,hl,hs,ho⟩:=MS.all f;refine ⟨fun d s=>?_,fun d l s=>?_,fun d s=>?_,fun d s=>?_⟩
  ·rw [G4,G4];exact hl _ _ _
  ·rw [K6,K6];split
   ·split
    ·exact Mo.refl _
    cases h:J6 L E f d (C7 L E s ((l.length:Int)+1) 64 9) with
    | none=>exact Mo.none _
    | some q=>rw [hs _ _ _ h];exact hl _ _ _
   ·exact Mo.refl _
  ·rw [J6,J6];dsimp only;split
   ·exact Mo.refl _
   split
   ·cases h:H4 L E f (D6 L E (A9 L E (C7 L E s d 8 50) 1).2 [61]) with
    | none=>exact Mo.none _
    | some q=>rw [A1t L E f _ _ h];exact Mo.refl _
   split
   ·cases h:H4 L E f (A8 (C7 L E s d 8 50)) with
    | none=>exact Mo.none _
    | some q =>
     rw [A1t L E f _ _ h];dsimp only;cases h2:G4 L E f (d+1) q.2 with
     | none=>exact Mo.none _
     | some q2 =>
      rw [hb _ _ _ h2];dsimp only;split
      ·cases h3:N4 L E f d (A8 q2.2) with
       | none=>exact Mo.none _
       | some q3=>rw [ho _ _ _ h3];exact Mo.refl _
      ·exact Mo.refl _
   ·exact C5n L E f _ _ _
  ·rw [N4,N4];split
   ·cases h:J6 L E f (d+1) s with
    | none=>exact Mo.none _
    | some q=>rw [hs _ _ _ h];exact Mo.refl _
   ·exact hb _ _
theorem C1u:∀ (f:Nat) (l:List Hd) (s:Rd),Mo (N6 L E f l s) (N6 L E (f+1) l s)
 | 0,_,_=>Mo.none _
 | f+1,l,s=>by
  rw [N6,N6];split
  ·split
   ·exact Mo.refl _
   dsimp only;split
   ·exact Mo.refl _
   generalize hk:(if 2<=B9 L E (D6 L E (C7 L E s ((l.length:Int)+1) 32 9) [111,110]) D3 then (A9 L E (A8 (D6 L E (C7 L E s ((l.length:Int)+1) 32 9) [111,110])) 1).2 else A8 (D6 L E (C7 L E s ((l.length:Int)+1) 32 9) [111,110]))=s4;cases h:G4 L E f 1 s4 with
   | none=>exact Mo.none _
   | some q=>rw [(MS.all L E f).1 _ _ _ h];exact C1u f _ _
  ·exact Mo.refl _
theorem D0s (f:Nat) (s:Rd):Mo (A0s L E f s) (A0s L E (f+1) s):=by
 unfold A0s;dsimp only;cases h:N6 L E f [] (D6 L E (A9 L E (A9 L E (D6 L E s [109,111,100,101]) 1).2 3).2 [123]) with
 | none=>exact Mo.none _
 | some q=>rw [C1u L E f _ _ _ h];exact Mo.refl _
theorem B5w:∀ (f:Nat) (l:List Dc) (s:Rd),Mo (P3 L E f l s) (P3 L E (f+1) l s)
 | 0,_,_=>Mo.none _
 | f+1,l,s=>by
  rw [P3,P3];dsimp only;split
  ·exact Mo.refl _
  split
  ·exact B5w f _ _
  ·exact B5w f _ _
theorem B5v:∀ (f:Nat) (l:List Md) (s:Rd),Mo (N2 L E f l s) (N2 L E (f+1) l s)
 | 0,_,_=>Mo.none _
 | f+1,l,s=>by
  rw [N2,N2];dsimp only;split
  ·split
   ·exact Mo.refl _
   split
   ·cases h:A0s L E f (C7 L E s ((l.length:Int)+1) 16 9) with
    | none=>exact Mo.none _
    | some q=>rw [D0s L E f _ _ h];exact B5v f _ _
   ·exact B5v f _ _
  ·exact Mo.refl _
theorem D0r (f:Nat) (s:Rd):Mo (A2e L E f s) (A2e L E (f+1) s):=by
 unfold A2e;cases h:P3 L E f [] s with
 | none=>exact Mo.none _
 | some q =>
  rw [B5w L E f _ _ _ h];dsimp only;cases h2:N2 L E f [] q.2 with
  | none=>exact Mo.none _
  | some q2=>rw [B5v L E f _ _ _ h2];exact Mo.refl _
end
theorem C1v {α : Type} {g:Nat->Option α} (h:∀ f,Mo (g f) (g (f+1))) {f:Nat} {r : α} (hf:g f=some r):Evt g r:=by
 refine ⟨f,fun k hk=>?_⟩
 induction k with
 | zero =>
  obtain rfl:f=0:=(by omega);exact hf
 | succ k ih =>
  by_cases e:f=k+1
  ·subst e;exact hf
  ·exact h k r (ih (by omega))
theorem C4l {L:List Tok} {E:Int} {f:Nat} {r:Ru × Rd} (h:A2e L E f rd0=some r):A0a L E=r:=(A5s L E).uniq (C1v (D0r L E · rd0) h)
theorem C3m {L:List Tok} {E:Int} {f:Nat} {r:Ex × Rd} (h:H4 L E f rd0=some r):C3n L E=r:=(B9q L E).uniq (C1v (A1t L E · rd0) h)
theorem C5a {s:List UInt8} {r:Ru} {i N:Nat} {p o q:Int} (h1:(E7 s).2.2=0) (h2:A2e (E7 s).1 s.length N rd0=some (r,⟨i,0,p,o,q⟩)):B3k s=(r,0,0):=by
 unfold B3k;dsimp only;rw [if_neg (by rw [h1];decide),C4l h2,if_neg (by show ¬ ((0:Int) == 0)=false;decide)]
theorem B7n {s:List UInt8} {r:Ex} {i N:Nat} {p o q:Int} (h1:(E7 s).2.2=0) (h2:H4 (E7 s).1 s.length N rd0=some (r,⟨i,0,p,o,q⟩)) (hi:(E7 s).1.length<=i):B1n s=(r,0,0):=by
 unfold B1n;dsimp only;rw [if_neg (by rw [h1];decide),C3m h2];dsimp only;have hz:(if okR (⟨i,0,p,o,q⟩:Rd)=true/\i<(E7 s).1.length then O3 (E7 s).1 s.length ⟨i,0,p,o,q⟩ else ⟨i,0,p,o,q⟩)=⟨i,0,p,o,q⟩:=if_neg fun h=>absurd h.2 (Nat.not_lt.2 hi);rw [hz,if_neg (by show ¬ ((0:Int) == 0)=false;decide)]
end Go.Pb
set_option maxHeartbeats 8000000
namespace Go.Proofs.YthlpinppaclofaaGreatDoor
open Go.Eng (IC IOper DReg IFn C2)
open Go.Sym Go.Pb
def sl1:List UInt8:=[49,43,50,42,120]
def sl2:List UInt8:=[40,49,43,50,41,42,120]
def sl3:List UInt8:=[108,97,109,112,32,108,32,51,59,32,109,111,100,101,32,109,32,49,32,123,32,111,110,32,115,116,97,114,116,32,123,32,108,105,103,104,116,32,108,32,56,59,32,125,32,125]
def se1:Ex:=.mk 15 0 [] [.mk 1 1 [] [] 0,.mk 12 0 [] [.mk 1 2 [] [] 2,.mk 2 0 [120] [] 4] 3] 1
def se2:Ex:=.mk 12 0 [] [.mk 15 0 [] [.mk 1 1 [] [] 1,.mk 1 2 [] [] 3] 2,.mk 2 0 [120] [] 6] 5
def sr3:Ru:=⟨[⟨3,[108],3,0⟩],[⟨[109],1,[⟨1,[],[.mk 8 [108] [] [.mk 1 8 [] [] 40] [] [] 32],21⟩],10⟩]⟩
theorem sp1:B1n sl1=(se1,0,0):=B7n (N:=60) (i:=5) (p:=0) (o:=3) (q:=0) (by decide +kernel) (by kernel_rfl) (by decide +kernel)
theorem sp2:B1n sl2=(se2,0,0):=B7n (N:=60) (i:=7) (p:=0) (o:=3) (q:=0) (by decide +kernel) (by kernel_rfl) (by decide +kernel)
theorem sp3:B3k sl3=(sr3,0,0):=C5a (N:=60) (i:=17) (p:=0) (o:=1) (q:=0) (by decide +kernel) (by kernel_rfl)
theorem sf2:D1p se2=[40,32,49,32,43,32,50,32,41,32,42,32,120]:=by decide +kernel
theorem sv3:Y5 sr3=true:=by decide +kernel
theorem c_sane31:PC Tryz.prog 12 [] (.bool true):=by
 have p1:=c_PParseE sl1 (by decide);have p2:=c_PParseE sl2 (by decide);have p3:=c_PParse sl3 (by decide);rw [sp1] at p1;rw [sp2] at p2;rw [sp3] at p3;have f2:=c_PFormatE se2 (by decide);rw [sf2] at f2;have f3:=c_PFormat sr3 (by decide);have v3:=c_Valid sr3 (by decide);rw [sv3] at v3;have hne:(B2b sr3 == [])=false:=by
  have:=D1o sv3 (by unfold sr3;simp);simpa using this
 generalize B2b sr3=t3 at f3 hne;dsimp only [C4z,C1n] at p1 p2 p3;have e3:sr3.v=.agg [E8 sr3.decls,.lst [(sr3.modes.map Md.v).getD 0 (.bool true)]]:=rfl;rw [e3] at p3 f3 v3;generalize sr3.decls.map Dc.v=d1 at *;generalize (sr3.modes.map Md.v).getD 0 (.bool true)=m1 at *;have e2:=Ex.v_w se2;have e1:se1.v=.agg [I64 15,I64 0,.str [],.lst [(Ex.mk 1 1 [] [] 0).v,.agg [I64 12,I64 0,.str [],H3 [.mk 1 2 [] [] 2,.mk 2 0 [120] [] 4],I64 3]],I64 1]:=by unfold se1;rw [Ex.v_w];simp [Ex.v_w,Ex.kind,Ex.value,Ex.name,Ex.args,Ex.pos]
 rw [e1] at p1;generalize (Ex.mk 1 1 [] [] 0).v=x1 at *;generalize H3 [.mk 1 2 [] [] 2,.mk 2 0 [120] [] 4]=x2 at *;rw [e2] at p2 f2;unfold sl1 at p1;unfold sl2 at p2;unfold sl3 at p3;have hi1:A2j 5 (.lst [x1,.agg [I64 12,I64 0,.str [],x2,I64 3]]) (.int .i64 1)=some (.fptr [I64 12,I64 0,.str [],x2,I64 3]):=B1i (l:=1);refine PC.ofT B1 rfl (A0B rfl) (by simp [DV.nlL,DV.nl]) (by simp [DV.nlL,DV.nl]) ?_;repeat' ((with_reducible first|refine wr ?_|refine cpc p1 ?_|refine cpc p2 ?_|refine cpc p3 ?_|refine cpc f2 ?_|refine cpc f3 ?_|refine cpc v3 ?_|refine A2 ?_ ?_|fail)<;>try simp only [go_sem,seval,hne,hi1])
 all_goals exact B3 rfl
end Go.Proofs.YthlpinppaclofaaGreatDoor
namespace Go.Pb
variable [Go.Sym.Tab]
open Go.Sym
mutual
def Ex.xz:Ex->Nat
 | .mk k v n a p=>1+n.length+Ex.xzs 0 a
def Ex.xzs:Nat->List Ex->Nat
 | n,[]=>n
 | n,e :: l=>if 1000<n then n else Ex.xzs (n+Ex.xz e) l
end
mutual
theorem Ex.xz_le:∀ e:Ex,e.xz<=e.sz
 | .mk k v n a p=>by have:=Ex.xzs_le a 0;rw [Ex.xz,Ex.sz];omega
theorem Ex.xzs_le:∀ (l:List Ex) (n:Nat),Ex.xzs n l<=n+Ex.szs l
 | [],n=>by rw [Ex.xzs];omega
 | e :: l,n=>by
  have h1:=Ex.xz_le e;have h2:=Ex.xzs_le l (n+Ex.xz e);rw [Ex.xzs,Ex.szs];split<;>omega
end
theorem Ex.xzs_at {l:List Ex} {n k:Nat} {x:Ex} (h:l[k]? = some x):Ex.xzs n (l.drop k)=if 1000<n then n else Ex.xzs (n+x.xz) (l.drop (k+1)):=by
 obtain ⟨h1,h2⟩:=A0L.1 h;rw [A0Z h1,h2,Ex.xzs]
theorem Ex.szs_at {l:List Ex} {k:Nat} {x:Ex} (h:l[k]? = some x):Ex.szs (l.drop k)=x.sz+Ex.szs (l.drop (k+1)):=by
 obtain ⟨h1,h2⟩:=A0L.1 h;rw [A0Z h1,h2,Ex.szs]
mutual
def St.yz:St->Nat
 | .mk k n t a x y p=>1+t.length+Ex.xzs 0 a+St.yzs 0 x+St.yzs 0 y
def St.yzs:Nat->List St->Nat
 | n,[]=>n
 | n,e :: l=>if 1000<n then n else St.yzs (n+St.yz e) l
end
mutual
theorem St.yz_le:∀ e:St,e.yz<=e.sz
 | .mk k n t a x y p=>by
  have:=Ex.xzs_le a 0;have:=St.yzs_le x 0;have:=St.yzs_le y 0;rw [St.yz,St.sz];omega
theorem St.yzs_le:∀ (l:List St) (n:Nat),St.yzs n l<=n+St.szs l
 | [],n=>by rw [St.yzs];omega
 | e :: l,n=>by
  have h1:=St.yz_le e;have h2:=St.yzs_le l (n+St.yz e);rw [St.yzs,St.szs];split<;>omega
end
theorem St.yzs_at {l:List St} {n k:Nat} {x:St} (h:l[k]? = some x):St.yzs n (l.drop k)=if 1000<n then n else St.yzs (n+x.yz) (l.drop (k+1)):=by
 obtain ⟨h1,h2⟩:=A0L.1 h;rw [A0Z h1,h2,St.yzs]
theorem St.szs_at {l:List St} {k:Nat} {x:St} (h:l[k]? = some x):St.szs (l.drop k)=x.sz+St.szs (l.drop (k+1)):=by
 obtain ⟨h1,h2⟩:=A0L.1 h;rw [A0Z h1,h2,St.szs]
def B3y:Nat->List Hd->Nat
 | n,[]=>n
 | n,h :: l=>if 200<n then n else B3y (n+1+St.yzs 0 h.body) l
def A6a:Nat->List Md->Nat
 | n,[]=>n
 | n,m :: l=>if 200<n then n else A6a (B3y (n+1) m.hds) l
def D1q (r:Ru):Bool:=decide (A6a r.decls.length r.modes<=200)
theorem C6l {l:List Hd} {n k:Nat} {x:Hd} (h:l[k]? = some x):B3y n (l.drop k)=if 200<n then n else B3y (n+1+St.yzs 0 x.body) (l.drop (k+1)):=by
 obtain ⟨h1,h2⟩:=A0L.1 h;rw [A0Z h1,h2,B3y]
theorem C6k {l:List Md} {n k:Nat} {x:Md} (h:l[k]? = some x):A6a n (l.drop k)=if 200<n then n else A6a (B3y (n+1) x.hds) (l.drop (k+1)):=by
 obtain ⟨h1,h2⟩:=A0L.1 h;rw [A0Z h1,h2,A6a]
end Go.Pb
namespace Go.Proofs.YthlpinppaclofaaGreatDoor
open Go.Eng (IC IOper DReg IFn C2)
open Go.Sym Go.Pb
theorem c_exSizes:∀ (m:Nat) (l:List Ex),Ex.szs l<m->Ex.szs l<=100000000000->PC Tryz.prog 27 [H3 l] (I64 (Ex.xzs 0 l:Nat)):=by
 intro m
 induction m with
 | zero=>intro l h;omega
 | succ m ih =>
 intro l hm hB;have hl:=Ex.szs_len l;refine PC.ofT B1 rfl (A0B rfl) (by simp [DV.nlL,DV.nl,Q5]) rfl ?_;repeat' ((with_reducible first|refine wr ?_|refine A2 ?_ ?_|fail)<;>try simp only [go_sem,seval])
 refine D8 (fun q:Nat × Nat=>[(0,H3 l),(3,I64 (q.2:Nat)),(4,I64 (q.1:Nat))]) (fun _=>Sym.nil) (fun q c=>q.1<=l.length/\Ex.xzs q.2 (l.drop q.1)=Ex.xzs 0 l/\q.2+Ex.szs (l.drop q.1)<=Ex.szs l) (fun q=>l.length-q.1) (0,0)
  (by simp [C9,tm,Tm.upd]) (Sub.nil _) ⟨A0Y _,rfl,by simp⟩ ?_
 rintro ⟨k,n⟩ c ⟨hk,hx,hz⟩;dsimp only at hk hx hz ⊢;by_cases hlt:k<l.length
 ·have hd:decide ((k:Int)<(l.length:Int))=true:=by simpa using hlt
  have hg:=A0C hlt;have hsx:=Ex.szs_mem (A0S hlt);have hw:=w64 (n:=(k:Int)+1) (by omega) (by omega);generalize l[k]=x at hg hsx;rw [Ex.xzs_at hg] at hx;rw [Ex.szs_at hg] at hz;by_cases hn:n<=1000
  ·have hd2:decide ((n:Int)<=1000)=true:=decide_eq_true (by omega);rw [if_neg (by omega)] at hx;have hax:Ex.szs x.args<x.sz:=by cases x with|mk k v n a p=>rw [Ex.sz];show Ex.szs a<_;omega
   have hcl:=ih x.args (by omega) (by omega);have hxz:=Ex.xz_le x;have hxe:x.xz=1+x.name.length+Ex.xzs 0 x.args:=by cases x;rfl
   have hw1:=w64 (n:=(n:Int)+1) (by omega) (by omega);have hw2:=w64 (n:=(n:Int)+1+(x.name.length:Int)) (by omega) (by omega);have hw3:IntKind.i64.wrap ((n:Int)+1+(x.name.length:Int)+((Ex.xzs 0 x.args:Nat):Int))=((n+x.xz:Nat):Int):=by rw [w64 (by omega) (by omega)];omega
   repeat' ((with_reducible first|refine wr ?_|refine cpc hcl ?_|refine A2 ?_ ?_|fail)<;>try simp only [go_sem,seval,hd,hd2,hg,hw,hw1,hw2,hw3,Ex.v_w])
   refine ⟨(k+1,n+x.xz),by simp [C9,tm,Tm.upd],Sub.nil _,inv ⟨by omega,hx,by show n+x.xz+Ex.szs (l.drop (k+1))<=_;omega⟩,by simp only;omega⟩
  ·have hd2:decide ((n:Int)<=1000)=false:=decide_eq_false (by omega);rw [if_pos (by omega)] at hx;repeat' ((with_reducible first|refine wr ?_|refine A2 ?_ ?_|fail)<;>try simp only [go_sem,seval,hd,hd2])
   rw [<- hx];exact B3 rfl
 ·have hd:decide ((k:Int)<(l.length:Int))=false:=by simpa using hlt
  rw [A1P (by omega),Ex.xzs] at hx;repeat' ((with_reducible first|refine wr ?_|refine A2 ?_ ?_|fail)<;>try simp only [go_sem,seval,hd])
  rw [<- hx];exact B3 rfl
theorem c_stSizes:∀ (m:Nat) (l:List Pb.St),Pb.St.szs l<m->Pb.St.szs l<=100000000000->PC Tryz.prog 79 [F1 l] (I64 (Pb.St.yzs 0 l:Nat)):=by
 intro m
 induction m with
 | zero=>intro l h;omega
 | succ m ih =>
 intro l hm hB;have hl:=Pb.St.szs_len l;refine PC.ofT B1 rfl (A0B rfl) (by simp [DV.nlL,DV.nl,O5]) rfl ?_;repeat' ((with_reducible first|refine wr ?_|refine A2 ?_ ?_|fail)<;>try simp only [go_sem,seval])
 refine D8 (fun q:Nat × Nat=>[(0,F1 l),(3,I64 (q.2:Nat)),(4,I64 (q.1:Nat))]) (fun _=>Sym.nil) (fun q c=>q.1<=l.length/\Pb.St.yzs q.2 (l.drop q.1)=Pb.St.yzs 0 l/\q.2+Pb.St.szs (l.drop q.1)<=Pb.St.szs l) (fun q=>l.length-q.1) (0,0)
  (by simp [C9,tm,Tm.upd]) (Sub.nil _) ⟨A0Y _,rfl,by simp⟩ ?_
 rintro ⟨k,n⟩ c ⟨hk,hx,hz⟩;dsimp only at hk hx hz ⊢;by_cases hlt:k<l.length
 ·have hd:decide ((k:Int)<(l.length:Int))=true:=by simpa using hlt
  have hg:=A0C hlt;have hsx:=Pb.St.szs_mem (A0S hlt);have hw:=w64 (n:=(k:Int)+1) (by omega) (by omega);generalize l[k]=x at hg hsx;rw [Pb.St.yzs_at hg] at hx;rw [Pb.St.szs_at hg] at hz;by_cases hn:n<=1000
  ·have hd2:decide ((n:Int)<=1000)=true:=decide_eq_true (by omega);rw [if_neg (by omega)] at hx;have hax:Ex.szs x.args<x.sz:=by cases x with|mk k n t a x y p=>rw [Pb.St.sz];show Ex.szs a<_;omega
   have htx:=x.sz_thn;have hyx:=x.sz_els;have hca:=c_exSizes (Ex.szs x.args+1) x.args (by omega) (by omega);have hct:=ih x.thn (by omega) (by omega);have hcy:=ih x.els (by omega) (by omega);have hxz:=Pb.St.yz_le x;have hxe:x.yz=1+x.text.length+Ex.xzs 0 x.args+Pb.St.yzs 0 x.thn+Pb.St.yzs 0 x.els:=by cases x;rfl
   have hw1:=w64 (n:=(n:Int)+1) (by omega) (by omega);have hw2:=w64 (n:=(n:Int)+1+(x.text.length:Int)) (by omega) (by omega);have hw3:=w64 (n:=(n:Int)+1+(x.text.length:Int)+((Ex.xzs 0 x.args:Nat):Int)) (by omega) (by omega);have hw4:=w64 (n:=(n:Int)+1+(x.text.length:Int)+((Ex.xzs 0 x.args:Nat):Int)+((Pb.St.yzs 0 x.thn:Nat):Int)) (by omega) (by omega);have hw5:IntKind.i64.wrap ((n:Int)+1+(x.text.length:Int)+((Ex.xzs 0 x.args:Nat):Int)+((Pb.St.yzs 0 x.thn:Nat):Int)+((Pb.St.yzs 0 x.els:Nat):Int))=((n+x.yz:Nat):Int):=by rw [w64 (by omega) (by omega)];omega
   repeat' ((with_reducible first|refine wr ?_|refine cpc hca ?_|refine cpc hct ?_|refine cpc hcy ?_|refine A2 ?_ ?_|fail)<;>try simp only [go_sem,seval,hd,hd2,hg,hw,hw1,hw2,hw3,hw4,hw5,Pb.St.v_w])
   refine ⟨(k+1,n+x.yz),by simp [C9,tm,Tm.upd],Sub.nil _,inv ⟨by omega,hx,by show n+x.yz+Pb.St.szs (l.drop (k+1))<=_;omega⟩,by simp only;omega⟩
  ·have hd2:decide ((n:Int)<=1000)=false:=decide_eq_false (by omega);rw [if_pos (by omega)] at hx;repeat' ((with_reducible first|refine wr ?_|refine A2 ?_ ?_|fail)<;>try simp only [go_sem,seval,hd,hd2])
   rw [<- hx];exact B3 rfl
 ·have hd:decide ((k:Int)<(l.length:Int))=false:=by simpa using hlt
  rw [A1P (by omega),Pb.St.yzs] at hx;repeat' ((with_reducible first|refine wr ?_|refine A2 ?_ ?_|fail)<;>try simp only [go_sem,seval,hd])
  rw [<- hx];exact B3 rfl
theorem C0c {α : Type} {f : α -> Nat} {l:List α} {k:Nat} {x : α} (h:l[k]? = some x):((l.drop k).map f).sum=f x+((l.drop (k+1)).map f).sum:=by
 obtain ⟨h1,h2⟩:=A0L.1 h;rw [A0Z h1,h2,A0O,A2F]
theorem c_few (r:Ru) (hB:r.sz<=100000000000):PC Tryz.prog 39 [r.v] (.bool (D1q r)):=by
 refine PC.ofT B1 rfl (A0B rfl) (by simp [DV.nlL,DV.nl,M8,M7]) rfl ?_;obtain ⟨D,M⟩:=r;have hDs:(D.map Dc.sz).sum+(M.map Md.sz).sum<=100000000000:=hB;have hDl:D.length<=(D.map Dc.sz).sum:=H6 fun x _=>by show 1<=1+_;omega
 have hMl:M.length<=(M.map Md.sz).sum:=H6 fun x _=>by show 1<=1+_+_;omega
 have hfm:D1q ⟨D,M⟩=decide (A6a D.length M<=200):=rfl;rw [hfm];dsimp only [Ru.v];repeat' ((with_reducible first|refine wr ?_|refine A2 ?_ ?_|fail)<;>try simp only [go_sem,seval])
 refine D8 (fun q:Nat × Nat=>[(1,.ptr 0 0),(3,I64 (q.2:Nat)),(4,I64 (q.1:Nat))]) (fun _=>Sym.nil.upd 0 ⟨0,true,[E8 D,G6 M]⟩) (fun q c=>1<=c/\q.1<=M.length/\A6a q.2 (M.drop q.1)=A6a D.length M/\q.2+((M.drop q.1).map Md.sz).sum<=100000000000) (fun q=>M.length-q.1) (0,D.length)
  (by simp [C9,tm,Tm.upd]) (Sub.refl _) ⟨by omega,A0Y _,rfl,by simp;omega⟩ ?_
 rintro ⟨k,n⟩ c ⟨hc,hk,hx,hz⟩;dsimp only at hc hk hx hz ⊢;have hend:A6a n (M.drop k)=n->A6a D.length M=n:=fun h=>by rw [<- hx,h]
 have hle:decide ((n:Int)<=200)=decide (n<=200):=by rw [decide_eq_decide];omega
 by_cases hlt:k<M.length
 ·have hd:decide ((k:Int)<(M.length:Int))=true:=by simpa using hlt
  have hg:=A0C hlt;have hw:=w64 (n:=(k:Int)+1) (by omega) (by omega);generalize M[k]=x at hg;rw [C6k hg] at hx hend;rw [C0c hg] at hz;by_cases hn:n<=200
  ·have hd2:decide ((n:Int)<=200)=true:=decide_eq_true (by omega);rw [if_neg (by omega)] at hx;clear hend;have hw1:IntKind.i64.wrap ((n:Int)+1)=((n+1:Nat):Int):=by rw [w64 (by omega) (by omega)];omega
   have hxs:Md.sz x=1+x.name.length+(x.hds.map Hd.sz).sum:=rfl;have hxl:x.hds.length<=(x.hds.map Hd.sz).sum:=H6 fun x _=>by show 1<=1+_+_;omega
   repeat' ((with_reducible first|refine wr ?_|refine A2 ?_ ?_|fail)<;>try simp only [go_sem,seval,hd,hd2,hg,hw,hw1,A0])
   refine D8 (fun q:Nat × Nat=>[(1,.ptr 0 0),(3,I64 (q.2:Nat)),(4,I64 (k:Nat)),(5,I64 (q.1:Nat))]) (fun _=>Sym.nil.upd 0 ⟨0,true,[E8 D,G6 M]⟩) (fun q c=>1<=c/\q.1<=x.hds.length/\A6a (B3y q.2 (x.hds.drop q.1)) (M.drop (k+1))=A6a D.length M/\q.2+((x.hds.drop q.1).map Hd.sz).sum+((M.drop (k+1)).map Md.sz).sum<=100000000000) (fun q=>x.hds.length-q.1) (0,n+1)
    (by simp [C9,tm,Tm.upd]) (Sub.refl _) ⟨by omega,A0Y _,hx,by show n+1+((x.hds.drop 0).map Hd.sz).sum+_<=_;rw [A3L];omega⟩ ?_
   have hxb:x.hds.length<=100000000000:=by omega
   clear hx hz hw1 hd2 hn hle;rintro ⟨j,n⟩ c2 ⟨hc2,hj,hx,hz⟩;dsimp only at hc2 hj hx hz ⊢;by_cases hjl:j<x.hds.length
   ·have hdj:decide ((j:Int)<(x.hds.length:Int))=true:=by simpa using hjl
    have hgj:=A0C hjl;have hwj:=w64 (n:=(j:Int)+1) (by omega) (by omega);generalize x.hds[j]=y at hgj;rw [C6l hgj] at hx;rw [C0c hgj] at hz;by_cases hn:n<=200
    ·have hd2:decide ((n:Int)<=200)=true:=decide_eq_true (by omega);rw [if_neg (by omega)] at hx;have hys:Hd.sz y=1+y.name.length+Pb.St.szs y.body:=rfl;have hcb:=c_stSizes (Pb.St.szs y.body+1) y.body (by omega) (by omega);have hyz:=Pb.St.yzs_le y.body 0;have hw1:=w64 (n:=(n:Int)+1) (by omega) (by omega);have hw2:IntKind.i64.wrap ((n:Int)+1+((Pb.St.yzs 0 y.body:Nat):Int))=((n+1+Pb.St.yzs 0 y.body:Nat):Int):=by rw [w64 (by omega) (by omega)];omega
     repeat' ((with_reducible first|refine wr ?_|refine cpc hcb ?_|refine A2 ?_ ?_|fail)<;>try simp only [go_sem,seval,hd,hdj,hd2,hg,hgj,hw,hwj,hw1,hw2,A0])
     refine ⟨(j+1,n+1+Pb.St.yzs 0 y.body),by simp [C9,tm,Tm.upd],Sub.refl _,inv ⟨by omega,by omega,hx,by show n+1+Pb.St.yzs 0 y.body+((x.hds.drop (j+1)).map Hd.sz).sum+_<=_;omega⟩,by simp only;omega⟩
    ·have hd2:decide ((n:Int)<=200)=false:=decide_eq_false (by omega);rw [if_pos (by omega)] at hx;repeat' ((with_reducible first|refine wr ?_|refine A2 ?_ ?_|fail)<;>try simp only [go_sem,seval,hd,hdj,hd2,hg,hgj,hw,hwj,A0])
     refine ⟨(k+1,n),by simp [C9,tm,Tm.upd],Sub.refl _,inv ⟨by omega,by omega,hx,by show n+((M.drop (k+1)).map Md.sz).sum<=_;omega⟩,by simp only;omega⟩
   ·have hdj:decide ((j:Int)<(x.hds.length:Int))=false:=by simpa using hjl
    rw [A1P (by omega),B3y] at hx;repeat' ((with_reducible first|refine wr ?_|refine A2 ?_ ?_|fail)<;>try simp only [go_sem,seval,hd,hdj,hg,hw,A0])
    refine ⟨(k+1,n),by simp [C9,tm,Tm.upd],Sub.refl _,inv ⟨by omega,by omega,hx,by show n+((M.drop (k+1)).map Md.sz).sum<=_;omega⟩,by simp only;omega⟩
  ·have hd2:decide ((n:Int)<=200)=false:=decide_eq_false (by omega);repeat' ((with_reducible first|refine wr ?_|refine A2 ?_ ?_|fail)<;>try simp only [go_sem,seval,hd,hd2,hg,A0])
   rw [hend (by rw [if_pos (by omega)]),decide_eq_false hn];exact B3 rfl
 ·have hd:decide ((k:Int)<(M.length:Int))=false:=by simpa using hlt
  rw [A1P (by omega),A6a] at hend;repeat' ((with_reducible first|refine wr ?_|refine A2 ?_ ?_|fail)<;>try simp only [go_sem,seval,hd,A0,hle])
  rw [hend rfl];exact B3 rfl
theorem C6h {H:Hp} {a k u u' w n:Nat} {pre suf xs ds junk:List DV} (hk:H k=some ⟨w,true,pre++[.slc a 0 n]++suf⟩) (ha:H a=some ⟨u,true,A4 xs++junk⟩)
  (h1:∀ d∈pre++suf,d.one=true) (hl:xs.length=n) (hu:∀ x∈xs,x.cells.length=u') (hak:¬ a=k) :
  GL H ds ((H.del a).upd k ⟨w,true,pre++[.lst xs]++suf⟩) ds:=by
 have hz:FzL a ⟨u,true,A4 xs++junk⟩ (pre++[.slc a 0 n]++suf) (pre++[.lst xs]++suf) :=
  FzL.app (FzL.app (FzL.refl _) (.cons _ _ _ _ (N7 (blk:=⟨u,true,A4 xs++junk⟩) hl hu ⟨junk,rfl⟩) .nil)) (FzL.refl _)
 refine GL.frzT (id:=a) ha rfl (fun j=>?_) (FzL.refl ds);by_cases ej:j=k
 ·subst ej;refine .inr ⟨Ne.symm hak,.inr ⟨_,_,hk,A0,rfl,rfl,hz,fun d hd=>?_⟩⟩;simp only [A0V,A1T,A0N] at hd;rcases hd with hd|rfl|hd
  ·exact h1 d (A3K _ hd)
  ·rfl
  ·exact h1 d (A3I _ hd)
 ·rw [A3 ej];by_cases ea:j=a
  ·subst ea;exact .inl U0
  ·exact .inr ⟨ea,.inl (D5 ea)⟩
theorem A9u {α : Type} {l:List α} {n:Nat} {v : α} (h:n<l.length):l.set n v=l.take n++[v]++l.drop (n+1):=by
 rw [List.set_eq_take_append_cons_drop,if_pos h];simp
def ppB (D D':List Dc) (M:List Md) (v:DV):Hp:=((Sym.nil.upd 0 ⟨0,true,[E8 D,G6 M]⟩).upd 1 ⟨0,true,[.snil,.snil]⟩).upd 9 ⟨0,true,[E8 D',v]⟩
theorem A4y {D D':List Dc} {M:List Md} {v:DV}:ppB D D' M v 0=some ⟨0,true,[E8 D,G6 M]⟩:=rfl
theorem A4x {D D':List Dc} {M:List Md} {v:DV}:ppB D D' M v 1=some ⟨0,true,[.snil,.snil]⟩:=rfl
theorem A2h {D D':List Dc} {M:List Md} {v:DV}:ppB D D' M v 9=some ⟨0,true,[E8 D',v]⟩:=rfl
theorem C1f {D D':List Dc} {M:List Md} {v:DV} {j:Nat} (h:10<=j):ppB D D' M v j=none:=by
 unfold ppB;rw [A3 (by omega),A3 (by omega),A3 (by omega)];rfl
abbrev ppQ (D':List Dc) (M:List Md):Exit->Go.Sym.St->Prop:=rt [.cell 2 2 true] (fun v H' _ => ∃ H2,GL H' [v] H2 [.agg [E8 D',G6 M]])
theorem C7s {T:Tm} {H:Hp} {c x i u:Nat} {o:Bool} {a b:DV} {q:DV->Hp->Nat->Prop} (hT:T x=.ptr i 0) (hH:H i=some ⟨u,o,[a,b]⟩) (k:q (.agg [a,b]) H c):rt [.cell x 2 true] q .ret ⟨T,H,c⟩:=by
 rw [D9 (rv2 (s:=⟨T,H,c⟩) hT hH)];exact k
theorem c_ppM0 (D D':List Dc) (c:Nat):IW Tryz.prog 82 (pz Tryz.prog 38 (.o (.i (.i (.o .h))))) ⟨tm [(1,.ptr 0 0),(2,.ptr 1 0),(3,.ptr 9 0)],ppB D D' [] (G6 []),c⟩ (ppQ D' []):=by
 repeat' ((with_reducible first|refine wr ?_|refine A2 ?_ ?_|fail)<;>try simp only [go_sem,seval,A2h])
 refine D8 (fun k:Nat=>[(1,.ptr 0 0),(2,.ptr 1 0),(3,.ptr 9 0),(29,I64 0),(30,I64 0)]) (fun _=>ppB D D' [] (G6 [])) (fun k c=>True) (fun k=>0) 0 (by simp [C9,tm,Tm.upd]) (Sub.refl _) trivial ?_;rintro k c -;have ne0:=O0 0 1 9 (by omega);repeat' ((with_reducible first|refine wr ?_|refine A2 ?_ ?_|fail)<;>try simp only [go_sem,seval,ne0,A0,A1,A4y,A4x,A2h])
 exact C7s (i:=1) rfl A0 ⟨_,GL.refl _ _⟩
theorem c_ppM (D D':List Dc) (M:List Md) (hB:(M.map Md.sz).sum<=100000000000) (i c:Nat) (hi:10<=i) (hc:i<c) :
  IW Tryz.prog 82 (pz Tryz.prog 38 (.o (.i (.i (.o .h))))) ⟨tm [(1,.ptr 0 0),(2,.ptr 1 0),(3,.ptr 9 0)],(ppB D D' M (.slc i 0 M.length)).upd i ⟨4,true,A4 (M.map Md.v)⟩,c⟩ (ppQ D' (M.map Md.plain)):=by
 have hMl:M.length<=(M.map Md.sz).sum:=H6 fun x _=>by show 1<=1+_+_;omega
 have ne0:=V4 0 1 9 i (by omega);repeat' ((with_reducible first|refine wr ?_|refine A2 ?_ ?_|fail)<;>try simp only [go_sem,seval,ne0,A0,A1,A4y,A4x,A2h])
 obtain ⟨C,hC⟩:∃ C:Nat->List DV, ∀ k,C k=A4 ((A5g Md.plain M k).map Md.v):=⟨_,fun _=>rfl⟩;have hCl:∀ k,(C k).length=M.length * 4:=fun k=>by rw [hC,B5 (u:=4) (A0g _),A0G,A2r]
 refine D8 (fun k:Nat=>[(1,.ptr 0 0),(2,.ptr 1 0),(3,.ptr 9 0),(29,I64 M.length),(30,I64 k)]) (fun k=>(ppB D D' M (.slc i 0 M.length)).upd i ⟨4,true,C k⟩) (fun k c=>i<c/\k<=M.length) (fun k=>M.length-k) 0
  (by simp [C9,tm,Tm.upd]) (by rw [hC,A8n];exact Sub.refl _) ⟨hc,A0Y _⟩ ?_
 clear hc c;rintro k c ⟨hc,hk⟩;by_cases hlt:k<M.length
 ·have hd:decide ((k:Int)<(M.length:Int))=true:=by simpa using hlt
  have hg:=A0C hlt;have hsx:=J4 (f:=Md.sz) (A0S hlt);have hw:=w64 (n:=(k:Int)+1) (by omega) (by omega);generalize M[k]=x at hg hsx;have hxs:Md.sz x=1+x.name.length+(x.hds.map Hd.sz).sum:=rfl;have hxl:x.hds.length<=(x.hds.map Hd.sz).sum:=H6 fun x _=>by show 1<=1+_+_;omega
  have hix:A2j 4 (.slc i 0 M.length) (I64 k)=some (.ptr i (k * 4)):=by rw [A3f hlt,A1L]
  have hCk:=hCl k;repeat' ((with_reducible first|refine wr ?_|refine A2 ?_ ?_|fail)<;>try simp only [go_sem,seval,hd,hg,hw,hix,ne0,A0,A1,A4y,A4x,A2h])
  refine C4 (X2 rfl rfl (by omega)) ?_;simp only [go_sem,seval,ne0,A0,A1,A4y,A4x,A2h];have hCe:∀ {hs:List Hd},x.hds.map Hd.plain=hs->((C k).set (k * 4+3) (DV.int IntKind.i64 0)).set (k * 4+2) (T8 hs)=C (k+1):=by
   rintro _ rfl;obtain ⟨a1,a2⟩:=A5f Md.plain hg;rw [hC,hC,a1,a2,A0M,A0M,A0O,A0O];have hA:(A4 (((M.take k).map Md.plain).map Md.v)).length=k * 4:=by
    rw [B5 (u:=4) (A0g _),A0G,A0G,A1B];congr 1;omega
   rw [Z6,Z6,Z5 hA (by decide:3<4),Z5 hA (by decide:2<4)];rfl
  by_cases hx0:x.hds=[]
  ·repeat' ((with_reducible first|refine wr ?_|refine cpc c_CloneH0 ?_|refine A2 ?_ ?_|fail)<;>try simp only [go_sem,seval,hd,hg,hw,hix,hx0,ne0,A0,A1,A4y,A4x,A2h])
   refine ⟨by and_intros<;>((repeat rw [A3 (by omega)]);exact C1f (by omega)),M9 (X2 rfl rfl (by rw [A2Q];omega)) ?_⟩;have hcs:((((C k).set (k * 4+3) (DV.int IntKind.i64 0)).set (k * 4+2) (T8 [])))[k * 4+2]? = some (T8 []):=by rw [List.getElem?_set_self (by rw [A2Q];omega)]
   simp only [go_sem,seval,ne0,A0,A1,hix,A4y,A4x,A2h];repeat' ((with_reducible first|refine wr ?_|refine A2 ?_ ?_|fail)<;>try simp only [go_sem,seval,hd,hg,hw,hix,hx0,hcs,ne0,A0,A1,A4y,A4x,A2h])
   refine D8 (fun _:Nat=>[(1,.ptr 0 0),(2,.ptr 1 0),(3,.ptr 9 0),(29,I64 M.length),(30,I64 k),(56,I64 0),(57,I64 0)]) (fun _=>(ppB D D' M (.slc i 0 M.length)).upd i ⟨4,true,C (k+1)⟩) (fun _ n=>i<n) (fun _=>0) 0
    (by simp [C9,tm,Tm.upd]) (by rw [<- hCe (hs:=[]) (by rw [hx0];rfl)];exact Sub.refl _) (by omega) ?_
   rintro-n hn;repeat' ((with_reducible first|refine wr ?_|refine A2 ?_ ?_|fail)<;>try simp only [go_sem,seval,hw])
   exact ⟨k+1,by simp [C9,tm,Tm.upd],Sub.refl _,inv ⟨by omega,by omega⟩,by omega⟩
  ·repeat' ((with_reducible first|refine wr ?_|refine A2 ?_ ?_|fail)<;>try simp only [go_sem,seval,hd,hg,hw,hix,ne0,A0,A1,A4y,A4x,A2h])
   refine AC.call (c_CloneHo x.hds (by omega) hx0 _ _) ?_;rintro v' H' c2 ⟨rfl,rfl,rfl⟩ hc2;have ne0:=P0 0 1 9 i (c+13) (by omega);simp only [go_sem,seval,ne0,A0,A1,hix,A4y,A4x,A2h];refine ⟨by and_intros<;>((repeat rw [A3 (by omega)]);exact C1f (by omega)),M9 (X2 rfl rfl (by rw [A2Q];omega)) ?_⟩;have hcs:((((C k).set (k * 4+3) (DV.int IntKind.i64 0)).set (k * 4+2) (.slc (c+13) 0 x.hds.length)))[k * 4+2]? = some (.slc (c+13) 0 x.hds.length):=by rw [List.getElem?_set_self (by rw [A2Q];omega)]
   simp only [go_sem,seval,ne0,A0,A1,hix,A4y,A4x,A2h];repeat' ((with_reducible first|refine wr ?_|refine A2 ?_ ?_|fail)<;>try simp only [go_sem,seval,hd,hg,hw,hix,hcs,ne0,A0,A1,A4y,A4x,A2h])
   obtain ⟨CX,hCX⟩:∃ X,X=((C k).set (k * 4+3) (DV.int IntKind.i64 0)).set (k * 4+2) (.slc (c+13) 0 x.hds.length):=⟨_,rfl⟩;rw [<- hCX] at hcs ⊢;obtain ⟨K,hK⟩:∃ K:Nat->List DV, ∀ j,K j=A4 ((A5g Hd.plain x.hds j).map Hd.v):=⟨_,fun _=>rfl⟩;have hKl:∀ j,(K j).length=x.hds.length * 4:=fun j=>by rw [hK,B5 (u:=4) (V9 _),A0G,A2r]
   refine D8 (fun j:Nat=>[(1,.ptr 0 0),(2,.ptr 1 0),(3,.ptr 9 0),(5,I64 k),(29,I64 M.length),(30,I64 k),(56,I64 x.hds.length),(57,I64 j)]) (fun j=>((ppB D D' M (.slc i 0 M.length)).upd i ⟨4,true,CX⟩).upd (c+13) ⟨4,true,K j⟩) (fun j n=>c+13<n/\j<=x.hds.length) (fun j=>x.hds.length-j) 0
    (by simp [C9,tm,Tm.upd]) (by
     rw [hK,A8n];intro j b hj;by_cases e1:j=c+13
     ·subst e1;rw [A0] at hj;rw [A3 (by omega),A0];exact hj
     rw [A3 e1] at hj;by_cases e2:j=i
     ·subst e2;rw [A0] at hj ⊢;exact hj
     rw [A3 e2] at hj ⊢;rw [A3 e1,A3 e2];exact hj) ⟨by omega,A0Y _⟩ ?_
   rintro j n ⟨hn,hj⟩;by_cases hjl:j<x.hds.length
   ·have hdj:decide ((j:Int)<(x.hds.length:Int))=true:=by simpa using hjl
    have hgj:=A0C hjl;have hsj:=J4 (f:=Hd.sz) (A0S hjl);have hwj:=w64 (n:=(j:Int)+1) (by omega) (by omega);generalize x.hds[j]=y at hgj hsj;have hbs:Pb.St.szs y.body<Hd.sz y:=by unfold Hd.sz;omega
    have cb:=c_pplainS (Pb.St.szs y.body+1) y.body (by omega) (by omega);have hiy:A2j 4 (.slc (c+13) 0 x.hds.length) (I64 j)=some (.ptr (c+13) (j * 4)):=by rw [A3f hjl,A1L]
    have hKj:=hKl j;obtain ⟨a1,a2⟩:=A5f Hd.plain hgj;have hA:(A4 (((x.hds.take j).map Hd.plain).map Hd.v)).length=j * 4:=by
     rw [B5 (u:=4) (V9 _),A0G,A0G,A1B];congr 1;omega
    have hy2:(K j)[j * 4+2]? = some (F1 y.body):=by
     rw [hK,a1,A0M,A0O,Z6,A2I (by omega),hA,Nat.add_sub_cancel_left];rfl
    repeat' ((with_reducible first|refine wr ?_|refine cpc cb ?_|refine A2 ?_ ?_|fail)<;>try simp only [go_sem,seval,hdj,hix,hcs,hiy,hy2,hwj,ne0,A0,A1,A4y,A4x,A2h])
    refine C4 (X2 rfl rfl (by omega)) ?_;simp only [go_sem,seval,ne0,A0,A1,hix,hiy];repeat' ((with_reducible first|refine wr ?_|refine A2 ?_ ?_|fail)<;>try simp only [go_sem,seval,hdj,hix,hcs,hiy,hy2,hwj,ne0,A0,A1,A4y,A4x,A2h])
    refine C4 (X2 rfl rfl (by rw [A2Q];omega)) ?_;simp only [go_sem,seval,ne0,A0,A1,hwj];repeat' ((with_reducible first|refine wr ?_|refine A2 ?_ ?_|fail)<;>try simp only [go_sem,seval,hwj])
    have hKe:((K j).set (j * 4+3) (DV.int IntKind.i64 0)).set (j * 4+2) (F1 (y.body.map Pb.St.plain))=K (j+1):=by
     rw [hK,hK,a1,a2,A0M,A0M,A0O,A0O];rw [Z6,Z6,Z5 hA (by decide:3<4),Z5 hA (by decide:2<4)]
     congr 2
     show _=[I64 y.trig,.str y.name,F1 (Pb.St.plains y.body),I64 0];rw [Pb.St.plains_map];try rfl
    exact ⟨j+1,by simp [C9,tm,Tm.upd],by rw [<- hKe];exact Sub.refl _,inv ⟨by omega,by omega⟩,by omega⟩
   ·have hdj:decide ((j:Int)<(x.hds.length:Int))=false:=by simpa using hjl
    have hKM:K j=A4 ((x.hds.map Hd.plain).map Hd.v):=by rw [hK,A2s _ (by omega)]
    rw [hKM];repeat' ((with_reducible first|refine F9 (p:=IW _ _ (pz Tryz.prog 38 (.i (.i (.o (.i (.i .h)))))) _ _) ?_|refine wr ?_|refine A2 ?_ ?_|fail)<;>try simp only [go_sem,seval,hdj])
    unfold X3;have hCl2:=hCl k;have hone:∀ d∈(C k).set (k * 4+3) (DV.int IntKind.i64 0),d.one=true:=fun d hd=>by
     rcases List.mem_or_eq_of_mem_set hd with h|rfl
     ·rw [hC] at h;obtain ⟨z,hz,hd2⟩:=List.mem_flatMap.1 h;obtain ⟨w, -,rfl⟩:=A1M.1 hz;have hd2:d∈[.str w.name,I64 w.prio,T8 w.hds,I64 w.pos]:=hd2;simp at hd2;rcases hd2 with rfl|rfl|rfl|rfl<;>rfl
     ·rfl
    have hsp:CX=((C k).set (k * 4+3) (DV.int IntKind.i64 0)).take (k * 4+2)++[.slc (c+13) 0 x.hds.length]++((C k).set (k * 4+3) (DV.int IntKind.i64 0)).drop (k * 4+2+1):=by
     rw [hCX];exact A9u (by rw [A2Q];omega)
    have hfin:((C k).set (k * 4+3) (DV.int IntKind.i64 0)).take (k * 4+2)++[T8 (x.hds.map Hd.plain)]++((C k).set (k * 4+3) (DV.int IntKind.i64 0)).drop (k * 4+2+1)=C (k+1):=by
     rw [<- hCe rfl];exact (A9u (by rw [A2Q];omega)).symm
    refine IW.keep [1,2,3,29,30] [.ptr 0 0,.ptr 1 0,.ptr 9 0,I64 M.length,I64 k] (C6h (a:=c+13) (k:=i) (w:=4) (u:=4) (u':=4) (xs:=(x.hds.map Hd.plain).map Hd.v) (n:=x.hds.length) (junk:=[]) (by rw [A3 (by omega),A0,hsp]) (by rw [A0,A1J]) (fun d hd=>by
     rcases A1T.1 hd with h|h
     ·exact hone d (List.mem_of_mem_take h)
     ·exact hone d (A4C h)) (by simp) (V9 _) (by omega)) ?_
    rw [hfin];simp only [A3T,List.zip_nil_left];repeat' ((with_reducible first|refine wr ?_|refine A2 ?_ ?_|fail)<;>try simp only [go_sem,seval,hw])
    refine ⟨k+1,rfl,fun j b hj=>?_,inv ⟨by omega,by omega⟩,by omega⟩;by_cases e1:j=i
    ·subst e1;rw [A0] at hj ⊢;exact hj
    rw [A3 e1] at hj ⊢;by_cases e2:j=c+13
    ·subst e2;rw [C1f (by omega)] at hj;cases hj
    rw [D5 e2,A3 e2,A3 e1];exact hj
 ·have hd:decide ((k:Int)<(M.length:Int))=false:=by simpa using hlt
  have hCM:C k=A4 ((M.map Md.plain).map Md.v):=by rw [hC,A2s _ (by omega)]
  rw [hCM];repeat' ((with_reducible first|refine F9 (p:=IW _ _ (pz Tryz.prog 38 (.o (.o (.i (.i (.i .h)))))) _ _) ?_|refine wr ?_|refine A2 ?_ ?_|fail)<;>try simp only [go_sem,seval,hd])
  unfold X3;refine IW.keep [2,3] [.ptr 1 0,.ptr 9 0] (C2p (a:=i) (k:=9) (u:=4) (u':=4) (pre:=[E8 D']) (suf:=[]) (xs:=(M.map Md.plain).map Md.v) (junk:=[]) (n:=M.length) (by rw [A3 (by omega)];exact A2h) (by rw [A0,A1J]) (by simp [DV.one]) (by simp) (A0g _) (by omega)) ?_;simp only [A3T,List.zip_nil_left,List.singleton_append,A1J];repeat' ((with_reducible first|refine wr ?_|refine A2 ?_ ?_|fail)<;>try simp only [go_sem,seval,ne0,A0,A1,A4y,A4x,A2h])
  exact C7s (i:=1) rfl A0 ⟨_,GL.refl _ _⟩
theorem c_ppD0 (Q:Exit->Go.Sym.St->Prop) (G:DV) (c0:Nat) (H:Hp) (h9:H 9=some ⟨0,true,[.lst [],G]⟩)
  (next:∀ c,c0<=c->IW Tryz.prog 82 (pz Tryz.prog 38 (.o (.i (.i (.o .h))))) ⟨tm [(1,.ptr 0 0),(2,.ptr 1 0),(3,.ptr 9 0)],H,c⟩ Q):IW Tryz.prog 82 (pz Tryz.prog 38 (.i (.o .h))) ⟨tm [(1,.ptr 0 0),(2,.ptr 1 0),(3,.ptr 9 0)],H,c0⟩ Q:=by
 repeat' ((with_reducible first|refine wr ?_|refine A2 ?_ ?_|fail)<;>try simp only [go_sem,seval,h9])
 refine D8 (fun k:Nat=>[(1,.ptr 0 0),(2,.ptr 1 0),(3,.ptr 9 0),(17,I64 0),(18,I64 0)]) (fun _=>H) (fun k c=>c0<=c) (fun k=>0) 0 (by simp [C9,tm,Tm.upd]) (Sub.refl _) (A0E _) ?_;rintro k c hc;repeat' ((with_reducible first|refine F9 (p:=IW _ _ (pz Tryz.prog 38 (.o (.i (.i (.o .h))))) _ _) ?_|refine wr ?_|refine A2 ?_ ?_|fail)<;>try simp only [go_sem,seval])
 exact IW.stage (by simp [C9,tm,Tm.upd]) (next c hc)
theorem c_ppD (D:List Dc) (hD:D.length<=100000000000) (Q:Exit->Go.Sym.St->Prop) (G:DV) (hG:G.one=true) (c0 i:Nat) (hi:¬ i=9) (H Hn:Hp) (h9:H 9=some ⟨0,true,[.slc i 0 D.length,G]⟩) (hHi:H i=some ⟨4,true,A4 (D.map Dc.v)⟩)
  (hn:∀ j b,Hn j=some b->(j=9/\b=⟨0,true,[E8 (D.map Dc.plain),G]⟩)\/(¬ j=9/\¬ j=i/\H j=some b))
  (next:∀ c,c0<=c->IW Tryz.prog 82 (pz Tryz.prog 38 (.o (.i (.i (.o .h))))) ⟨tm [(1,.ptr 0 0),(2,.ptr 1 0),(3,.ptr 9 0)],Hn,c⟩ Q):IW Tryz.prog 82 (pz Tryz.prog 38 (.i (.o .h))) ⟨tm [(1,.ptr 0 0),(2,.ptr 1 0),(3,.ptr 9 0)],H,c0⟩ Q:=by
 have ne0:=A2i 9 i (by omega);repeat' ((with_reducible first|refine wr ?_|refine A2 ?_ ?_|fail)<;>try simp only [go_sem,seval,h9])
 obtain ⟨C,hC⟩:∃ C:Nat->List DV, ∀ k,C k=A4 ((A5g Dc.plain D k).map Dc.v):=⟨_,fun _=>rfl⟩;have hCl:∀ k,(C k).length=D.length * 4:=fun k=>by rw [hC,B5 (u:=4) (W1 _),A0G,A2r]
 refine D8 (fun k:Nat=>[(1,.ptr 0 0),(2,.ptr 1 0),(3,.ptr 9 0),(17,I64 D.length),(18,I64 k)]) (fun k=>H.upd i ⟨4,true,C k⟩) (fun k c=>c0<=c/\k<=D.length) (fun k=>D.length-k) 0
  (by simp [C9,tm,Tm.upd]) (by
   rw [hC,A8n];intro j b hj;by_cases e:j=i
   ·subst e;rw [A0] at hj;rw [hHi];exact hj
   ·rw [A3 e] at hj;exact hj) ⟨A0E _,A0Y _⟩ ?_
 rintro k c ⟨hc,hk⟩;by_cases hlt:k<D.length
 ·have hd:decide ((k:Int)<(D.length:Int))=true:=by simpa using hlt
  have hg:=A0C hlt;have hw:=w64 (n:=(k:Int)+1) (by omega) (by omega);generalize D[k]=x at hg;have hix:A2j 4 (.slc i 0 D.length) (I64 k)=some (.ptr i (k * 4)):=by rw [A3f hlt,A1L]
  have hCk:=hCl k;repeat' ((with_reducible first|refine wr ?_|refine A2 ?_ ?_|fail)<;>try simp only [go_sem,seval,hd,hw,hix,h9,ne0,A0,A1])
  refine C4 (X2 rfl rfl (by omega)) ?_;simp only [go_sem,seval,ne0,A0,A1,hw];repeat' ((with_reducible first|refine wr ?_|refine A2 ?_ ?_|fail)<;>try simp only [go_sem,seval,hw])
  refine ⟨k+1,by simp [C9,tm,Tm.upd],?_,inv ⟨by omega,by omega⟩,by omega⟩;have e:(C k).set (k * 4+3) (DV.int IntKind.i64 0)=C (k+1):=by
   obtain ⟨a1,a2⟩:=A5f Dc.plain hg;rw [hC,hC,a1,a2,A0M,A0M,A0O,A0O];have hA:(A4 (((D.take k).map Dc.plain).map Dc.v)).length=k * 4:=by
    rw [B5 (u:=4) (W1 _),A0G,A0G,A1B];congr 1;omega
   rw [Z6,Z6,Z5 hA (by decide:3<4)];rfl
  rw [<- e];exact Sub.refl _
 ·have hd:decide ((k:Int)<(D.length:Int))=false:=by simpa using hlt
  have hCM:C k=A4 ((D.map Dc.plain).map Dc.v):=by rw [hC,A2s _ (by omega)]
  rw [hCM];repeat' ((with_reducible first|refine F9 (p:=IW _ _ (pz Tryz.prog 38 (.o (.i (.i (.o .h))))) _ _) ?_|refine wr ?_|refine A2 ?_ ?_|fail)<;>try simp only [go_sem,seval,hd])
  unfold X3;refine IW.keep [1,2,3] [.ptr 0 0,.ptr 1 0,.ptr 9 0] (C2p (a:=i) (k:=9) (u:=4) (u':=4) (pre:=[]) (suf:=[G]) (xs:=(D.map Dc.plain).map Dc.v) (n:=D.length) (junk:=[]) (by rw [A3 (by omega)];exact h9) (by rw [A0,A1J]) (by simpa using hG) (by simp) (W1 _) hi) ?_;simp only [A3T,List.zip_nil_left,List.nil_append,List.singleton_append];refine IW.weaken (fun _=>.inr rfl) (fun j b hj=>?_) (next c hc);rcases hn j b hj with ⟨rfl,rfl⟩|⟨e1,e2,e3⟩
  ·exact A0
  ·rw [A3 e1,D5 e2,A3 e2];exact e3
theorem mgQ {X:Hp} {k t:Nat} {B:Blk} (h:¬ t=k):I9 [k] X ((Q6 X [k]).upd t B)=X.upd t B:=by
 funext j
 by_cases e:j=k
 ·subst e;simp only [I9,A0N,if_true];rw [A3 (fun e=>h e.symm)]
 ·simp only [I9,A0N,if_neg e];by_cases e2:j=t
  ·subst e2;rw [A0,A0]
  ·rw [A3 e2,A3 e2];simp only [Q6,A0N,if_neg e]
theorem A4p {X:Hp} {i j:Nat} {a b:Blk} (h:¬ i=j):(X.upd i a).upd j b=(X.upd j b).upd i a:=by
 funext n
 by_cases e1:n=i
 ·subst e1;rw [A3 h,A0,A0]
 ·by_cases e2:n=j
  ·subst e2;rw [A0,A3 e1,A0]
  ·rw [A3 e2,A3 e1,A3 e1,A3 e2]
theorem c_PPlain (r:Ru) (hB:r.sz<=100000000000):PC Tryz.prog 38 [r.v] r.plain.v:=by
 refine PC.ofT B1 rfl (A0B rfl) (by simp [DV.nlL,DV.nl,M8,M7]) (Ru.nl _) ?_;obtain ⟨D,M⟩:=r;have hDs:(D.map Dc.sz).sum+(M.map Md.sz).sum<=100000000000:=hB;have hDl:D.length<=(D.map Dc.sz).sum:=H6 fun x _=>by show 1<=1+_;omega
 have hMl:M.length<=(M.map Md.sz).sum:=H6 fun x _=>by show 1<=1+_+_;omega
 dsimp only [Ru.v,Ru.plain];by_cases hD0:D=[]
 ·subst hD0;by_cases hM0:M=[]
  ·subst hM0;repeat' ((with_reducible first|refine F9 (p:=IW _ _ (pz Tryz.prog 38 (.i (.o .h))) _ _) ?_|refine wr ?_|refine cpc c_CloneD0 ?_|refine cpc c_CloneM0 ?_|refine A2 ?_ ?_|fail)<;>try simp only [go_sem,seval])
   rw [A1];exact IW.stage (by simp [C9,tm,Tm.upd]) (c_ppD0 _ (G6 []) 11 _ A0 fun c _=>c_ppM0 [] [] c)
  ·have hmg:∀ (X:Hp) (B:Blk),I9 [9] X ((Q6 X [9]).upd 11 B)=X.upd 11 B:=fun X B=>mgQ (by decide);repeat' ((with_reducible first|refine wr ?_|refine cpc c_CloneD0 ?_|refine A2 ?_ ?_|fail)<;>try simp only [go_sem,seval])
   refine AC.call (c_CloneMo M (by omega) hM0 _ _) ?_;rintro v' H' c2 ⟨rfl,rfl,rfl⟩ hc2;simp only [go_sem,seval,hmg,A0];repeat' ((with_reducible first|refine F9 (p:=IW _ _ (pz Tryz.prog 38 (.i (.o .h))) _ _) ?_|refine wr ?_|refine A2 ?_ ?_|fail)<;>try simp only [go_sem,seval,A0])
   rw [A4p (by decide:¬ 11=9),A1];refine IW.stage (by simp [C9,tm,Tm.upd]) (c_ppD0 _ (.slc 11 0 M.length) 12 _ (by rw [A3 (by decide)];exact A0) fun c hc=>c_ppM [] [] M (by omega) 11 c (by decide) (by omega))
 ·have hmg:∀ (X:Hp) (B:Blk),I9 [9] X ((Q6 X [9]).upd 11 B)=X.upd 11 B:=fun X B=>mgQ (by decide);by_cases hM0:M=[]
  ·subst hM0;repeat' ((with_reducible first|refine wr ?_|refine A2 ?_ ?_|fail)<;>try simp only [go_sem,seval])
   refine AC.call (c_CloneDo D (by omega) hD0 _ _) ?_;rintro v' H' c2 ⟨rfl,rfl,rfl⟩ hc2;simp only [go_sem,seval,hmg,A0];repeat' ((with_reducible first|refine F9 (p:=IW _ _ (pz Tryz.prog 38 (.i (.o .h))) _ _) ?_|refine wr ?_|refine cpc c_CloneM0 ?_|refine A2 ?_ ?_|fail)<;>try simp only [go_sem,seval,A0])
   rw [A4p (by decide:¬ 11=9),A1];refine IW.stage (by simp [C9,tm,Tm.upd]) (c_ppD D (by omega) _ (G6 []) rfl 12 11 (by decide) _ (ppB D (D.map Dc.plain) [] (G6 [])) (by rw [A3 (by decide)];exact A0) A0 (fun j b hj=>?_) fun c _=>c_ppM0 D (D.map Dc.plain) c);by_cases e:j=9
   ·subst e;rw [A2h] at hj;exact .inl ⟨rfl,(Option.some.inj hj).symm⟩
   ·have e2:¬ j=11:=fun e2=>by subst e2;rw [C1f (by decide)] at hj;cases hj
    unfold ppB at hj;rw [A3 e] at hj;exact .inr ⟨e,e2,by rw [A3 e2,A3 e];exact hj⟩
  ·have hmg2:∀ (X:Hp) (B:Blk),I9 [9] X ((Q6 X [9]).upd 12 B)=X.upd 12 B:=fun X B=>mgQ (by decide);repeat' ((with_reducible first|refine wr ?_|refine A2 ?_ ?_|fail)<;>try simp only [go_sem,seval])
   refine AC.call (c_CloneDo D (by omega) hD0 _ _) ?_;rintro v' H' c2 ⟨rfl,rfl,rfl⟩ hc2;simp only [go_sem,seval,hmg,A0];repeat' ((with_reducible first|refine wr ?_|refine A2 ?_ ?_|fail)<;>try simp only [go_sem,seval,A0])
   refine AC.call (c_CloneMo M (by omega) hM0 _ _) ?_;rintro v' H' c2 ⟨rfl,rfl,rfl⟩ hc2;simp only [go_sem,seval,hmg2,A0];repeat' ((with_reducible first|refine F9 (p:=IW _ _ (pz Tryz.prog 38 (.i (.o .h))) _ _) ?_|refine wr ?_|refine A2 ?_ ?_|fail)<;>try simp only [go_sem,seval,A0])
   rw [A4p (by decide:¬ 12=9),A4p (by decide:¬ 11=9),A1];refine IW.stage (by simp [C9,tm,Tm.upd]) (c_ppD D (by omega) _ (.slc 12 0 M.length) rfl 13 11 (by decide) _ ((ppB D (D.map Dc.plain) M (.slc 12 0 M.length)).upd 12 ⟨4,true,A4 (M.map Md.v)⟩) (by rw [A3 (by decide),A3 (by decide)];exact A0) (by rw [A3 (by decide)];exact A0) (fun j b hj=>?_) fun c hc=>c_ppM D (D.map Dc.plain) M (by omega) 12 c (by decide) (by omega));by_cases e:j=9
   ·subst e;rw [A3 (by decide),A2h] at hj;exact .inl ⟨rfl,(Option.some.inj hj).symm⟩
   ·by_cases e3:j=12
    ·subst e3;rw [A0] at hj;exact .inr ⟨e,by decide,by rw [A0];exact hj⟩
    ·rw [A3 e3] at hj;have e2:¬ j=11:=fun e2=>by subst e2;rw [C1f (by decide)] at hj;cases hj
     unfold ppB at hj;rw [A3 e] at hj;exact .inr ⟨e,e2,by rw [A3 e3,A3 e2,A3 e];exact hj⟩
theorem c_SyntaxFormats (r:Ru) (hB:r.sz<=1048576):PC Tryz.prog 11 [r.v] (.bool true):=by
 have hs:=c_sane31;have hf:=c_few r (by omega);have v1:=c_Valid r (by omega);have v2:=c_ValidR31 r (by omega);rw [B6s] at v2;have f1:=c_PFormat r (by omega);have f2:=c_RFormat r (by omega);have p1:=c_PPlain r (by omega);have p2:=c_Plain31 r (by omega);have e1:=c_Same31 r.plain r.plain (by rw [Ru.plain_sz];omega);rw [C0m rfl] at e1;have hrv:∀ r:Ru,r.v=.agg [E8 r.decls,G6 r.modes]:=fun _=>rfl;rw [hrv] at hf v1 v2 f1 f2;rw [hrv r,hrv r.plain] at p1 p2;rw [hrv] at e1;refine PC.ofT B1 rfl (A0B rfl) (by simp [DV.nlL,DV.nl,M8,M7]) rfl ?_;rw [hrv];generalize B2b r=t at f1 f2;generalize r.plain.decls=pd at p1 p2 e1;generalize r.plain.modes=pm at p1 p2 e1;generalize Y5 r=b at v1 v2;have tt:(t == t)=true:=by simp
 have hft:(false != true)=true:=rfl;have hnf:(!false)=true:=rfl;have hnt:(!true)=false:=rfl;generalize D1q r=q at hf;cases q with
 | true =>
  cases b <;>
  repeat' ((with_reducible first|refine wr ?_|refine cpc hf ?_|refine cpc v1 ?_|refine cpc v2 ?_|refine cpc f1 ?_|refine cpc f2 ?_|refine cpc p1 ?_|refine cpc p2 ?_|refine cpc e1 ?_|refine cpc hs ?_|refine A2 ?_ ?_|fail)<;>try simp only [go_sem,seval,tt,hft,hnt])
  all_goals exact B3 rfl
 | false =>
  repeat' ((with_reducible first|refine wr ?_|refine cpc hf ?_|refine cpc hs ?_|refine A2 ?_ ?_|fail)<;>try simp only [go_sem,seval,hnf])
  all_goals exact B3 rfl
end Go.Proofs.YthlpinppaclofaaGreatDoor
end

/-
  HELPERS of the claim: part 9 of its texts.
-/
import Derived.Test.YthlpinppaclofaaGreatDoorSybh
import Derived.Test.YthlpinppaclofaaGreatDoorProg
noncomputable section
set_option linter.unusedVariables false
set_option linter.unusedSectionVars false
namespace Go.Pb
variable [Go.Sym.Tab]
open Go.Sym
def R9:List (List UInt8)->List Int->Int->List UInt8
 | w :: ks,v :: vs,x=>if v=x then w else R9 ks vs x
 | _,_,_=>[]
theorem A9q:∀ {ks:List (List UInt8)} {vs:List Int} {x:Int} {i:Nat} {w:List UInt8},vs.Nodup->ks[i]? = some w->vs[i]? = some x->R9 ks vs x=w
 | a :: ks,b :: vs,x,0,w,hn,h1,h2=>by simp at h1 h2;simp [R9,h1,h2]
 | a :: ks,b :: vs,x,i+1,w,hn,h1,h2=>by
  simp only [A2V] at h1 h2;have hne:b≠x:=fun e=>(List.nodup_cons.1 hn).1 (e▸A0Y h2);rw [R9,if_neg hne];exact A9q (List.nodup_cons.1 hn).2 h1 h2
 | [],_,_,_,_,_,h1,_=>by simp at h1
 | _ :: _,[],_,_,_,_,_,h2=>by simp at h2
theorem B5u:∀ {ks:List (List UInt8)} {vs:List Int} {x:Int},(∀ (i:Nat) (v:Int),i<ks.length->vs[i]? = some v->v≠x)->R9 ks vs x=[]
 | [],_,_,_=>by unfold R9;rfl
 | _ :: _,[],_,_=>rfl
 | a :: ks,b :: vs,x,h=>by
  rw [R9,if_neg (h 0 b (by simp) rfl)];exact B5u fun i v hi hv=>h (i+1) v (by simpa using hi) (by simpa using hv)
def B0o (x:Int):List UInt8:=if x=10 then [45] else if x=11 then [33] else R9 B7 B2d x
def wrL (k q:Int) (i:Nat) (l:List (List UInt8)):List (List UInt8):=if R1 k q i=true then [40] :: (l++[[41]]) else l
def txT (l:List Tok):List (List UInt8):=l.map K4
theorem K3 (s:List UInt8):K4 (A5 s)=s:=by
 unfold K4 A5;dsimp only;repeat' split
 all_goals first|rfl|omega|simp_all
theorem E9 (a b:List Tok):txT (a++b)=txT a++txT b:=A0Z
theorem B4i {k q m:Int} {i:Nat} {l:List Tok} (h:R1 k q i=decide (B4 q<m)):txT (E1 (q,l) m)=wrL k q i (txT l):=by
 unfold E1 wrL;rw [h];dsimp only;by_cases hc:B4 q<m
 ·rw [if_pos hc,if_pos (by simpa using hc),E9,E9];simp [txT,K3]
 ·rw [if_neg hc,if_neg (by simpa using hc)]
theorem A8c (k v:Int) (n:List UInt8) (a:List Ex) (p:Int):exT (.mk k v n a p)=F4 k v n (a.map fun e=>(e.kind,exT e)):=by rw [<- B1k];exact exT.eq_1 ..
theorem E2v {k v:Int} {n:List UInt8} {x:Ex} {p:Int} (hk:k=10\/k=11):txT (exT (.mk k v n [x] p))=B0o k :: wrL k x.kind 0 (txT (exT x)):=by
 have hw:R1 k x.kind 0=decide (B4 x.kind<6):=by
  unfold R1;rw [Z3 hk];simp
 rw [A8c, <- B4i hw];rcases hk with rfl|rfl<;>simp [F4,txT,K3,B0o,Z3]
theorem E7d (k q:Int):R1 k q 0=decide (B4 q<if B4 k=3 then 4 else B4 k):=by
 rw [A2O];simp only [R1,A0W,A0D,A0G,A1G,Nat.zero_ne_one,false_or];split<;>omega
theorem E7c (k q:Int):R1 k q 1=decide (B4 q<B4 k+1):=by
 rw [A2O];simp only [R1,A0W,A0D,A0G,A1G,true_or,and_true];omega
theorem D7x {k v:Int} {n:List UInt8} {x y:Ex} {p:Int} (hk:B4 k<6):txT (exT (.mk k v n [x,y] p))=wrL k x.kind 0 (txT (exT x))++B0o k :: wrL k y.kind 1 (txT (exT y)):=by
 rw [A8c, <- B4i (E7d k x.kind), <- B4i (E7c k y.kind)];obtain ⟨k1,k2⟩:=B5s (k:=k) (by omega);have k3:12<=k:=by
  apply Classical.byContradiction;intro hc;have:k=10\/k=11:=by omega
  rw [Z3 this] at hk;omega
 have hs:B7.getD (k-12).toNat []=B0o k:=by
  obtain ⟨j,rfl⟩:∃ j:Nat,k=12+(j:Int):=⟨(k-12).toNat,by omega⟩;have hj:j<13:=by omega
  have:∀ j:Nat,j<13->B7.getD (12+(j:Int)-12).toNat []=B0o (12+(j:Int)):=by decide
  exact this j hj
 simp only [A0N,A1Z];unfold F4;dsimp only;rw [if_neg (by omega),if_neg (by omega),if_neg (by omega),if_neg (by omega),if_neg (by omega),if_neg (by omega),if_neg (by omega),if_neg (by omega),if_neg (by omega),if_pos hk,E9,E9,hs];simp [txT,K3]
theorem D2i {k v:Int} {n:List UInt8} {p:Int} (hk:B4 k=7) (h0:kOk k=true) (h1:A0j k n=true) (h2:A0w k v=true) :
  txT (exT (.mk k v n [] p))=if k=1 then [G8 v] else if k=2 then [n] else R9 C9 F8 k :: (if A1t k=true then [n] else []):=by
 have hr:1<=k/\k<=9:=by
  unfold kOk at h0;simp only [hk,Int.lt_irrefl,decide_false,A4H,A0D,A0G] at h0;refine ⟨h0.1,Classical.byContradiction fun hc=>?_⟩;have:B4 k<7:=by unfold B4;repeat' split;all_goals omega
  omega
 rw [A8c];have hk9:k=1\/k=2\/k=3\/k=4\/k=5\/k=6\/k=7\/k=8\/k=9:=by omega
 rcases hk9 with rfl|rfl|rfl|rfl|rfl|rfl|rfl|rfl|rfl
 ·have hv:¬ (v<0\/2147483647<v):=by
   unfold A0w at h2;simp at h2;omega
  simp [F4,X2,hv,txT,K4]
 ·have hn:C2 n=true:=by simpa [A0j] using h1
  simp [F4,D1,hn,txT,K4]
 ·simp [F4,txT,K3,R9,C9,F8,A1t]
 ·simp [F4,txT,K3,R9,C9,F8,A1t]
 ·have hn:C2 n=true:=by simpa [A0j,A1t] using h1
  simp [F4,txT,K3,R9,C9,F8,A1t,D1,hn];rfl
 ·have hn:C2 n=true:=by simpa [A0j,A1t] using h1
  simp [F4,txT,K3,R9,C9,F8,A1t,D1,hn];rfl
 ·have hn:C2 n=true:=by simpa [A0j,A1t] using h1
  simp [F4,txT,K3,R9,C9,F8,A1t,D1,hn];rfl
 ·simp [F4,txT,K3,R9,C9,F8,A1t]
 ·simp [F4,txT,K3,R9,C9,F8,A1t]
theorem B0s {k:Int}:∀ {a:List Ex} {j o d:Nat},msL k j a=some (o,d)->∀ x∈a, ∃ o d,msM x=some (o,d)
 | [],_,_,_,_,x,hx=>by cases hx
 | e :: l,j,o,d,h,x,hx=>by
  unfold msL at h;split at h
  ·cases h
  ·rename_i o1 d1 h1;split at h
   ·cases h
   ·rename_i o2 d2 h2;rcases A1D.1 hx with rfl|hx
    ·exact ⟨_,_,h1⟩
    ·exact B0s h2 x hx
theorem P7 {s:List UInt8} (h:s.length<=100000):Fit (A5 s):=⟨h,by show -9223372036854775808<=(0:Int);decide,by show (0:Int)<=9223372036854775807;decide⟩
theorem B3q:Fit Y7:=⟨A1H _,by show -9223372036854775808<=(0:Int);decide,by show (0:Int)<=9223372036854775807;decide⟩
theorem A4u (n:List UInt8):∀ t∈D1 n,Fit t:=by
 intro t ht;unfold D1 at ht;split at ht
 ·obtain rfl:=A0R.1 ht;exact B3q
 ·rename_i hn;obtain rfl:=A0R.1 ht;refine ⟨?_,by show -9223372036854775808<=(0:Int);decide,by show (0:Int)<=9223372036854775807;decide⟩;have h1:C2 n=true:=by cases h:C2 n with|true=>rfl|false=>exact absurd h hn
  unfold C2 at h1;simp only [A0D,A0G] at h1;show n.length<=100000;omega
theorem D5i (v:Int):∀ t∈X2 v,Fit t:=by
 intro t ht;unfold X2 at ht;split at ht
 ·obtain rfl:=A0R.1 ht;exact B3q
 ·obtain rfl:=A0R.1 ht;exact ⟨A1H _,by dsimp only;omega,by dsimp only;omega⟩
theorem B1h {q:Int × List Tok} {m:Int} (h:∀ t∈q.2,Fit t):∀ t∈E1 q m,Fit t:=by
 intro t ht;unfold E1 at ht;split at ht
 ·simp only [A1A,A0R] at ht;rcases ht with (rfl|ht)|rfl
  ·exact P7 (by decide)
  ·exact h t ht
  ·exact P7 (by decide)
 ·exact h t ht
theorem A4v {a b:List Tok} (h1:∀ t∈a,Fit t) (h2:∀ t∈b,Fit t):∀ t∈a++b,Fit t:=fun t ht=>by
 rcases A1A.1 ht with h|h
 ·exact h1 t h
 ·exact h2 t h
theorem Q6 {x:Tok} (h:Fit x):∀ t∈[x],Fit t:=fun t ht=>by obtain rfl:=A0R.1 ht;exact h
theorem C5m {k v:Int} {n:List UInt8} {as1:List (Int × List Tok)} (h:∀ q∈as1, ∀ t∈q.2,Fit t):∀ t∈F4 k v n as1,Fit t:=by
 have hsg:∀ i:Nat,(B7.getD i []).length<=100000:=fun i=>by
  by_cases hi:i<13
  ·have:∀ i:Nat,i<13->(B7.getD i []).length<=100000:=by decide
   exact this i hi
  ·rw [A0S,A1Q (by show 13<=i;omega)];simp
 have fin:∀ t∈(match as1 with
  | [q]=>if B4 k=6 then [A5 (if k=10 then [45] else [33])]++E1 q 6 else [Y7]
  | [q,r]=>if B4 k<6 then E1 q (if B4 k=3 then 4 else B4 k)++[A5 (B7.getD (k-12).toNat [])]++E1 r (B4 k+1) else [Y7]
  | _=>[Y7]),Fit t:=by
  match as1 with
  | [q] =>
   dsimp only;split
   ·refine A4v (Q6 (P7 (by split<;>decide))) (B1h (h q (by simp)))
   ·exact Q6 B3q
  | [q,r] =>
   dsimp only;split
   ·exact A4v (A4v (B1h (h q (by simp))) (Q6 (P7 (hsg _)))) (B1h (h r (by simp)))
   ·exact Q6 B3q
  | []=>exact Q6 B3q
  | _ :: _ :: _ :: _=>exact Q6 B3q
 unfold F4;dsimp only;by_cases k1:k=1
 ·rw [if_pos k1];exact D5i v
 rw [if_neg k1];by_cases k2:k=2
 ·rw [if_pos k2];exact A4u n
 rw [if_neg k2];by_cases k3:k=3
 ·rw [if_pos k3];exact Q6 (P7 (by decide))
 rw [if_neg k3];by_cases k4:k=4
 ·rw [if_pos k4];exact Q6 (P7 (by decide))
 rw [if_neg k4];by_cases k8:k=8
 ·rw [if_pos k8];exact Q6 (P7 (by decide))
 rw [if_neg k8];by_cases k9:k=9
 ·rw [if_pos k9];exact Q6 (P7 (by decide))
 rw [if_neg k9];by_cases k5:k=5
 ·rw [if_pos k5];exact A4v (Q6 (P7 (by decide))) (A4u n)
 rw [if_neg k5];by_cases k6:k=6
 ·rw [if_pos k6];exact A4v (Q6 (P7 (by decide))) (A4u n)
 rw [if_neg k6];by_cases k7:k=7
 ·rw [if_pos k7];exact A4v (Q6 (P7 (by decide))) (A4u n)
 rw [if_neg k7];exact fin
theorem D5j:∀ (e:Ex), ∀ t∈exT e,Fit t:=by
 have:∀ (m:Nat) (e:Ex),e.sz<m->∀ t∈exT e,Fit t:=by
  intro m
  induction m with
  | zero=>intro e h;omega
  | succ m ih =>
   rintro ⟨k,v,n,a,p⟩ hm;rw [A8c];refine C5m fun q hq=>?_;obtain ⟨x,hx,rfl⟩:=A1I.1 hq;exact ih x (by have:=Ex.sz_arg (e:=.mk k v n a p) hx;omega)
 exact fun e=>this _ e (A2H _)
end Go.Pb
set_option maxHeartbeats 4000000
set_option maxRecDepth 100000
set_option linter.unusedSimpArgs false
namespace Go.Proofs.YthlpinppaclofaaGreatDoor
open Go.Eng (IC IOper DReg IFn J0)
open Go.Sym Go.Pb
theorem c_wordOf (x:Int):PC Tryz.prog 154 [I64 x] (.str (R9 B3 A0x x)):=by
 refine PC.ofT B2 rfl (A0A rfl) rfl rfl ?_;repeat' ((with_reducible first|refine E3 (p:=IW _ _ (pz Tryz.prog 154 (.o (.o .h))) _ _) ?_|refine wr ?_|refine A2 ?_ ?_|fail)<;>try simp only [go_sem,seval])
 unfold X7;refine B5y c_stms (σ := Unit) (fun _=>[(0,I64 x)]) (fun _=>nil) (fun D _ _ => ∀ i∈D, ∀ v,A0x[i]? = some v->v≠x) () (by decide) (fun _=>rfl) ⟨rfl,trivial⟩ (Sub.refl _) (fun i hi=>by cases hi) ?_ ?_
 ·intro D _ c hJ hall;repeat' ((with_reducible first|refine wr ?_|refine A2 ?_ ?_|fail)<;>try simp only [go_sem,seval])
  rw [B5u fun i v hi hv=>hJ i (hall i (by simpa using hi)) v hv];exact A9 rfl
 ·rintro it D _ c i kk vv hJ hDn hDb hiD hk hv;rw [A1C,A0M] at hk hv;obtain ⟨w,hw,rfl⟩:=hk;obtain ⟨u,hu,rfl⟩:=hv;by_cases hx:u=x
  ·subst hx;repeat' ((with_reducible first|refine wr ?_|refine A2 ?_ ?_|fail)<;>try simp only [go_sem,seval])
   rw [A9q (by decide) hw hu];exact A9 rfl
  ·have hx':(u == x)=false:=by simpa using hx
   repeat' ((with_reducible first|refine wr ?_|refine A2 ?_ ?_|fail)<;>try simp only [go_sem,seval,hx'])
   refine ⟨(),Sub.refl _,inv (I:=fun _ _=>_) (b:=()) (c:=c) fun j hj v hv'=>?_⟩;rcases A1D.1 hj with rfl|hj
   ·rw [hu] at hv';cases hv';exact hx
   ·exact hJ j hj v hv'
theorem c_signOf (x:Int):PC Tryz.prog 113 [I64 x] (.str (B0o x)):=by
 refine PC.ofT B2 rfl (A0A rfl) rfl rfl ?_;by_cases h10:x=10
 ·subst h10;repeat' ((with_reducible first|refine wr ?_|refine A2 ?_ ?_|fail)<;>try simp only [go_sem,seval])
  exact A9 rfl
 by_cases h11:x=11
 ·subst h11;repeat' ((with_reducible first|refine wr ?_|refine A2 ?_ ?_|fail)<;>try simp only [go_sem,seval])
  exact A9 rfl
 have e10:(x == 10)=false:=by simpa using h10
 have e11:(x == 11)=false:=by simpa using h11
 rw [B0o,if_neg h10,if_neg h11];repeat' ((with_reducible first|refine E3 (p:=IW _ _ (pz Tryz.prog 113 (.i (.o (.i (.o .h))))) _ _) ?_|refine wr ?_|refine A2 ?_ ?_|fail)<;>try simp only [go_sem,seval,e10,e11])
 unfold X7;refine B5y c_ops (σ := Unit) (fun _=>[(0,I64 x)]) (fun _=>nil) (fun D _ _ => ∀ i∈D, ∀ v,B2d[i]? = some v->v≠x) () (by decide) (fun _=>rfl) ⟨rfl,trivial⟩ (Sub.refl _) (fun i hi=>by cases hi) ?_ ?_
 ·intro D _ c hJ hall;repeat' ((with_reducible first|refine wr ?_|refine A2 ?_ ?_|fail)<;>try simp only [go_sem,seval])
  rw [B5u fun i v hi hv=>hJ i (hall i (by simpa using hi)) v hv];exact A9 rfl
 ·rintro it D _ c i kk vv hJ hDn hDb hiD hk hv;rw [A1C,A0M] at hk hv;obtain ⟨w,hw,rfl⟩:=hk;obtain ⟨u,hu,rfl⟩:=hv;by_cases hx:u=x
  ·subst hx;repeat' ((with_reducible first|refine wr ?_|refine A2 ?_ ?_|fail)<;>try simp only [go_sem,seval])
   rw [A9q (by decide) hw hu];exact A9 rfl
  ·have hx':(u == x)=false:=by simpa using hx
   repeat' ((with_reducible first|refine wr ?_|refine A2 ?_ ?_|fail)<;>try simp only [go_sem,seval,hx'])
   refine ⟨(),Sub.refl _,inv (I:=fun _ _=>_) (b:=()) (c:=c) fun j hj v hv'=>?_⟩;rcases A1D.1 hj with rfl|hj
   ·rw [hu] at hv';cases hv';exact hx
   ·exact hJ j hj v hv'
theorem Y5 {H:Hp} {i j:Nat}:A2h H (some i) j=if j=i then none else H j:=_root_.id rfl
theorem D1i {H:Hp} {i:Nat} {b:Blk}:A2h (H.upd i b) (some i)=A2h H (some i):=by
 funext j;rw [Y5,Y5];split
 ·rfl
 ·rename_i h;rw [A3 h]
theorem D5n {H:Hp} {i k:Nat} {b:Blk} (h:¬ k=i):A2h (H.upd k b) (some i)=(A2h H (some i)).upd k b:=by
 funext j;rw [Y5]
 by_cases e:j=k
 ·subst e;rw [A0,if_neg h,A0]
 ·rw [A3 e,A3 e,Y5]
theorem D5o {i:Nat}:A2h nil (some i)=nil:=by
 funext j;rw [Y5];split<;>rfl
attribute [go_sem] D1i D5n D5o
theorem C9a {f:Nat} {xs:List DV} {r:DV} {u id n cc:Nat} {H:Hp} {cs:List DV} (h:PC Tryz.prog f [.lst xs] r) (hb:H id=some ⟨u,true,cs⟩) (hcs:cs=A8 xs) (hl:xs.length=n) (hu:∀ x∈xs,x.cells.length=u) :
  AC Tryz.prog f [.slc id 0 n] H cc (fun v H' c'=>v=r/\H'=A2h H (some id)/\c'=cc) :=
 AC.ghost (GL.frzS (id:=id) hb rfl (fun j=>by
  by_cases e:j=id
  ·subst e;exact .inl (by rw [Y5,if_pos rfl])
  ·exact .inr ⟨e,by rw [Y5,if_neg e]⟩) (.cons _ _ _ _ (M9 hl hu ⟨[],by rw [hcs];simp⟩) .nil)) (h.at _ cc)
end Go.Proofs.YthlpinppaclofaaGreatDoor
set_option maxHeartbeats 8000000
namespace Go.Proofs.YthlpinppaclofaaGreatDoor
open Go.Eng (IC IOper DReg IFn J0)
open Go.Sym Go.Pb
theorem B8p (p:Bool):∀ (l l':List Ex) (k:Nat),l.length=l'.length->(P8 p (l.take k) (l'.take k)=true)->∀ x x',l[k]? = some x->l'[k]? = some x'->P8 p (l.take (k+1)) (l'.take (k+1))=B2i p x x'/\(B2i p x x'=false->P8 p l l'=false)
 | [],_,k,_,_,x,x',h,_=>by simp at h
 | _ :: _,[],k,h,_,_,_,_,_=>by simp at h
 | a :: l,a' :: l',0,_,_,x,x',h,h'=>by
  cases h;cases h';refine ⟨?_,fun e=>?_⟩
  ·simp [P8]
  ·rw [P8,e];rfl
 | a :: l,a' :: l',k+1,hl,he,x,x',h,h'=>by
  rw [A0X,A0X,P8,A0D] at he;have ih:=B8p p l l' k (by simpa using hl) he.2 x x' (by simpa using h) (by simpa using h');refine ⟨?_,fun e=>?_⟩
  ·rw [A0X,A0X,P8,he.1,A1J];exact ih.1
  ·rw [P8,ih.2 e,A3U]
theorem B3s (p:Bool):∀ (l l':List Ex),¬ l.length=l'.length->P8 p l l'=false
 | [],[],h=>absurd rfl h
 | [],_ :: _,_=>rfl
 | _ :: _,[],_=>rfl
 | a :: l,a' :: l',h=>by rw [P8,B3s p l l' (by simpa using h),A3U]
theorem c_sameEs (p:Bool) (l l':List Ex) (hl:l.length<=100000000000) (h:∀ x∈l, ∀ y,PC Tryz.prog 34 [x.v,y.v,.bool p] (.bool (B2i p x y))):PC Tryz.prog 72 [H9 l,H9 l',.bool p] (.bool (P8 p l l')):=by
 refine PC.ofT B2 rfl (A0A rfl) (by simp [DV.nlL,DV.nl,Z0]) rfl ?_;by_cases hlen:l.length=l'.length
 ·have hd0:((l.length:Int) != (l'.length:Int))=false:=by simp [hlen]
  repeat' ((with_reducible first|refine wr ?_|refine A2 ?_ ?_|fail)<;>try simp only [go_sem,seval,hd0,A0I])
  refine D2 (fun k:Nat=>[(0,H9 l),(1,H9 l'),(2,.bool p),(7,I64 k)]) (fun _=>Sym.nil) (fun k c=>k<=l.length/\P8 p (l.take k) (l'.take k)=true) (fun k=>l.length-k) 0 (by simp [C6,tm,Tm.upd]) (Sub.nil _) ⟨A1H _,rfl⟩ ?_;rintro k c ⟨hk,he⟩;by_cases hlt:k<l.length
  ·have hd:decide ((k:Int)<(l.length:Int))=true:=by simpa using hlt
   have hg:=A0E hlt;have hg':=A0E (l:=l') (i:=k) (by omega);have hw:=w64 (n:=(k:Int)+1);have hc:=h _ (A1B hlt) (l'[k]'(by omega));obtain ⟨s1,s2⟩:=B8p p l l' k hlen he _ _ hg hg';generalize l[k]=x at hg hc s1 s2;generalize l'[k]'(by omega)=x' at hg' hc s1 s2;rw [Ex.v_w,Ex.v_w] at hc;cases hx:B2i p x x' with
   | true =>
    repeat' ((with_reducible first|refine wr ?_|refine cpc hc ?_|refine A2 ?_ ?_|fail)<;>try simp only [go_sem,seval,hd,hg,hg',hw,hx,Ex.v_w,A0I])
    exact ⟨k+1,by simp [C6,tm,Tm.upd],Sub.nil _,inv ⟨by omega,by rw [s1];exact hx⟩,by omega⟩
   | false =>
    repeat' ((with_reducible first|refine wr ?_|refine cpc hc ?_|refine A2 ?_ ?_|fail)<;>try simp only [go_sem,seval,hd,hg,hg',hw,hx,Ex.v_w,A0I])
    exact ⟨_,by rw [s2 hx];exact GL.refl _ _⟩
  ·have hd:decide ((k:Int)<(l.length:Int))=false:=by simpa using hlt
   rw [A0O (by omega),A0O (by omega)] at he;repeat' ((with_reducible first|refine wr ?_|refine A2 ?_ ?_|fail)<;>try simp only [go_sem,seval,hd,A0I])
   exact ⟨_,by rw [he];exact GL.refl _ _⟩
 ·have hd0:((l.length:Int) != (l'.length:Int))=true:=by simp;omega
  repeat' ((with_reducible first|refine wr ?_|refine A2 ?_ ?_|fail)<;>try simp only [go_sem,seval,hd0,A0I])
  exact ⟨_,by rw [B3s p l l' hlen];exact GL.refl _ _⟩
theorem c_sameE (p:Bool):∀ (m:Nat) (a b:Ex),a.sz<m->a.sz<=100000000000->PC Tryz.prog 34 [a.v,b.v,.bool p] (.bool (B2i p a b)):=by
 intro m
 induction m with
 | zero=>intro a b h;omega
 | succ m ih =>
 intro a b hm hB;have hs:=c_sameEs p a.args b.args (by have:=a.sz_args;omega) (fun x hx y=>ih x y (by have:=Ex.sz_arg hx;omega) (by have:=Ex.sz_arg hx;omega));have e0:B2i p a b=(a.kind == b.kind && (a.value == b.value && (a.name == b.name && ((p || a.pos == b.pos) && P8 p a.args b.args)))):=by
  cases a with|mk k v n l q=>cases b with|mk k' v' n' l' q'=>rw [B2i];rfl
 refine PC.ofT B2 rfl (A0A rfl) (by simp [DV.nlL,DV.nl,Ex.nl]) rfl ?_;rw [Ex.v_w,Ex.v_w,e0];cases h1:a.kind == b.kind with
 | false =>
  repeat' ((with_reducible first|refine wr ?_|refine A2 ?_ ?_|fail)<;>try simp only [go_sem,seval,h1])
  exact ⟨_,GL.refl _ _⟩
 | true =>
  cases h2:a.value == b.value with
  | false =>
   repeat' ((with_reducible first|refine wr ?_|refine A2 ?_ ?_|fail)<;>try simp only [go_sem,seval,h1,h2])
   exact ⟨_,GL.refl _ _⟩
  | true =>
   cases h3:a.name == b.name with
   | false =>
    repeat' ((with_reducible first|refine wr ?_|refine A2 ?_ ?_|fail)<;>try simp only [go_sem,seval,h1,h2,h3])
    exact ⟨_,GL.refl _ _⟩
   | true =>
    cases hp:p with
    | true =>
     subst hp;repeat' ((with_reducible first|refine wr ?_|refine cpc hs ?_|refine A2 ?_ ?_|fail)<;>try simp only [go_sem,seval,h1,h2,h3])
     exact ⟨_,GL.refl _ _⟩
    | false =>
     subst hp;cases h4:a.pos == b.pos with
     | false =>
      repeat' ((with_reducible first|refine wr ?_|refine cpc hs ?_|refine A2 ?_ ?_|fail)<;>try simp only [go_sem,seval,h1,h2,h3,h4])
      exact ⟨_,GL.refl _ _⟩
     | true =>
      repeat' ((with_reducible first|refine wr ?_|refine cpc hs ?_|refine A2 ?_ ?_|fail)<;>try simp only [go_sem,seval,h1,h2,h3,h4])
      exact ⟨_,GL.refl _ _⟩
theorem B7a:∀ (l l':List Pb.St) (k:Nat),l.length=l'.length->(N4 (l.take k) (l'.take k)=true)->∀ x x',l[k]? = some x->l'[k]? = some x'->N4 (l.take (k+1)) (l'.take (k+1))=B9y x x'/\(B9y x x'=false->N4 l l'=false)
 | [],_,k,_,_,x,x',h,_=>by simp at h
 | _ :: _,[],k,h,_,_,_,_,_=>by simp at h
 | a :: l,a' :: l',0,_,_,x,x',h,h'=>by
  cases h;cases h';refine ⟨?_,fun e=>?_⟩
  ·simp [N4]
  ·rw [N4,e];rfl
 | a :: l,a' :: l',k+1,hl,he,x,x',h,h'=>by
  rw [A0X,A0X,N4,A0D] at he;have ih:=B7a l l' k (by simpa using hl) he.2 x x' (by simpa using h) (by simpa using h');refine ⟨?_,fun e=>?_⟩
  ·rw [A0X,A0X,N4,he.1,A1J];exact ih.1
  ·rw [N4,ih.2 e,A3U]
theorem B2p:∀ (l l':List Pb.St),¬ l.length=l'.length->N4 l l'=false
 | [],[],h=>absurd rfl h
 | [],_ :: _,_=>rfl
 | _ :: _,[],_=>rfl
 | a :: l,a' :: l',h=>by rw [N4,B2p l l' (by simpa using h),A3U]
theorem D8h (a b:Pb.St):B9y a b=(a.kind == b.kind && (a.name == b.name && (a.text == b.text && (a.pos == b.pos && (P8 false a.args b.args && (N4 a.thn b.thn && N4 a.els b.els)))))):=by
 cases a with|mk k n t a x y q=>cases b with|mk k' n' t' a' x' y' q'=>rw [B9y];rfl
theorem c_sameS:∀ (m:Nat) (l l':List Pb.St),Pb.St.szs l<m->Pb.St.szs l<=100000000000->PC Tryz.prog 74 [G1 l,G1 l'] (.bool (N4 l l')):=by
 intro m
 induction m with
 | zero=>intro a b h;omega
 | succ m ih =>
 intro l l' hm hB;have hl:=Pb.St.szs_len l;refine PC.ofT B2 rfl (A0A rfl) (by simp [DV.nlL,DV.nl,U0]) rfl ?_;by_cases hlen:l.length=l'.length
 ·have hd0:((l.length:Int) != (l'.length:Int))=false:=by simp [hlen]
  repeat' ((with_reducible first|refine wr ?_|refine A2 ?_ ?_|fail)<;>try simp only [go_sem,seval,hd0,A0I])
  refine D2 (fun k:Nat=>[(0,G1 l),(1,G1 l'),(5,I64 k)]) (fun _=>Sym.nil) (fun k c=>k<=l.length/\N4 (l.take k) (l'.take k)=true) (fun k=>l.length-k) 0 (by simp [C6,tm,Tm.upd]) (Sub.nil _) ⟨A1H _,rfl⟩ ?_;rintro k c ⟨hk,he⟩;by_cases hlt:k<l.length
  ·have hd:decide ((k:Int)<(l.length:Int))=true:=by simpa using hlt
   have hg:=A0E hlt;have hg':=A0E (l:=l') (i:=k) (by omega);have hw:=w64 (n:=(k:Int)+1);obtain ⟨s1,s2⟩:=B7a l l' k hlen he _ _ hg hg';have hsx:=Pb.St.szs_mem (A1B hlt);generalize l[k]=x at hg hsx s1 s2;generalize l'[k]'(by omega)=x' at hg' s1 s2;have ht:=x.sz_thn;have hy:=x.sz_els;have hargs:∀ y∈x.args,y.sz<x.sz:=fun y hy=>Pb.St.sz_arg hy;have hal:=x.sz_args;have ca:=c_sameEs false x.args x'.args (by omega) (fun y hy z=>c_sameE false (y.sz+1) y z (by omega) (by have:=hargs y hy;omega));have ct:=ih x.thn x'.thn (by omega) (by omega);have cy:=ih x.els x'.els (by omega) (by omega);rw [D8h] at s1 s2;have ne0:=X3 (c+8) (c+9) (by omega);have hn8:∀ i:Nat,Sym.nil (c+i)=none:=fun _=>rfl;repeat' ((with_reducible first|refine wr ?_|refine A2 ?_ ?_|fail)<;>try simp only [go_sem,seval,hd,hg,hg',Pb.St.v_w,A0I,ne0,A0,A1])
   refine ⟨by and_intros<;>(repeat rw [A3 (by omega)])<;>rfl,?_⟩;repeat' ((with_reducible first|refine E3 (p:=IW _ _ (pz Tryz.prog 74 (.o (.i (.o (.i .h))))) _ _) ?_|refine wr ?_|refine A2 ?_ ?_|fail)<;>try simp only [go_sem,seval,ne0,A0,A1])
   unfold X7;clear hd hg hg';cases h1:x.kind == x'.kind with
   | false =>
    have n1:(x.kind != x'.kind)=true:=by rw [bne,h1];rfl
    repeat' ((with_reducible first|refine wr ?_|refine cpc ca ?_|refine cpc ct ?_|refine cpc cy ?_|refine A2 ?_ ?_|fail)<;>try simp only [go_sem,seval,hw,ne0,A0,A1,n1])
    exact ⟨_,by rw [s2 (by rw [h1];rfl)];exact GL.refl _ _⟩
   | true =>
    have n1:(x.kind != x'.kind)=false:=by rw [bne,h1];rfl
    cases h2:x.name == x'.name with
    | false =>
     repeat' ((with_reducible first|refine wr ?_|refine cpc ca ?_|refine cpc ct ?_|refine cpc cy ?_|refine A2 ?_ ?_|fail)<;>try simp only [go_sem,seval,hw,ne0,A0,A1,n1,h2])
     exact ⟨_,by rw [s2 (by rw [h1,h2];rfl)];exact GL.refl _ _⟩
    | true =>
     cases h3:x.text == x'.text with
     | false =>
      repeat' ((with_reducible first|refine wr ?_|refine cpc ca ?_|refine cpc ct ?_|refine cpc cy ?_|refine A2 ?_ ?_|fail)<;>try simp only [go_sem,seval,hw,ne0,A0,A1,n1,h2,h3])
      exact ⟨_,by rw [s2 (by rw [h1,h2,h3];rfl)];exact GL.refl _ _⟩
     | true =>
      cases h4:x.pos == x'.pos with
      | false =>
       have n4:(x.pos != x'.pos)=true:=by rw [bne,h4];rfl
       repeat' ((with_reducible first|refine wr ?_|refine cpc ca ?_|refine cpc ct ?_|refine cpc cy ?_|refine A2 ?_ ?_|fail)<;>try simp only [go_sem,seval,hw,ne0,A0,A1,n1,h2,h3,n4])
       exact ⟨_,by rw [s2 (by rw [h1,h2,h3,h4];rfl)];exact GL.refl _ _⟩
      | true =>
       have n4:(x.pos != x'.pos)=false:=by rw [bne,h4];rfl
       cases h5:P8 false x.args x'.args with
       | false =>
        repeat' ((with_reducible first|refine wr ?_|refine cpc ca ?_|refine cpc ct ?_|refine cpc cy ?_|refine A2 ?_ ?_|fail)<;>try simp only [go_sem,seval,hw,ne0,A0,A1,n1,h2,h3,n4,h5])
        exact ⟨_,by rw [s2 (by rw [h1,h2,h3,h4,h5];rfl)];exact GL.refl _ _⟩
       | true =>
        cases h6:N4 x.thn x'.thn with
        | false =>
         repeat' ((with_reducible first|refine wr ?_|refine cpc ca ?_|refine cpc ct ?_|refine cpc cy ?_|refine A2 ?_ ?_|fail)<;>try simp only [go_sem,seval,hw,ne0,A0,A1,n1,h2,h3,n4,h5,h6])
         exact ⟨_,by rw [s2 (by rw [h1,h2,h3,h4,h5,h6];rfl)];exact GL.refl _ _⟩
        | true =>
         cases h7:N4 x.els x'.els with
         | false =>
          repeat' ((with_reducible first|refine wr ?_|refine cpc ca ?_|refine cpc ct ?_|refine cpc cy ?_|refine A2 ?_ ?_|fail)<;>try simp only [go_sem,seval,hw,ne0,A0,A1,n1,h2,h3,n4,h5,h6,h7])
          exact ⟨_,by rw [s2 (by rw [h1,h2,h3,h4,h5,h6,h7];rfl)];exact GL.refl _ _⟩
         | true =>
          repeat' ((with_reducible first|refine wr ?_|refine cpc ca ?_|refine cpc ct ?_|refine cpc cy ?_|refine A2 ?_ ?_|fail)<;>try simp only [go_sem,seval,hw,ne0,A0,A1,n1,h2,h3,n4,h5,h6,h7])
          exact ⟨k+1,by simp [C6,tm,Tm.upd],Sub.nil _,inv ⟨by omega,by rw [s1,h1,h2,h3,h4,h5,h6,h7];rfl⟩,by omega⟩
  ·have hd:decide ((k:Int)<(l.length:Int))=false:=by simpa using hlt
   rw [A0O (by omega),A0O (by omega)] at he;repeat' ((with_reducible first|refine wr ?_|refine A2 ?_ ?_|fail)<;>try simp only [go_sem,seval,hd,A0I])
   exact ⟨_,by rw [he];exact GL.refl _ _⟩
 ·have hd0:((l.length:Int) != (l'.length:Int))=true:=by simp;omega
  repeat' ((with_reducible first|refine wr ?_|refine A2 ?_ ?_|fail)<;>try simp only [go_sem,seval,hd0,A0I])
  exact ⟨_,by rw [B2p l l' hlen];exact GL.refl _ _⟩
def C4p (a b:Ru):Bool:=@decide (a=b) (Classical.propDecidable _)
theorem C7z {a b:Ru} (h:a=b):C4p a b=true:=by unfold C4p;exact @decide_eq_true _ (_) h
theorem D8n {a b:Ru} (h:¬ a=b):C4p a b=false:=by unfold C4p;exact @decide_eq_false _ (_) h
theorem B4l {α : Type} {l l':List α} {k:Nat} {x x' : α} (h:l.take k=l'.take k) (hx:l[k]? = some x) (hx':l'[k]? = some x') (e:x=x'):l.take (k+1)=l'.take (k+1):=by
 rw [A2J,A2J,h,hx,hx',e]
theorem Q3 {α : Type} {l l':List α} {k:Nat} {x x' : α} (hx:l[k]? = some x) (hx':l'[k]? = some x') (e:¬ x=x'):¬ l=l':=by
 rintro rfl;rw [hx] at hx';exact e (Option.some.inj hx')
theorem C2j {H H':Hp} {c:Nat} (h1:∀ j b,H j=some b->j<c) (h2:∀ j,j<c->H' j=H j):Sym.Sub H H':=fun j b hj=>by rw [h2 j (h1 j b hj)];exact hj
theorem c_Same31 (a b:Ru) (hB:a.sz<=100000000000):PC Tryz.prog 37 [a.v,b.v] (.bool (C4p a b)):=by
 refine PC.ofT B2 rfl (A0A rfl) (by simp [DV.nlL,DV.nl,W4,W3]) rfl ?_;obtain ⟨R,hR⟩:∃ R,R=C4p a b:=⟨_,rfl⟩;rw [<- hR];obtain ⟨D,M⟩:=a;obtain ⟨D',M'⟩:=b;have hF:(¬ D=D'\/¬ M=M')->R=false:=fun h=>by
  rw [hR];exact D8n fun e=>by cases e;exact h.elim (· rfl) (· rfl)
 have hT:D=D'->M=M'->R=true:=fun h1 h2=>by rw [hR];exact C7z (by rw [h1,h2])
 clear hR;have hDs:(D.map Dc.sz).sum+(M.map Md.sz).sum<=100000000000:=hB;have hDl:D.length<=(D.map Dc.sz).sum:=M6 fun x _=>by show 1<=1+_;omega
 have hMl:M.length<=(M.map Md.sz).sum:=M6 fun x _=>by show 1<=1+_+_;omega
 dsimp only [Ru.v];by_cases l1:D.length=D'.length
 case neg =>
  have f1:((D.length:Int) != (D'.length:Int))=true:=by simp;omega
  repeat' ((with_reducible first|refine wr ?_|refine A2 ?_ ?_|fail)<;>try simp only [go_sem,seval,f1,A0I])
  exact ⟨_,by rw [hF (.inl fun e=>l1 (by rw [e]))];exact GL.refl _ _⟩
 have f1:((D.length:Int) != (D'.length:Int))=false:=by simp [l1]
 by_cases l2:M.length=M'.length
 case neg =>
  have f2:((M.length:Int) != (M'.length:Int))=true:=by simp;omega
  repeat' ((with_reducible first|refine wr ?_|refine A2 ?_ ?_|fail)<;>try simp only [go_sem,seval,f1,f2,A0I])
  exact ⟨_,by rw [hF (.inr fun e=>l2 (by rw [e]))];exact GL.refl _ _⟩
 have f2:((M.length:Int) != (M'.length:Int))=false:=by simp [l2]
 repeat' ((with_reducible first|refine wr ?_|refine A2 ?_ ?_|fail)<;>try simp only [go_sem,seval,f1,f2,A0I])
 refine D2 (fun k:Nat=>[(2,.ptr 0 0),(3,.ptr 1 0),(5,I64 k)]) (fun _=>(Sym.nil.upd 0 ⟨0,true,[O1 D,U2 M]⟩).upd 1 ⟨0,true,[O1 D',U2 M']⟩) (fun k c=>2<=c/\k<=D.length/\D.take k=D'.take k) (fun k=>D.length-k) 0 (by simp [C6,tm,Tm.upd]) (Sub.refl _) ⟨by omega,A1H _,rfl⟩ ?_;rintro k c ⟨hc,hk,he⟩;by_cases hlt:k<D.length
 ·have hd:decide ((k:Int)<(D.length:Int))=true:=by simpa using hlt
  have hg:=A0E hlt;have hg':=A0E (l:=D') (i:=k) (by omega);have hw:=w64 (n:=(k:Int)+1);generalize D[k]=x at hg;generalize D'[k]'(by omega)=x' at hg';have hq:(x.kind == x'.kind && (x.name == x'.name && (x.value == x'.value && x.pos == x'.pos)))=true↔x=x':=by
   cases x;cases x';simp only [A0D,A1G,Dc.mk.injEq]
  by_cases hx:x=x'
  ·have hqt:(true != (x.kind == x'.kind && (x.name == x'.name && (x.value == x'.value && x.pos == x'.pos))))=false:=by rw [hq.2 hx];rfl
   repeat' ((with_reducible first|refine wr ?_|refine A2 ?_ ?_|fail)<;>try simp only [go_sem,seval,hd,hg,hg',hw,D7c,hqt,A0I])
   exact ⟨k+1,by simp [C6,tm,Tm.upd],Sub.refl _,inv ⟨by omega,by omega,B4l he hg hg' hx⟩,by omega⟩
  ·have hqf:(true != (x.kind == x'.kind && (x.name == x'.name && (x.value == x'.value && x.pos == x'.pos))))=true:=by
    rw [show (x.kind == x'.kind && (x.name == x'.name && (x.value == x'.value && x.pos == x'.pos)))=false from by
     cases hz:(x.kind == x'.kind && (x.name == x'.name && (x.value == x'.value && x.pos == x'.pos))) with
     | false=>rfl
     | true=>exact absurd (hq.1 hz) hx]
    rfl
   repeat' ((with_reducible first|refine wr ?_|refine A2 ?_ ?_|fail)<;>try simp only [go_sem,seval,hd,hg,hg',hw,D7c,hqf,A0I])
   exact ⟨_,by rw [hF (.inl (Q3 hg hg' hx))];exact GL.refl _ _⟩
 ·have hd:decide ((k:Int)<(D.length:Int))=false:=by simpa using hlt
  rw [A0O (by omega),A0O (by omega)] at he;repeat' ((with_reducible first|refine wr ?_|refine A2 ?_ ?_|fail)<;>try simp only [go_sem,seval,hd,A0I])
  have hDD:=he;clear hd hlt he hk;refine D2 (fun k:Nat=>[(2,.ptr 0 0),(3,.ptr 1 0),(6,I64 k)]) (fun _=>(Sym.nil.upd 0 ⟨0,true,[O1 D,U2 M]⟩).upd 1 ⟨0,true,[O1 D',U2 M']⟩) (fun k c=>2<=c/\k<=M.length/\M.take k=M'.take k) (fun k=>M.length-k) 0 (by simp [C6,tm,Tm.upd]) (Sub.refl _) ⟨hc,A1H _,rfl⟩ ?_;clear hc k c;rintro k c ⟨hc,hk,he⟩;by_cases hlt:k<M.length
  ·have hd:decide ((k:Int)<(M.length:Int))=true:=by simpa using hlt
   have hg:=A0E hlt;have hg':=A0E (l:=M') (i:=k) (by omega);have hw:=w64 (n:=(k:Int)+1);have hsx:=O3 (f:=Md.sz) (A1B hlt);generalize M[k]=x at hg hsx;generalize M'[k]'(by omega)=x' at hg';have hxs:(x.hds.map Hd.sz).sum<Md.sz x:=by unfold Md.sz;omega
   have hxl:x.hds.length<=(x.hds.map Hd.sz).sum:=M6 fun x _=>by show 1<=1+_+_;omega
   have ne0:=A7y 0 1 (c+10) (c+11) (by omega);repeat' ((with_reducible first|refine wr ?_|refine A2 ?_ ?_|fail)<;>try simp only [go_sem,seval,hd,hg,hg',ne0,A0,A1,A0I])
   refine ⟨by and_intros<;>(repeat rw [A3 (by omega)])<;>rfl,?_⟩;repeat' ((with_reducible first|refine E3 (p:=IW _ _ (pz Tryz.prog 37 (.i (.i (.i (.i (.o .h)))))) _ _) ?_|refine wr ?_|refine A2 ?_ ?_|fail)<;>try simp only [go_sem,seval,ne0,A0,A1])
   unfold X7;clear hd;by_cases h1:x.name=x'.name
   case neg =>
    have nh1:(x.name == x'.name)=false:=by simpa using h1
    repeat' ((with_reducible first|refine wr ?_|refine A2 ?_ ?_|fail)<;>try simp only [go_sem,seval,ne0,A0,A1,A0I,nh1])
    exact ⟨_,by rw [hF (.inr (Q3 hg hg' fun e=>h1 (by rw [e])))];exact GL.refl _ _⟩
   case pos =>
    have nh1:(x.name == x'.name)=true:=by simpa using h1
    by_cases h2:x.prio=x'.prio
    case neg =>
     have nh2:(x.prio != x'.prio)=true:=by simpa using h2
     repeat' ((with_reducible first|refine wr ?_|refine A2 ?_ ?_|fail)<;>try simp only [go_sem,seval,ne0,A0,A1,A0I,nh1,nh2])
     exact ⟨_,by rw [hF (.inr (Q3 hg hg' fun e=>h2 (by rw [e])))];exact GL.refl _ _⟩
    case pos =>
     have nh2:(x.prio != x'.prio)=false:=by simpa using h2
     by_cases h3:x.pos=x'.pos
     case neg =>
      have nh3:(x.pos != x'.pos)=true:=by simpa using h3
      repeat' ((with_reducible first|refine wr ?_|refine A2 ?_ ?_|fail)<;>try simp only [go_sem,seval,ne0,A0,A1,A0I,nh1,nh2,nh3])
      exact ⟨_,by rw [hF (.inr (Q3 hg hg' fun e=>h3 (by rw [e])))];exact GL.refl _ _⟩
     case pos =>
      have nh3:(x.pos != x'.pos)=false:=by simpa using h3
      by_cases h4:x.hds.length=x'.hds.length
      case neg =>
       have nh4:((x.hds.length:Int) != (x'.hds.length:Int))=true:=by simp;omega
       repeat' ((with_reducible first|refine wr ?_|refine A2 ?_ ?_|fail)<;>try simp only [go_sem,seval,ne0,A0,A1,A0I,nh1,nh2,nh3,nh4])
       exact ⟨_,by rw [hF (.inr (Q3 hg hg' fun e=>h4 (by rw [e])))];exact GL.refl _ _⟩
      case pos =>
       have nh4:((x.hds.length:Int) != (x'.hds.length:Int))=false:=by simp [h4]
       repeat' ((with_reducible first|refine wr ?_|refine A2 ?_ ?_|fail)<;>try simp only [go_sem,seval,ne0,A0,A1,A0I,nh1,nh2,nh3,nh4])
       refine D2 (fun j:Nat=>[(2,.ptr 0 0),(3,.ptr 1 0),(6,I64 k),(7,.ptr (c+10) 0),(8,.ptr (c+11) 0),(9,I64 j)]) (fun _=>(((Sym.nil.upd 0 ⟨0,true,[O1 D,U2 M]⟩).upd 1 ⟨0,true,[O1 D',U2 M']⟩).upd (c+10) ⟨0,true,[.str x.name,I64 x.prio,A0z x.hds,I64 x.pos]⟩).upd (c+11) ⟨0,true,[.str x'.name,I64 x'.prio,A0z x'.hds,I64 x'.pos]⟩) (fun j n=>c+12<=n/\j<=x.hds.length/\x.hds.take j=x'.hds.take j) (fun j=>x.hds.length-j) 0 (by simp [C6,tm,Tm.upd]) ?_ ⟨by omega,A1H _,rfl⟩ ?_
       ·intro j b hj;by_cases e1:j=c+11
        ·subst e1;rw [A0] at hj ⊢;exact hj
        rw [A3 e1] at hj ⊢;by_cases e2:j=c+10
        ·subst e2;rw [A0] at hj ⊢;exact hj
        rw [A3 e2] at hj ⊢
        repeat rw [A3 (by omega)]
        exact hj
       rintro j n ⟨hn,hj,hej⟩;by_cases hjl:j<x.hds.length
       ·have hdj:decide ((j:Int)<(x.hds.length:Int))=true:=by simpa using hjl
        have gj:=A0E hjl;have gj':=A0E (l:=x'.hds) (i:=j) (by omega);have hwj:=w64 (n:=(j:Int)+1);have hsj:=O3 (f:=Hd.sz) (A1B hjl);generalize x.hds[j]=y at gj hsj;generalize x'.hds[j]'(by omega)=y' at gj';have hbs:Pb.St.szs y.body<Hd.sz y:=by unfold Hd.sz;omega
        have cs:=c_sameS (Pb.St.szs y.body+1) y.body y'.body (by omega) (by omega);have ne0:=E4c 0 1 (c+10) (c+11) (n+10) (n+11) (by omega);repeat' ((with_reducible first|refine wr ?_|refine A2 ?_ ?_|fail)<;>try simp only [go_sem,seval,hdj,gj,gj',ne0,A0,A1,A0I])
        refine ⟨by and_intros<;>(repeat rw [A3 (by omega)])<;>rfl,?_⟩;repeat' ((with_reducible first|refine E3 (p:=IW _ _ (pz Tryz.prog 37 (.i (.o (.i (.o (.o (.o .h))))))) _ _) ?_|refine wr ?_|refine A2 ?_ ?_|fail)<;>try simp only [go_sem,seval,ne0,A0,A1])
        unfold X7;clear hdj;by_cases q1:y.trig=y'.trig
        case neg =>
         have nq1:(y.trig != y'.trig)=true:=by simpa using q1
         repeat' ((with_reducible first|refine wr ?_|refine cpc cs ?_|refine A2 ?_ ?_|fail)<;>try simp only [go_sem,seval,hwj,ne0,A0,A1,nq1])
         exact ⟨_,by rw [hF (.inr (Q3 hg hg' fun e=>Q3 gj gj' (fun e2=>by exact q1 (by rw [e2])) (by rw [e])))];exact GL.refl _ _⟩
        case pos =>
         have nq1:(y.trig != y'.trig)=false:=by simpa using q1
         by_cases q2:y.name=y'.name
         case neg =>
          have nq2:(y.name == y'.name)=false:=by simpa using q2
          repeat' ((with_reducible first|refine wr ?_|refine cpc cs ?_|refine A2 ?_ ?_|fail)<;>try simp only [go_sem,seval,hwj,ne0,A0,A1,nq1,nq2])
          exact ⟨_,by rw [hF (.inr (Q3 hg hg' fun e=>Q3 gj gj' (fun e2=>by exact q2 (by rw [e2])) (by rw [e])))];exact GL.refl _ _⟩
         case pos =>
          have nq2:(y.name == y'.name)=true:=by simpa using q2
          by_cases q3:y.pos=y'.pos
          case neg =>
           have nq3:(y.pos != y'.pos)=true:=by simpa using q3
           repeat' ((with_reducible first|refine wr ?_|refine cpc cs ?_|refine A2 ?_ ?_|fail)<;>try simp only [go_sem,seval,hwj,ne0,A0,A1,nq1,nq2,nq3])
           exact ⟨_,by rw [hF (.inr (Q3 hg hg' fun e=>Q3 gj gj' (fun e2=>by exact q3 (by rw [e2])) (by rw [e])))];exact GL.refl _ _⟩
          case pos =>
           have nq3:(y.pos != y'.pos)=false:=by simpa using q3
           cases q4:N4 y.body y'.body with
           | false =>
            repeat' ((with_reducible first|refine wr ?_|refine cpc cs ?_|refine A2 ?_ ?_|fail)<;>try simp only [go_sem,seval,hwj,ne0,A0,A1,nq1,nq2,nq3,q4])
            exact ⟨_,by rw [hF (.inr (Q3 hg hg' fun e=>Q3 gj gj' (fun e2=>by rw [e2,(A2b _ _).2 rfl] at q4;cases q4) (by rw [e])))];exact GL.refl _ _⟩
           | true =>
            repeat' ((with_reducible first|refine wr ?_|refine cpc cs ?_|refine A2 ?_ ?_|fail)<;>try simp only [go_sem,seval,hwj,ne0,A0,A1,nq1,nq2,nq3,q4])
            exact ⟨j+1,by simp [C6,tm,Tm.upd],(C2j (c:=n) (fun j0 b0 h0=>by by_cases a1:j0=c+11;omega;rw [A3 a1] at h0;by_cases a2:j0=c+10;omega;rw [A3 a2] at h0;by_cases a3:j0=1;omega;rw [A3 a3] at h0;by_cases a4:j0=0;omega;rw [A3 a4] at h0;cases h0) (fun j0 h0=>by repeat rw [A3 (by omega)])),inv ⟨by omega,by omega,B4l hej gj gj' (by cases y;cases y';simp only [Hd.mk.injEq] at *;exact ⟨q1,q2,(A2b _ _).1 q4,q3⟩)⟩,by omega⟩
       ·have hdj:decide ((j:Int)<(x.hds.length:Int))=false:=by simpa using hjl
        rw [A0O (by omega),A0O (by omega)] at hej;have ne0:=A7y 0 1 (c+10) (c+11) (by omega);repeat' ((with_reducible first|refine wr ?_|refine A2 ?_ ?_|fail)<;>try simp only [go_sem,seval,hdj,hw,ne0,A0,A1,A0I])
        exact ⟨k+1,by simp [C6,tm,Tm.upd],(C2j (c:=c) (fun j0 b0 h0=>by by_cases a3:j0=1;omega;rw [A3 a3] at h0;by_cases a4:j0=0;omega;rw [A3 a4] at h0;cases h0) (fun j0 h0=>by repeat rw [A3 (by omega)])),inv ⟨by omega,by omega,B4l he hg hg' (by cases x;cases x';simp only [Md.mk.injEq] at *;exact ⟨h1,h2,hej,h3⟩)⟩,by omega⟩
  ·have hd:decide ((k:Int)<(M.length:Int))=false:=by simpa using hlt
   rw [A0O (by omega),A0O (by omega)] at he;repeat' ((with_reducible first|refine wr ?_|refine A2 ?_ ?_|fail)<;>try simp only [go_sem,seval,hd,A0I])
   exact ⟨_,by rw [hT hDD he];exact GL.refl _ _⟩
theorem c_IF_dc {g:Dc->Bool} {f:Nat} {a cs:List DV} (xs:List (Dc)) (hx:xs.length<=9223372036854775807) (na:DV.nlL a=true) (ncs:DV.nlL cs=true) (hf:∀ x∈xs,PC Tryz.prog f (a++[Dc.v x]++cs) (.bool (g x))) :
  PC Tryz.prog 90 [O1 xs,.func f a cs] (I64 (A2f g xs 0)):=by
 refine PC.ofT B2 rfl (A0A rfl) (by simp [DV.nlL,DV.nl,W4,na,ncs]) rfl ?_;repeat' ((with_reducible first|refine wr ?_|refine A2 ?_ ?_|fail)<;>try simp only [go_sem,seval,A0I])
 refine D2 (fun k:Nat=>[(0,O1 xs),(1,.func f a cs),(7,I64 xs.length),(8,I64 k)]) (fun _=>nil) (fun k _=>k<=xs.length/\A2f g xs 0=A2f g (xs.drop k) k) (fun k=>xs.length-k) 0 (by simp [C6,tm,Tm.upd]) (Sub.nil _) (by simp) ?_;rintro k c ⟨hk,he⟩;by_cases hlt:k<xs.length
 ·have hd:decide ((k:Int)<xs.length)=true:=by simpa using hlt
  have hg:=A0E hlt;have hw:=w64 (n:=(k:Int)+1);have hst:=A4p (g:=g) hg;have hc:=hf xs[k] (A1B hlt);repeat' ((with_reducible first|refine wr ?_|refine cpc hc ?_|refine A2 ?_ ?_|refine wb2 ?_ ?_<;>(intro hb;try simp only [hb])|fail)<;>try simp only [go_sem,seval,hd,hg,hw])
  ·refine A9 ?_;rw [he,hst,hb];rfl
  ·exact ⟨k+1,rfl,Sub.refl _,inv ⟨by omega,by rw [he,hst,hb];rfl⟩,by omega⟩
 ·have hd:decide ((k:Int)<xs.length)=false:=by simpa using hlt
  repeat' ((with_reducible first|refine wr ?_|refine A2 ?_ ?_|fail)<;>try simp only [go_sem,seval,hd])
  refine A9 ?_;rw [he,A6y (by omega)]
theorem c_CF_dc {g:Dc->Bool} {f:Nat} {a cs:List DV} (xs:List (Dc)) (hx:xs.length<=9223372036854775807) (na:DV.nlL a=true) (ncs:DV.nlL cs=true) (hf:∀ x∈xs,PC Tryz.prog f (a++[Dc.v x]++cs) (.bool (g x))) :
  PC Tryz.prog 49 [O1 xs,.func f a cs] (.bool (xs.any g)):=by
 refine PC.ofT B2 rfl (A0A rfl) (by simp [DV.nlL,DV.nl,W4,na,ncs]) rfl ?_;have hc:=c_IF_dc xs hx na ncs hf;repeat' ((with_reducible first|refine wr ?_|refine cpc hc ?_|refine A2 ?_ ?_|fail)<;>try simp only [go_sem,seval])
 refine A9 ?_;rw [A6z]
theorem c_IF_md {g:Md->Bool} {f:Nat} {a cs:List DV} (xs:List (Md)) (hx:xs.length<=9223372036854775807) (na:DV.nlL a=true) (ncs:DV.nlL cs=true) (hf:∀ x∈xs,PC Tryz.prog f (a++[Md.v x]++cs) (.bool (g x))) :
  PC Tryz.prog 92 [U2 xs,.func f a cs] (I64 (A2f g xs 0)):=by
 refine PC.ofT B2 rfl (A0A rfl) (by simp [DV.nlL,DV.nl,W3,na,ncs]) rfl ?_;repeat' ((with_reducible first|refine wr ?_|refine A2 ?_ ?_|fail)<;>try simp only [go_sem,seval,A0I])
 refine D2 (fun k:Nat=>[(0,U2 xs),(1,.func f a cs),(7,I64 xs.length),(8,I64 k)]) (fun _=>nil) (fun k _=>k<=xs.length/\A2f g xs 0=A2f g (xs.drop k) k) (fun k=>xs.length-k) 0 (by simp [C6,tm,Tm.upd]) (Sub.nil _) (by simp) ?_;rintro k c ⟨hk,he⟩;by_cases hlt:k<xs.length
 ·have hd:decide ((k:Int)<xs.length)=true:=by simpa using hlt
  have hg:=A0E hlt;have hw:=w64 (n:=(k:Int)+1);have hst:=A4p (g:=g) hg;have hc:=hf xs[k] (A1B hlt);repeat' ((with_reducible first|refine wr ?_|refine cpc hc ?_|refine A2 ?_ ?_|refine wb2 ?_ ?_<;>(intro hb;try simp only [hb])|fail)<;>try simp only [go_sem,seval,hd,hg,hw])
  ·refine A9 ?_;rw [he,hst,hb];rfl
  ·exact ⟨k+1,rfl,Sub.refl _,inv ⟨by omega,by rw [he,hst,hb];rfl⟩,by omega⟩
 ·have hd:decide ((k:Int)<xs.length)=false:=by simpa using hlt
  repeat' ((with_reducible first|refine wr ?_|refine A2 ?_ ?_|fail)<;>try simp only [go_sem,seval,hd])
  refine A9 ?_;rw [he,A6y (by omega)]
theorem c_CF_md {g:Md->Bool} {f:Nat} {a cs:List DV} (xs:List (Md)) (hx:xs.length<=9223372036854775807) (na:DV.nlL a=true) (ncs:DV.nlL cs=true) (hf:∀ x∈xs,PC Tryz.prog f (a++[Md.v x]++cs) (.bool (g x))) :
  PC Tryz.prog 52 [U2 xs,.func f a cs] (.bool (xs.any g)):=by
 refine PC.ofT B2 rfl (A0A rfl) (by simp [DV.nlL,DV.nl,W3,na,ncs]) rfl ?_;have hc:=c_IF_md xs hx na ncs hf;repeat' ((with_reducible first|refine wr ?_|refine cpc hc ?_|refine A2 ?_ ?_|fail)<;>try simp only [go_sem,seval])
 refine A9 ?_;rw [A6z]
theorem c_IF_st {g:Pb.St->Bool} {f:Nat} {a cs:List DV} (xs:List (Pb.St)) (hx:xs.length<=9223372036854775807) (na:DV.nlL a=true) (ncs:DV.nlL cs=true) (hf:∀ x∈xs,PC Tryz.prog f (a++[Pb.St.v x]++cs) (.bool (g x))) :
  PC Tryz.prog 177 [G1 xs,.func f a cs] (I64 (A2f g xs 0)):=by
 refine PC.ofT B2 rfl (A0A rfl) (by simp [DV.nlL,DV.nl,U0,na,ncs]) rfl ?_;repeat' ((with_reducible first|refine wr ?_|refine A2 ?_ ?_|fail)<;>try simp only [go_sem,seval,A0I])
 refine D2 (fun k:Nat=>[(0,G1 xs),(1,.func f a cs),(7,I64 xs.length),(8,I64 k)]) (fun _=>nil) (fun k _=>k<=xs.length/\A2f g xs 0=A2f g (xs.drop k) k) (fun k=>xs.length-k) 0 (by simp [C6,tm,Tm.upd]) (Sub.nil _) (by simp) ?_;rintro k c ⟨hk,he⟩;by_cases hlt:k<xs.length
 ·have hd:decide ((k:Int)<xs.length)=true:=by simpa using hlt
  have hg:=A0E hlt;have hw:=w64 (n:=(k:Int)+1);have hst:=A4p (g:=g) hg;have hc:=hf xs[k] (A1B hlt);rw [Pb.St.v_w] at hc;repeat' ((with_reducible first|refine wr ?_|refine cpc hc ?_|refine A2 ?_ ?_|refine wb2 ?_ ?_<;>(intro hb;try simp only [hb])|fail)<;>try simp only [go_sem,seval,hd,hg,hw,Pb.St.v_w])
  ·refine A9 ?_;rw [he,hst,hb];rfl
  ·exact ⟨k+1,rfl,Sub.refl _,inv ⟨by omega,by rw [he,hst,hb];rfl⟩,by omega⟩
 ·have hd:decide ((k:Int)<xs.length)=false:=by simpa using hlt
  repeat' ((with_reducible first|refine wr ?_|refine A2 ?_ ?_|fail)<;>try simp only [go_sem,seval,hd])
  refine A9 ?_;rw [he,A6y (by omega)]
theorem c_CF_st {g:Pb.St->Bool} {f:Nat} {a cs:List DV} (xs:List (Pb.St)) (hx:xs.length<=9223372036854775807) (na:DV.nlL a=true) (ncs:DV.nlL cs=true) (hf:∀ x∈xs,PC Tryz.prog f (a++[Pb.St.v x]++cs) (.bool (g x))) :
  PC Tryz.prog 146 [G1 xs,.func f a cs] (.bool (xs.any g)):=by
 refine PC.ofT B2 rfl (A0A rfl) (by simp [DV.nlL,DV.nl,U0,na,ncs]) rfl ?_;have hc:=c_IF_st xs hx na ncs hf;repeat' ((with_reducible first|refine wr ?_|refine cpc hc ?_|refine A2 ?_ ?_|fail)<;>try simp only [go_sem,seval])
 refine A9 ?_;rw [A6z]
theorem c_IF_ex {g:Ex->Bool} {f:Nat} {a cs:List DV} (xs:List (Ex)) (hx:xs.length<=9223372036854775807) (na:DV.nlL a=true) (ncs:DV.nlL cs=true) (hf:∀ x∈xs,PC Tryz.prog f (a++[Ex.v x]++cs) (.bool (g x))) :
  PC Tryz.prog 200 [H9 xs,.func f a cs] (I64 (A2f g xs 0)):=by
 refine PC.ofT B2 rfl (A0A rfl) (by simp [DV.nlL,DV.nl,Z0,na,ncs]) rfl ?_;repeat' ((with_reducible first|refine wr ?_|refine A2 ?_ ?_|fail)<;>try simp only [go_sem,seval,A0I])
 refine D2 (fun k:Nat=>[(0,H9 xs),(1,.func f a cs),(7,I64 xs.length),(8,I64 k)]) (fun _=>nil) (fun k _=>k<=xs.length/\A2f g xs 0=A2f g (xs.drop k) k) (fun k=>xs.length-k) 0 (by simp [C6,tm,Tm.upd]) (Sub.nil _) (by simp) ?_;rintro k c ⟨hk,he⟩;by_cases hlt:k<xs.length
 ·have hd:decide ((k:Int)<xs.length)=true:=by simpa using hlt
  have hg:=A0E hlt;have hw:=w64 (n:=(k:Int)+1);have hst:=A4p (g:=g) hg;have hc:=hf xs[k] (A1B hlt);rw [Ex.v_w] at hc;repeat' ((with_reducible first|refine wr ?_|refine cpc hc ?_|refine A2 ?_ ?_|refine wb2 ?_ ?_<;>(intro hb;try simp only [hb])|fail)<;>try simp only [go_sem,seval,hd,hg,hw,Ex.v_w])
  ·refine A9 ?_;rw [he,hst,hb];rfl
  ·exact ⟨k+1,rfl,Sub.refl _,inv ⟨by omega,by rw [he,hst,hb];rfl⟩,by omega⟩
 ·have hd:decide ((k:Int)<xs.length)=false:=by simpa using hlt
  repeat' ((with_reducible first|refine wr ?_|refine A2 ?_ ?_|fail)<;>try simp only [go_sem,seval,hd])
  refine A9 ?_;rw [he,A6y (by omega)]
theorem c_CF_ex {g:Ex->Bool} {f:Nat} {a cs:List DV} (xs:List (Ex)) (hx:xs.length<=9223372036854775807) (na:DV.nlL a=true) (ncs:DV.nlL cs=true) (hf:∀ x∈xs,PC Tryz.prog f (a++[Ex.v x]++cs) (.bool (g x))) :
  PC Tryz.prog 178 [H9 xs,.func f a cs] (.bool (xs.any g)):=by
 refine PC.ofT B2 rfl (A0A rfl) (by simp [DV.nlL,DV.nl,Z0,na,ncs]) rfl ?_;have hc:=c_IF_ex xs hx na ncs hf;repeat' ((with_reducible first|refine wr ?_|refine cpc hc ?_|refine A2 ?_ ?_|fail)<;>try simp only [go_sem,seval])
 refine A9 ?_;rw [A6z]
theorem D3n {H:Hp} {a b:Bool} (h:a=b):∃ H2,GL H [.bool a] H2 [.bool b]:=⟨H,by rw [h];exact GL.refl _ _⟩
theorem B6z {b1 b2 b3:Blk} {cc:Nat} (u:Unit) (h:1<=cc):Sym.Sub (Sym.nil.upd 0 b1) (((Sym.nil.upd 0 b1).upd cc b2).upd cc b3):=by
 intro j b hj;simp only [Hp.upd,Sym.nil] at hj ⊢;split at hj
 ·rename_i h0;rw [if_neg (by omega),if_neg (by omega),if_pos h0];exact hj
 ·cases hj
theorem c_levS (k:Int):PC Tryz.prog 112 [I64 k] (I64 (B4 k)):=by
 refine PC.ofT B2 rfl (A0A rfl) (by simp [DV.nlL,DV.nl]) (by simp [DV.nlL,DV.nl]) ?_;repeat' ((with_reducible first|refine wr ?_|refine A2 ?_ ?_|refine wb2 ?_ ?_<;>(intro hb;try simp only [hb])|fail)<;>try simp only [go_sem,seval])
 all_goals refine A9 (congrArg I64 ?_)
 all_goals simp_all [B4]
 all_goals omega
theorem c_namedS (k:Int):PC Tryz.prog 116 [I64 k] (.bool (A1t k)):=by
 refine PC.ofT B2 rfl (A0A rfl) (by simp [DV.nlL,DV.nl]) (by simp [DV.nlL,DV.nl]) ?_;repeat' ((with_reducible first|refine wr ?_|refine A2 ?_ ?_|refine wb2 ?_ ?_<;>(intro hb;try simp only [hb])|fail)<;>try simp only [go_sem,seval])
 all_goals refine A9 (congrArg DV.bool ?_)
 all_goals (cases h5:k == 5<;>cases h6:k == 6<;>cases h7:k == 7<;>simp_all [A1t])
theorem c_wrapped (e x:Ex) (i:Nat) (h:e.args[i]? = some x) (hi:i<=1):PC Tryz.prog 111 [e.v,I64 i] (.bool (R1 e.kind x.kind i)):=by
 refine PC.ofT B2 rfl (A0A rfl) (by simp [DV.nlL,DV.nl,Ex.nl]) rfl ?_;rw [Ex.v_w];have h1:=c_levS e.kind;have h2:=c_levS x.kind;repeat' ((with_reducible first|refine wr ?_|refine cpc h1 ?_|refine cpc h2 ?_|refine A2 ?_ ?_|refine wb2 ?_ ?_<;>(intro hb;try simp only [hb])|fail)<;>try simp only [go_sem,seval,h,Ex.v_w])
 all_goals refine D3n ?_
 all_goals unfold R1
 all_goals (cases hi1:i == 1<;>cases h3:B4 e.kind == 3<;>simp_all)
 all_goals omega
theorem c_measure:∀ (m:Nat) (e:Ex),e.sz<m->e.sz<=100000000->PC Tryz.prog 66 [e.v] (msV (msM e)):=by
 intro m
 induction m with
 | zero=>intro e h;omega
 | succ m ih =>
 intro e hm hB;have hnl:=e.sz_name;have hx:∀ x∈e.args,PC Tryz.prog 66 [x.v] (msV (msM x)):=fun x hx=>ih x (by have:=Ex.sz_arg hx;omega) (by have:=Ex.sz_arg hx;omega);have hwr:∀ (x:Ex) (i:Nat),e.args[i]? = some x->i<=1->PC Tryz.prog 111 [e.w,I64 i] (.bool (R1 e.kind x.kind i)):=fun x i h hi=>by have:=c_wrapped e x i h hi;rwa [Ex.v_w] at this
 refine PC.ofT B2 rfl (A0A rfl) (by simp [DV.nlL,DV.nl,Ex.nl]) (E0e _) ?_;rw [Ex.v_w];obtain ⟨R,hR⟩:∃ R,R=msV (msM e):=⟨_,rfl⟩;rw [<- hR];have hle:=C0v e.kind 0 e.args;have hal:Ex.szs e.args<e.sz:=by cases e with|mk k v n a p=>rw [Ex.sz];show Ex.szs a<_;omega
 have hargs:∀ x∈e.args,x.sz<=Ex.szs e.args:=fun x hx=>Ex.szs_mem hx;cases e with|mk k v n a p =>
 rw [msM] at hR;dsimp only [Ex.w,Ex.kind,Ex.value,Ex.name,Ex.args,Ex.pos] at hx hwr hle hal hargs hnl ⊢;have hl:=c_levS k;have hnk:=c_namedS k;have hin:=c_IsName n (by omega);have none0:kOk k=false\/a.length≠I0 k\/A0j k n=false\/A0w k v=false->R=.tup [I64 0,I64 0,.bool false]:=fun h=>by rw [hR,if_pos h];rfl
 have ci:((I0 k:Nat):Int)<=2:=by unfold I0;(repeat' split)<;>decide
 have kA:∀ nm vl:Bool,A0j k n=nm->A0w k v=vl->kOk k=true->IW Tryz.prog 113 (pz Tryz.prog 66 (.o (.i (.o (.o (.o .h)))))) ⟨tm [(1,.ptr 0 0),(2,I64 0),(3,I64 0),(5,I64 (I0 k)),(7,.bool nm),(8,.bool vl)],Sym.nil.upd 0 ⟨0,true,[I64 k,I64 v,.str n,H9 a,I64 p]⟩,1⟩ (rt [.tmp 2,.tmp 3,.tmp 4] fun v H' x => ∃ H2,GL H' [v] H2 [R]):=by
  intro nm vl hnm hvl hkk;by_cases hlen:a.length=I0 k
  ·have d0:((a.length:Int) != (I0 k:Int))=false:=by simp [hlen]
   cases nm with
   | false =>
    repeat' ((with_reducible first|refine wr ?_|refine A2 ?_ ?_|fail)<;>try simp only [go_sem,seval,d0])
    exact A9 (none0 (.inr (.inr (.inl hnm)))).symm
   | true =>
    cases vl with
    | false =>
     repeat' ((with_reducible first|refine wr ?_|refine A2 ?_ ?_|fail)<;>try simp only [go_sem,seval,d0])
     exact A9 (none0 (.inr (.inr (.inr hvl)))).symm
    | true =>
     rw [if_neg (by simp [hkk,hnm,hvl,hlen])] at hR;by_cases hc0:I0 k=0
     ·have d1:((I0 k:Int) == 0)=true:=by simp [hc0]
      rw [if_pos hc0] at hR;repeat' ((with_reducible first|refine wr ?_|refine A2 ?_ ?_|fail)<;>try simp only [go_sem,seval,d0,d1])
      exact A9 hR.symm
     ·have d1:((I0 k:Int) == 0)=false:=by simp [hc0]
      rw [if_neg hc0] at hR;repeat' ((with_reducible first|refine wr ?_|refine A2 ?_ ?_|fail)<;>try simp only [go_sem,seval,d0,d1])
      have hl2:a.length<=2:=by omega
      refine D2 (fun q:Nat × Nat × Nat=>[(1,.ptr 0 0),(5,I64 (I0 k)),(80,H9 a),(81,I64 a.length),(82,I64 q.1),(2,I64 q.2.1),(3,I64 q.2.2)]) (fun _=>Sym.nil.upd 0 ⟨0,true,[I64 k,I64 v,.str n,H9 a,I64 p]⟩)
       (fun q cc=>1<=cc/\q.1<=a.length/\q.2.1<=q.1 * 1000000000/\q.2.2<=1000000000/\msL k 0 a=(match msL k q.1 (a.drop q.1) with
        | none=>none
        | some (o2,d2)=>some (q.2.1+o2,max q.2.2 d2))) (fun q=>a.length-q.1) (0,0,0) (by simp [C6,tm,Tm.upd]) (Sub.refl _)
       ⟨A0H _,A1H _,A1H _,A1H _,by
        rw [A3I];cases msL k 0 a with
        | none=>rfl
        | some q=>obtain ⟨o2,d2⟩:=q;simp⟩ ?_
      rintro ⟨i,o,d⟩ cc ⟨h1c,hk,ho,hd3,he⟩;dsimp only at hk ho hd3 he ⊢;by_cases hlt:i<a.length
      ·have hd:decide ((i:Int)<a.length)=true:=by simpa using hlt
       have hg:=A0E hlt;have hw:=w64 (n:=(i:Int)+1);rw [C9i hg] at he;have hmx:=hx _ (A1B hlt);have hax:=hargs _ (A1B hlt);have hwx:=hwr _ i hg (by omega);have hms:=D6t a[i];generalize a[i]=x at hg he hmx hax hwx hms;rw [Ex.v_w] at hmx;have hwx:PC Tryz.prog 111 [DV.agg [I64 k,I64 v,DV.str n,H9 a,I64 p],I64 i] (.bool (R1 k x.kind i)):=hwx;have ne0:=X3 0 cc (by omega);cases hq:msM x with
       | none =>
        rw [hq] at he hmx;dsimp only [msV] at he hmx;rw [he] at hR;repeat' ((with_reducible first|refine wr ?_|refine cpc hmx ?_|refine cpc hwx ?_|refine A2 ?_ ?_|fail)<;>try simp only [go_sem,seval,hd,hg,hw,Ex.v_w,ne0])
        exact A9 hR.symm
       | some qq =>
        obtain ⟨o1,d1'⟩:=qq;rw [hq] at he hmx;dsimp only [msV] at he hmx;have:=hms o1 d1' hq;have w1:=w64 (n:=(o:Int)+(o1:Int));have w2:=w64 (n:=(d1':Int)+1);cases hwb:R1 k x.kind i with
        | true =>
         rw [hwb] at he;repeat' ((with_reducible first|refine wr ?_|refine cpc hmx ?_|refine cpc hwx ?_|refine A2 ?_ ?_|fail)<;>try simp only [go_sem,seval,hd,hg,hw,Ex.v_w,ne0,hwb,w1,w2])
         all_goals (refine ⟨(i+1,o+o1,max d (d1'+1)),⟨by simp,by simp,?_⟩,?_,inv ⟨by omega,by simp only;omega,by simp only;omega,by simp only;omega,?_⟩,by simp only;omega⟩)
         all_goals first
          | (refine congrArg I64 ?_;dsimp only;split<;>omega)
          | exact B6z () h1c
          | (rw [he];dsimp only;cases msL k (i+1) (a.drop (i+1)) with
           | none=>rfl
           | some q=>obtain ⟨o2,d2⟩:=q;simp [A3W,Nat.max_assoc])
        | false =>
         rw [hwb] at he;repeat' ((with_reducible first|refine wr ?_|refine cpc hmx ?_|refine cpc hwx ?_|refine A2 ?_ ?_|fail)<;>try simp only [go_sem,seval,hd,hg,hw,Ex.v_w,ne0,hwb,w1,w2])
         all_goals (refine ⟨(i+1,o+o1,max d (d1')),⟨by simp,by simp,?_⟩,?_,inv ⟨by omega,by simp only;omega,by simp only;omega,by simp only;omega,?_⟩,by simp only;omega⟩)
         all_goals first
          | (refine congrArg I64 ?_;dsimp only;split<;>omega)
          | exact B6z () h1c
          | (rw [he];dsimp only;cases msL k (i+1) (a.drop (i+1)) with
           | none=>rfl
           | some q=>obtain ⟨o2,d2⟩:=q;simp [A3W,Nat.max_assoc])
      ·have hd:decide ((i:Int)<a.length)=false:=by simpa using hlt
       rw [List.drop_of_length_le (by omega)] at he;have w1:=w64 (n:=(d:Int)+1);by_cases hc1:I0 k=1
       ·have e1:((I0 k:Int) == 1)=true:=by simp [hc1]
        rw [he,hc1] at hR;repeat' ((with_reducible first|refine wr ?_|refine A2 ?_ ?_|fail)<;>try simp only [go_sem,seval,hd,e1,w1])
        refine A9 ?_;rw [hR];simp [msV,msL]
       ·have e1:((I0 k:Int) == 1)=false:=by simp;omega
        rw [he] at hR;simp only [if_neg hc1] at hR;repeat' ((with_reducible first|refine wr ?_|refine A2 ?_ ?_|fail)<;>try simp only [go_sem,seval,hd,e1,w1])
        refine A9 ?_;rw [hR];simp [msV,msL]
  ·have d0:((a.length:Int) != (I0 k:Int))=true:=by simp;omega
   repeat' ((with_reducible first|refine wr ?_|refine A2 ?_ ?_|fail)<;>try simp only [go_sem,seval,d0])
   exact A9 (none0 (.inr (.inl hlen))).symm
 have kB:∀ nm:Bool,A0j k n=nm->kOk k=true->IW Tryz.prog 113 (pz Tryz.prog 66 (.o (.o (.o (.o (.o .h)))))) ⟨tm [(1,.ptr 0 0),(2,I64 0),(3,I64 0),(5,I64 (I0 k)),(7,.bool nm)],Sym.nil.upd 0 ⟨0,true,[I64 k,I64 v,.str n,H9 a,I64 p]⟩,1⟩ (rt [.tmp 2,.tmp 3,.tmp 4] fun v H' x => ∃ H2,GL H' [v] H2 [R]):=by
  intro nm hnm hkk;repeat' ((with_reducible first|refine E3 (p:=IW _ _ (pz Tryz.prog 66 (.o (.i (.o (.o (.o .h)))))) _ _) ?_|refine wr ?_|refine A2 ?_ ?_|refine wb2 ?_ ?_<;>(intro hb;try simp only [hb])|fail)<;>try simp only [go_sem,seval])
  all_goals refine IW.stage (L:=[(1,.ptr 0 0),(2,I64 0),(3,I64 0),(5,I64 (I0 k)),(7,.bool nm),(8,.bool (A0w k v))]) ?_ (kA nm _ hnm rfl hkk)
  all_goals simp_all [C6,tm,Tm.upd,A0w]
  all_goals omega
 have kC:kOk k=true->IW Tryz.prog 113 (pz Tryz.prog 66 (.o (.o (.o (.i .h))))) ⟨tm [(1,.ptr 0 0),(2,I64 0),(3,I64 0),(5,I64 (I0 k))],Sym.nil.upd 0 ⟨0,true,[I64 k,I64 v,.str n,H9 a,I64 p]⟩,1⟩ (rt [.tmp 2,.tmp 3,.tmp 4] fun v H' x => ∃ H2,GL H' [v] H2 [R]):=by
  intro hkk;repeat' ((with_reducible first|refine E3 (p:=IW _ _ (pz Tryz.prog 66 (.o (.o (.o (.o (.o .h)))))) _ _) ?_|refine wr ?_|refine cpc hnk ?_|refine cpc hin ?_|refine A2 ?_ ?_|refine wb2 ?_ ?_<;>(intro hb;try simp only [hb])|fail)<;>try simp only [go_sem,seval])
  all_goals refine IW.stage (L:=[(1,.ptr 0 0),(2,I64 0),(3,I64 0),(5,I64 (I0 k)),(7,.bool (A0j k n))]) ?_ (kB _ rfl hkk)
  all_goals simp_all [C6,tm,Tm.upd,A0j]
 by_cases l6:B4 k=6
 ·have m6:(B4 k == 6)=true:=by simpa using l6
  repeat' ((with_reducible first|refine E3 (p:=IW _ _ (pz Tryz.prog 66 (.o (.o (.o (.i .h))))) _ _) ?_|refine wr ?_|refine cpc hl ?_|refine A2 ?_ ?_|fail)<;>try simp only [go_sem,seval,m6])
  refine IW.stage ?_ (kC (by simp [kOk];left;omega));simp [C6,tm,Tm.upd,I0,l6]
 have m6:(B4 k == 6)=false:=by simpa using l6
 by_cases l5:B4 k<6
 ·have m5:decide (B4 k<6)=true:=by simpa using l5
  repeat' ((with_reducible first|refine E3 (p:=IW _ _ (pz Tryz.prog 66 (.o (.o (.o (.i .h))))) _ _) ?_|refine wr ?_|refine cpc hl ?_|refine A2 ?_ ?_|fail)<;>try simp only [go_sem,seval,m6,m5])
  refine IW.stage ?_ (kC (by simp [kOk];left;omega));simp [C6,tm,Tm.upd,I0,l6,l5]
 have m5:decide (B4 k<6)=false:=by simpa using l5
 repeat' ((with_reducible first|refine E3 (p:=IW _ _ (pz Tryz.prog 66 (.o (.o (.o (.i .h))))) _ _) ?_|refine wr ?_|refine cpc hl ?_|refine A2 ?_ ?_|refine wb2 ?_ ?_<;>(intro hb;try simp only [hb])|fail)<;>try simp only [go_sem,seval,m6,m5])
 all_goals first
  | (refine IW.stage ?_ (kC (by simp_all [kOk]<;>omega));simp [C6,tm,Tm.upd,I0,l6,l5];done)
  | (refine A9 (none0 (.inl ?_)).symm;simp_all [kOk]<;>omega)
theorem c_ValidExpr (e:Ex) (hB:e.sz<=100000000):PC Tryz.prog 30 [e.v] (.bool (V1 e)):=by
 refine PC.ofT B2 rfl (A0A rfl) (by simp [DV.nlL,DV.nl]) (by simp [DV.nlL,DV.nl]) ?_;have hm:=c_measure _ e (A2H _) hB;unfold V1;rw [Ex.v_w] at hm ⊢;cases hq:msM e with
 | none =>
  rw [hq] at hm;dsimp only [msV] at hm;repeat' ((with_reducible first|refine wr ?_|refine cpc hm ?_|refine A2 ?_ ?_|fail)<;>try simp only [go_sem,seval])
  all_goals exact A9 rfl
 | some q =>
  obtain ⟨o,d⟩:=q;rw [hq] at hm;dsimp only [msV] at hm;repeat' ((with_reducible first|refine wr ?_|refine cpc hm ?_|refine A2 ?_ ?_|refine wb2 ?_ ?_<;>(intro hb;try simp only [hb])|fail)<;>try simp only [go_sem,seval])
  all_goals (refine A9 (congrArg DV.bool ?_);by_cases h1:o<=32<;>by_cases h2:d<=16<;>simp_all<;>omega)
end Go.Proofs.YthlpinppaclofaaGreatDoor
set_option maxHeartbeats 4000000
namespace Go.Proofs.YthlpinppaclofaaGreatDoor
open Go.Eng (IC IOper DReg IFn J0)
open Go.Sym Go.Pb
theorem E2w {ρ ρ':Ren} {id id' o n:Nat} {v:Value} (h1 : ρ.nm id = ρ'.nm id') (h:VRel ρ (.slc id o n) v):VRel ρ' (.slc id' o n) v:=by
 cases h with|slc _ _ _ c t h hc hm hr hp=>exact .slc id' o n c t (h1▸h) hc hm hr hp
def OwL (f:Nat) (args:List DV) (l:List (List UInt8)):Prop:=∀ (H:Hp) (c:Nat),AC Tryz.prog f args H c (fun v H' c'=>v=.slc c 0 l.length/\H'=H.upd c ⟨1,true,l.map DV.str⟩/\c'=c+1)
theorem OwL.of {f:Nat} {args:List DV} {l:List (List UInt8)} (na:DV.nlL args=true) (h:AC Tryz.prog f args nil 0 (fun v H' _ => ∃ id,v=.slc id 0 l.length/\H'=nil.upd id ⟨1,true,l.map DV.str⟩)):OwL f args l:=fun H c =>
 AC.own (V:=fun id=>.slc id 0 l.length) h na (fun d hd=>by obtain ⟨x, -,rfl⟩:=A1I.1 hd;rfl) (fun ρ ρ' id id' v h1 _ h3=>E2w h1 h3) H c
theorem V9 {H H':Hp} {id n:Nat} {b:Blk} (hb:H id=some b) (h:∀ j,j≠id->H' j=none\/H' j=H j) (hi:H' id=some b):GL H [.slc id 0 n] H' [.slc id 0 n] :=
 GL.less fun j=>by
  by_cases e:j=id
  ·subst e;right;rw [hi,hb]
  ·exact h j e
theorem c_pr1 (k v:Int) (n:List UInt8) (a:List Ex) (p:Int) (x:Ex) (i:Nat) (hx:a[i]? = some x) (hi:i<=1) (l:List (List UInt8)) (hP:OwL 65 [x.v] l) (hl:l.length<=100000000) (h1:1<=l.length)
  (H:Hp) (c t:Nat) (ht:H t=some ⟨0,true,[I64 k,I64 v,.str n,H9 a,I64 p]⟩) (htc:t<c) :
  AC Tryz.prog 110 [I64 i,.ptr t 0] H c (fun r H' c' => ∃ id,c<=id/\id<c'/\r=.slc id 0 (wrL k x.kind i l).length/\H'=H.upd id ⟨1,true,(wrL k x.kind i l).map DV.str⟩):=by
 have hw:PC Tryz.prog 111 [.agg [I64 k,I64 v,.str n,H9 a,I64 p],I64 i] (.bool (R1 k x.kind i)):=by
  have:=c_wrapped (.mk k v n a p) x i hx hi;rw [Ex.v_w] at this;exact this
 have hxm:(a.map Ex.v)[i]? = some x.v:=by rw [A1C,hx];rfl
 rw [Ex.v_w] at hP hxm;refine AC.bodyT B2 rfl (A0A rfl) fun hfr=>?_;repeat' ((with_reducible first|refine wr ?_|refine A2 ?_ ?_|fail)<;>try simp only [go_sem,seval,ht,hxm,Ex.v_w])
 refine AC.call (hP H c) ?_;rintro _ _ _ ⟨rfl,rfl,rfl⟩ -;have ht':(H.upd c ⟨1,true,l.map DV.str⟩) t=some ⟨0,true,[I64 k,I64 v,.str n,H9 a,I64 p]⟩:=by rw [A3 (by omega)];exact ht
 have ne0:=A0k c (c+1) (c+2) (c+3) (c+4) (by omega);obtain ⟨R,hR⟩:∃ R,R=wrL k x.kind i l:=⟨_,rfl⟩;rw [<- hR];unfold wrL at hR;cases hb:R1 k x.kind i with
 | false =>
  rw [hb] at hw hR;rw [if_neg A2B] at hR;simp only [go_sem,seval,ht',ne0];repeat' ((with_reducible first|refine wr ?_|refine cpc hw ?_|refine A2 ?_ ?_|fail)<;>try simp only [go_sem,seval,ht',ne0])
  subst hR;exact ⟨_,_,GL.refl _ _,c,A0H _,A2H _,rfl,rfl⟩
 | true =>
  rw [hb] at hw hR;rw [if_pos rfl] at hR;simp only [go_sem,seval,ht',ne0];have tk:List.take l.length (l.map DV.str)=l.map DV.str:=A0O (by simp);repeat' ((with_reducible first|refine wr ?_|refine cpc hw ?_|refine A2 ?_ ?_|fail)<;>try simp only [go_sem,seval,ht',ne0,tk])
  refine D0 (E0 (by simp) (by omega) (by omega)) ?_;simp only [go_sem,seval,ne0,A0];repeat' ((with_reducible first|refine wr ?_|refine A2 ?_ ?_|fail)<;>try simp only [go_sem,seval,ne0,tk,A0])
  refine D0 (E0 (by simp;omega) (by omega) (by omega)) ?_;simp only [go_sem,seval,ne0,A0];repeat' ((with_reducible first|refine wr ?_|refine A2 ?_ ?_|fail)<;>try simp only [go_sem,seval,ne0,tk,A0])
  have hlen:R.length=1+l.length+1:=by rw [hR];simp;omega
  rw [<- hlen];refine ⟨_,H.upd (c+1+1+1+1) ⟨1,true,R.map DV.str⟩,V9 (A0) (fun j hj=>?_) (by rw [A0,hR];simp),c+1+1+1+1,by omega,by omega,rfl,rfl⟩;rw [A3 hj];by_cases hjc:c<=j
  ·exact .inl (hfr j hjc)
  ·right;simp only [Hp.upd,Hp.del];rw [if_neg hj,if_neg (by omega),if_neg (by omega),if_neg (by omega),if_neg (by omega),if_neg (by omega),if_neg (by omega)]
theorem C6f (e:Ex):1<=(txT (exT e)).length/\(txT (exT e)).length<=5 * e.sz:=by
 have:=B5z e;unfold txT;rw [A0I];omega
theorem B9h (k q:Int) (i:Nat) {l:List (List UInt8)} (h:l.length<=100000000):(wrL k q i l).length<=100000002:=by
 unfold wrL;split
 ·simp;omega
 ·omega
theorem c_printed:∀ (m:Nat) (e:Ex),e.sz<m->e.sz<=10000000->(∃ o d,msM e=some (o,d))->OwL 65 [e.v] (txT (exT e)):=by
 intro m
 induction m with
 | zero=>intro e h;omega
 | succ m ih =>
 rintro ⟨k,v,n,a,p⟩ hm hB ⟨o,d,hms⟩;obtain ⟨i1,i2,i3,i4, -,i6⟩:=B5l hms;have hargs:∀ (i:Nat) (x:Ex),a[i]? = some x->OwL 65 [x.v] (txT (exT x)):=fun i x hx=>by
  have hmem:=A0Y hx;have hsz:=Ex.sz_arg (e:=.mk k v n a p) hmem;refine ih x (by omega) (by omega) ?_;have hlt:=(A0V.1 hx).1;obtain ⟨d',h1, -⟩:=i6 (by omega);exact B0s h1 x hmem
 have hlv:=c_levS k;have hsg:=c_signOf k;have hlen:∀ (i:Nat) (x:Ex),a[i]? = some x->1<=(txT (exT x)).length/\(txT (exT x)).length<=100000000:=fun i x hx=>by
  have h1:=C6f x;have h2:=Ex.sz_arg (e:=.mk k v n a p) (A0Y hx);omega
 refine OwL.of (by simp [DV.nlL,DV.nl,Ex.nl]) ?_;refine AC.bodyT B2 rfl (A0A rfl) fun hfr=>?_;rw [Ex.v_w];dsimp only [Ex.w,Ex.kind,Ex.value,Ex.name,Ex.args,Ex.pos];obtain ⟨R,hR⟩:∃ R,R=txT (exT (.mk k v n a p)):=⟨_,rfl⟩;rw [<- hR];by_cases l6:B4 k=6
 ·have hk:k=10\/k=11:=by
   unfold B4 at l6;repeat' split at l6
   all_goals omega
  have hc:I0 k=1:=by unfold I0;rw [if_pos l6]
  have m6:(B4 k == 6)=true:=by simpa using l6
  obtain ⟨x,rfl⟩:∃ x,a=[x]:=A2D.1 (i2.trans hc);rw [E2v hk] at hR;repeat' ((with_reducible first|refine wr ?_|refine cpc hlv ?_|refine cpc hsg ?_|refine A2 ?_ ?_|fail)<;>try simp only [go_sem,seval,m6])
  refine AC.call (c_pr1 k v n [x] p x 0 rfl (by decide) _ (hargs 0 x rfl) (hlen 0 x rfl).2 (hlen 0 x rfl).1 _ _ 0 (by simp only [go_sem,seval]) (by decide)) ?_;rintro _ _ c2 ⟨id,hid,hid2,rfl,rfl⟩ -;have hW:=B9h k x.kind 0 (hlen 0 x rfl).2;generalize wrL k x.kind 0 (txT (exT x))=W at hR hW ⊢;have tk:List.take W.length (W.map DV.str)=W.map DV.str:=A0O (by simp);have ne0:=A7y 0 1 id c2 (by omega);simp only [go_sem,seval,ne0,A0,tk];repeat' ((with_reducible first|refine wr ?_|refine A2 ?_ ?_|fail)<;>try simp only [go_sem,seval,ne0,A0,tk])
  refine D0 (E0 (by simp) (by omega) (by omega)) ?_;simp only [go_sem,seval,ne0,A0];repeat' ((with_reducible first|refine wr ?_|refine A2 ?_ ?_|fail)<;>try simp only [go_sem,seval,ne0,A0])
  have hl:R.length=1+W.length:=by rw [hR];simp;omega
  rw [<- hl];exact ⟨_,nil.upd c2 ⟨1,true,R.map DV.str⟩,V9 A0 (fun j hj=>.inl (by rw [A3 hj];rfl)) (by rw [A0,hR];simp),c2,rfl,rfl⟩
 have m6:(B4 k == 6)=false:=by simpa using l6
 by_cases l5:B4 k<6
 ·have m5:decide (B4 k<6)=true:=by simpa using l5
  have hc:I0 k=2:=by unfold I0;rw [if_neg l6,if_pos l5]
  obtain ⟨x,y,rfl⟩:∃ x y,a=[x,y]:=by
   have:=i2.trans hc
   match a with
   | [x,y]=>exact ⟨x,y,rfl⟩
  rw [D7x l5] at hR;repeat' ((with_reducible first|refine wr ?_|refine cpc hlv ?_|refine cpc hsg ?_|refine A2 ?_ ?_|fail)<;>try simp only [go_sem,seval,m6,m5])
  refine AC.call (c_pr1 k v n [x,y] p x 0 rfl (by decide) _ (hargs 0 x rfl) (hlen 0 x rfl).2 (hlen 0 x rfl).1 _ _ 0 (by simp only [go_sem,seval]) (by decide)) ?_;rintro _ _ c2 ⟨id,hid,hid2,rfl,rfl⟩ -;have hW:=B9h k x.kind 0 (hlen 0 x rfl).2;generalize wrL k x.kind 0 (txT (exT x))=W at hR hW ⊢;have hW2:=B9h k y.kind 1 (hlen 1 y rfl).2;have tk:List.take W.length (W.map DV.str)=W.map DV.str:=A0O (by simp);have ne0:=V8 0 id c2 (by omega);simp only [go_sem,seval,ne0,A0,tk];refine ⟨by and_intros<;>(repeat rw [A3 (by omega)])<;>rfl,?_⟩;refine cpc hsg ?_;simp only [go_sem,seval,ne0,A0,tk,m6,m5];refine ⟨by rw [A3 (by omega)];rfl,?_⟩;rw [A3 (show ¬ id=6 by omega),A0];refine M5 (E0 (by simp) (by omega) (by omega)) ?_;simp only [go_sem,seval,ne0,A0,tk,m6,m5];obtain ⟨M,hM⟩:∃ M,M=((((nil.upd 0 ⟨0,true,[I64 k,I64 v,.str n,H9 [x,y],I64 p]⟩).upd id ⟨1,true,W.map DV.str⟩).upd 6 ⟨1,true,[DV.str (B0o k)]⟩).del id).upd c2 ⟨1,true,W.map DV.str++[DV.str (B0o k)]⟩:=⟨_,rfl⟩;rw [<- hM];have hM8:M 8=none:=by rw [hM];simp only [Hp.upd,Hp.del];(repeat rw [if_neg (by omega)]);rfl
  have hM0:M 0=some ⟨0,true,[I64 k,I64 v,.str n,H9 [x,y],I64 p]⟩:=by rw [hM];simp only [Hp.upd,Hp.del];(repeat rw [if_neg (by omega)]);rfl
  have hMc:M c2=some ⟨1,true,W.map DV.str++[DV.str (B0o k)]⟩:=by rw [hM];exact A0
  clear hM;refine ⟨hM8,?_⟩;refine AC.call (c_pr1 k v n [x,y] p y 1 rfl (by decide) _ (hargs 1 y rfl) (hlen 1 y rfl).2 (hlen 1 y rfl).1 _ _ 0 hM0 (by omega)) ?_;rintro _ _ c3 ⟨id2,hid3,hid4,rfl,rfl⟩ -;generalize wrL k y.kind 1 (txT (exT y))=W2 at hR hW2 ⊢;have tk2:List.take W2.length (W2.map DV.str)=W2.map DV.str:=A0O (by simp);have hMc2:(M.upd id2 ⟨1,true,W2.map DV.str⟩) c2=some ⟨1,true,W.map DV.str++[DV.str (B0o k)]⟩:=by rw [A3 (by omega)];exact hMc
  have ne0:=V8 0 id2 c3 (by omega);simp only [go_sem,seval,ne0,A0,tk2,hMc2];refine M5 (E0 (by simp) (by omega) (by omega)) ?_;simp only [go_sem,seval,ne0,A0];repeat' ((with_reducible first|refine wr ?_|refine A2 ?_ ?_|fail)<;>try simp only [go_sem,seval,ne0,A0])
  have hl:R.length=W.length+1+W2.length:=by rw [hR];simp;omega
  rw [<- hl];exact ⟨_,nil.upd c3 ⟨1,true,R.map DV.str⟩,V9 A0 (fun j hj=>.inl (by rw [A3 hj];rfl)) (by rw [A0,hR];simp),c3,rfl,rfl⟩
 have m5:decide (B4 k<6)=false:=by simpa using l5
 have l7:B4 k=7:=by have:=Z9 k;omega
 have hc:I0 k=0:=by unfold I0;rw [if_neg l6,if_neg l5]
 obtain rfl:a=[]:=A1S (i2.trans hc);rw [D2i l7 i1 i3 i4] at hR;by_cases h1:k=1
 ·subst h1;rw [if_pos rfl] at hR;repeat' ((with_reducible first|refine wr ?_|refine cpc hlv ?_|refine cpc hsg ?_|refine A2 ?_ ?_|fail)<;>try simp only [go_sem,seval,m6,m5])
  refine AC.call (C9a (xs:=[Tok.v ⟨3,[],v,0⟩]) (u:=4) (id:=1) (c_Text [⟨3,[],v,0⟩] (by simp) ?_) A0 rfl rfl (T1 [⟨3,[],v,0⟩])) ?_
  ·intro t ht;obtain rfl:=A0R.1 ht;have hv:0<=v/\v<=2147483647:=by
    unfold A0w at i4;simp at i4;omega
   exact ⟨by simp,by dsimp only;omega,by dsimp only;omega⟩
  rintro _ _ _ ⟨rfl,rfl,rfl⟩ -;rw [show T4 [⟨3,[],v,0⟩]=G8 v by rw [<- A4f];simp [Lib.join,K4]];simp only [go_sem,seval];repeat' ((with_reducible first|refine wr ?_|refine A2 ?_ ?_|fail)<;>try simp only [go_sem,seval])
  exact ⟨_,nil.upd 2 ⟨1,true,R.map DV.str⟩,by rw [hR];exact V9 A0 (fun j hj=>.inl (by rw [A3 hj];rfl)) A0,2,by rw [hR];rfl,rfl⟩
 by_cases h2:k=2
 ·subst h2;rw [if_neg h1,if_pos rfl] at hR;repeat' ((with_reducible first|refine wr ?_|refine cpc hlv ?_|refine cpc hsg ?_|refine A2 ?_ ?_|fail)<;>try simp only [go_sem,seval,m6,m5])
  exact ⟨_,nil.upd 1 ⟨1,true,R.map DV.str⟩,by rw [hR];exact V9 A0 (fun j hj=>.inl (by rw [A3 hj];rfl)) A0,1,by rw [hR];rfl,rfl⟩
 rw [if_neg h1,if_neg h2] at hR;have d1:(k == 1)=false:=by simpa using h1
 have d2:(k == 2)=false:=by simpa using h2
 repeat' ((with_reducible first|refine E3 (p:=IW _ _ (pz Tryz.prog 65 (.i (.o (.i (.o (.o .h)))))) _ _) ?_|refine wr ?_|refine cpc hlv ?_|refine cpc hsg ?_|refine A2 ?_ ?_|fail)<;>try simp only [go_sem,seval,m6,m5,d1,d2])
 unfold X7;have hr:3<=k/\k<=9:=by
  unfold kOk at i1;simp only [l7,Int.lt_irrefl,decide_false,A4H,A0D,A0G] at i1;have hk9:k<=9:=Classical.byContradiction fun hc=>by
   have:B4 k<7:=by unfold B4;repeat' split;all_goals omega
   omega
  omega
 obtain ⟨j0,hj0,hj7⟩:∃ j0:Nat,F8[j0]? = some k/\j0<7:=by
  have hk9:k=3\/k=4\/k=5\/k=6\/k=7\/k=8\/k=9:=by omega
  rcases hk9 with rfl|rfl|rfl|rfl|rfl|rfl|rfl
  ·exact ⟨0,rfl,by decide⟩
  ·exact ⟨1,rfl,by decide⟩
  ·exact ⟨4,rfl,by decide⟩
  ·exact ⟨5,rfl,by decide⟩
  ·exact ⟨6,rfl,by decide⟩
  ·exact ⟨2,rfl,by decide⟩
  ·exact ⟨3,rfl,by decide⟩
 obtain ⟨w,hw⟩:∃ w,w=R9 C9 F8 k:=⟨_,rfl⟩;refine B5y c_lvs (σ := Option Nat) (fun o=>[(1,.ptr 0 0),(5,C4 o 1)]) (fun o=>D4 (nil.upd 0 ⟨0,true,[I64 k,I64 v,.str n,H9 [],I64 p]⟩) o ⟨1,true,[.str w]⟩)
  (fun D o c=>1<=c/\(∀ i,o=some i->0<i/\i<c/\∃ j∈D,F8[j]? = some k)/\(o=none->∀ j∈D,F8[j]? ≠ some k)) none (by decide) (fun _=>rfl) ⟨rfl,rfl,trivial⟩ (Sub.refl _) ⟨by decide,(by intro i h;cases h),fun _ j hj=>by cases hj⟩ ?_ ?_
 ·rintro D o c ⟨hc1,ho,hno⟩ hall;rcases o with _|id
  ·exact absurd hj0 (hno rfl j0 (hall j0 hj7))
  obtain ⟨g1,g2, -⟩:=ho id rfl;have hnm:=c_namedS k;rw [<- hw] at hR;have ne0:=A7y 0 id c (c+1) (by omega);cases hb:A1t k with
  | true =>
   rw [hb] at hnm hR;rw [if_pos rfl] at hR;repeat' ((with_reducible first|refine wr ?_|refine cpc hnm ?_|refine A2 ?_ ?_|fail)<;>try simp only [go_sem,seval,ne0,A0])
   refine D0 (E0 rfl (by decide) (by decide)) ?_;simp only [go_sem,seval,ne0,A0];repeat' ((with_reducible first|refine wr ?_|refine A2 ?_ ?_|fail)<;>try simp only [go_sem,seval,ne0,A0])
   exact ⟨_,nil.upd (c+1) ⟨1,true,R.map DV.str⟩,by rw [hR];exact V9 A0 (fun j hj=>.inl (by rw [A3 hj];rfl)) A0,c+1,by rw [hR];rfl,rfl⟩
  | false =>
   rw [hb] at hnm hR;rw [if_neg A2B] at hR;repeat' ((with_reducible first|refine wr ?_|refine cpc hnm ?_|refine A2 ?_ ?_|fail)<;>try simp only [go_sem,seval,ne0,A0])
   exact ⟨_,nil.upd id ⟨1,true,R.map DV.str⟩,by rw [hR];exact V9 A0 (fun j hj=>.inl (by rw [A3 hj];rfl)) A0,id,by rw [hR];rfl,rfl⟩
 ·rintro it D o c i kk vv ⟨hc1,ho,hno⟩ hDn hDb hiD hk hv;rw [A1C,A0M] at hk hv;obtain ⟨w',hw',rfl⟩:=hk;obtain ⟨u,hu,rfl⟩:=hv;by_cases hx:u=k
  ·subst hx;obtain rfl:w'=w:=by rw [hw];exact (A9q (by decide) hw' hu).symm
   obtain rfl:o=none:=by
    cases o with
    | none=>rfl
    | some id =>
     obtain ⟨-, -,j,hj,hj2⟩:=ho id rfl;have:i=j:=(List.getElem?_inj (A0V.1 hu).1 (by decide:F8.Nodup)).1 (hu.trans hj2.symm);exact absurd (this▸hj) hiD
   have ne0:=V8 0 c (c+1) (by omega);repeat' ((with_reducible first|refine wr ?_|refine A2 ?_ ?_|fail)<;>try simp only [go_sem,seval,ne0,A0])
   refine D0 (A6l (by decide) (by decide) (by decide)) ?_;simp only [go_sem,seval,ne0,A0];repeat' ((with_reducible first|refine wr ?_|refine A2 ?_ ?_|fail)<;>try simp only [go_sem,seval,ne0,A0])
   refine ⟨some (c+1),rfl,fun j b hj=>?_,?_⟩
   ·rw [A1d] at hj;by_cases e:j=c+1
    ·subst e;rw [A0] at hj ⊢;exact hj
    ·rw [A3 e] at hj ⊢;by_cases e2:j=0
     ·subst e2;rw [A0] at hj;rw [A3 (by omega),A0];exact hj
     ·rw [A3 e2] at hj;cases hj
   ·unfold B1y;exact ⟨by omega,fun i' hi'=>by cases hi';exact ⟨by omega,by omega,i,A0L,hu⟩,fun h=>by cases h⟩
  ·have hx':(u == k)=false:=by simpa using hx
   have h0b:D4 (nil.upd 0 ⟨0,true,[I64 k,I64 v,.str n,H9 [],I64 p]⟩) o ⟨1,true,[.str w]⟩ 0=some ⟨0,true,[I64 k,I64 v,.str n,H9 [],I64 p]⟩:=by
    cases o with
    | none=>exact A0
    | some id=>rw [A1d,A3 (by have:=ho id rfl;omega)];exact A0
   repeat' ((with_reducible first|refine wr ?_|refine A2 ?_ ?_|fail)<;>try simp only [go_sem,seval,hx',h0b])
   refine ⟨o,rfl,Sub.refl _,?_⟩;unfold B1y;refine ⟨hc1,fun i' hi'=>?_,fun h j hj=>?_⟩
   ·obtain ⟨g1,g2,j,g3,g4⟩:=ho i' hi';exact ⟨g1,g2,j,A0J _ g3,g4⟩
   ·rcases A1D.1 hj with rfl|hj
    ·rw [hu];intro e;cases e;exact hx rfl
    ·exact hno h j hj
theorem A3y (l:List (List UInt8)):A8 (l.map DV.str)=l.map DV.str:=by
 induction l with
 | nil=>rfl
 | cons a l ih=>rw [A0N,A8,A1F];exact congrArg (DV.str a :: ·) ih
theorem D0b {l:List (List UInt8)} {sp:List UInt8} {id cc:Nat} {H:Hp} (hb:H id=some ⟨1,true,l.map DV.str⟩) (h1:l.length<=140737488355328) (h2:(Lib.join l sp).length<=140737488355328) :
  AC Tryz.prog 64 [.slc id 0 l.length,.str sp] H cc (fun v H' c'=>v=.str (Lib.join l sp)/\H'=A2h H (some id)/\c'=cc) :=
 AC.ghost (GL.frzS (id:=id) hb rfl (fun j=>by
  by_cases e:j=id
  ·subst e;exact .inl (by rw [Y5,if_pos rfl])
  ·exact .inr ⟨e,by rw [Y5,if_neg e]⟩) (.cons _ _ _ _ (M9 (xs:=l.map DV.str) (u:=1) (by simp) (R4 l) ⟨[],by rw [A3y];simp⟩) (.cons _ _ _ _ (.same _) .nil))) ((c_Join l sp h1 h2).at _ cc)
def E1g (e:Ex):List UInt8:=if V1 e=true then T4 (exT e) else []
theorem D6e {e:Ex} (h:V1 e=true):∃ o d,msM e=some (o,d):=by
 unfold V1 at h;split at h
 ·rename_i o d hm;exact ⟨o,d,hm⟩
 ·cases h
theorem c_PFormatE (e:Ex) (hB:e.sz<=100000):PC Tryz.prog 29 [e.v] (.str (E1g e)):=by
 have hx:=D5j e;have hv:=c_ValidExpr e (by omega);refine PC.ofT B2 rfl (A0A rfl) (by simp [DV.nlL,DV.nl,Ex.nl]) rfl ?_;unfold E1g;cases hb:V1 e with
 | false =>
  rw [hb] at hv;rw [if_neg A2B];rw [Ex.v_w] at hv ⊢;repeat' ((with_reducible first|refine wr ?_|refine cpc hv ?_|refine A2 ?_ ?_|fail)<;>try simp only [go_sem,seval])
  exact A9 rfl
 | true =>
  have hP:=c_printed _ e (A2H _) (by omega) (D6e hb);rw [hb] at hv;rw [if_pos rfl];rw [Ex.v_w] at hv hP ⊢;repeat' ((with_reducible first|refine wr ?_|refine cpc hv ?_|refine A2 ?_ ?_|fail)<;>try simp only [go_sem,seval])
  refine AC.call (hP _ _) ?_;rintro _ _ _ ⟨rfl,rfl,rfl⟩ -;simp only [go_sem,seval];have htl:=A7p hx;have hl:=(C6f e).2;have hle:(exT e).length=(txT (exT e)).length:=by simp [txT]
  have htj:Lib.join (txT (exT e)) [32]=T4 (exT e):=A4f (exT e);refine AC.call (D0b A0 (by omega) (by rw [htj];omega)) ?_;rintro _ _ _ ⟨rfl,rfl,rfl⟩ -;rw [htj];simp only [go_sem,seval];repeat' ((with_reducible first|refine wr ?_|refine A2 ?_ ?_|fail)<;>try simp only [go_sem,seval])
  exact ⟨_,GL.refl _ _⟩
end Go.Proofs.YthlpinppaclofaaGreatDoor
namespace Go.Pb
variable [Go.Sym.Tab]
open Go.Sym
def K6 (P:St->List (List UInt8)) (l:List St):List (List UInt8):=[123] :: (l.flatMap P++[[125]])
abbrev D7d:List UInt8:=[101,108,115,101]
def B1n (P:St->List (List UInt8)):List St->List (List UInt8)
 | []=>[]
 | [s]=>D7d :: (if s.kind=2 then P s else K6 P [s])
 | s :: s2 :: r=>D7d :: K6 P (s :: s2 :: r)
def A8l (P:St->List (List UInt8)) (k:Int) (x y:List St):List (List UInt8):=if (G7 k).thn=true then K6 P x++B1n P y else [[59]]
def agI:Nat->List Ex->List (List UInt8)
 | _,[]=>[]
 | i,e :: l=>(if 0<i then [[44]] else [])++(txT (exT e)++agI (i+1) l)
def txL (k:Int) (t:List UInt8):List (List UInt8):=if (G7 k).text=true then [V7 t,[44]] else []
def hdL (k:Int) (n:List UInt8):List (List UInt8):=if k=1 then [n,[61]] else R9 B3 A0x k :: (if (G7 k).name=true then [n] else [])
def psL (P:St->List (List UInt8)):St->List (List UInt8)
 | .mk k n t a x y p=>hdL k n++(txL k t++(agI 0 a++A8l P k x y))
theorem D2j (x:List UInt8):txT [A5 x]=[x]:=by simp [txT,K3]
theorem J8 (x:List UInt8) (l:List Tok):txT (A5 x :: l)=x :: txT l:=by simp [txT,K3]
theorem P1:txT []=[]:=rfl
theorem S4:∀ l:List St,O9 l=l.flatMap stT
 | []=>rfl
 | s :: l=>by rw [O9,S4 l,A1F]
theorem A9b (l:List St):txT (O9 l)=l.flatMap fun s=>txT (stT s):=by
 rw [S4,txT,List.map_flatMap];rfl
theorem B9q (l:List St):txT (blT l)=K6 (fun s=>txT (stT s)) l:=by
 rw [blT,E9,E9,A9b,D2j,D2j];rfl
theorem S9 {n:List UInt8} (h:C2 n=true):txT (D1 n)=[n]:=by simp [D1,h,txT,K4]
theorem D2h {t:List UInt8} (h:N7 t=true):txT (A1c t)=[V7 t]:=by
 unfold N7 at h;simp only [A0D,A0G] at h;have h2:¬ (t.all txB=false\/32<t.length):=by
  rintro (h3|h3)
  ·rw [h3] at h;exact absurd h.1 (by decide)
  ·omega
 unfold A1c;rw [if_neg h2];rfl
theorem D2r {k:Int} (h1:2<=k) (h2:k<=19):R9 B3 A0x k=B3.getD (k-2).toNat []:=by
 obtain ⟨j,rfl⟩:∃ j:Nat,k=2+(j:Int):=⟨(k-2).toNat,by omega⟩;have hj:j<18:=by omega
 have:∀ j:Nat,j<18->R9 B3 A0x (2+(j:Int))=B3.getD (2+(j:Int)-2).toNat []:=by decide
 exact this j hj
theorem C6d (e:Ex):agI 0 [e]=txT (exT e):=by simp [agI]
theorem E9t (e f:Ex):agI 0 [e,f]=txT (exT e)++[44] :: txT (exT f):=by simp [agI]
theorem E3v {s:St} {d:Nat} (h:R2 d s=true):psL (fun s=>txT (stT s)) s=txT (stT s):=by
 obtain ⟨k,n,t,a,x,y,p⟩:=s;unfold R2 at h;simp only [A0D,A0G,A1G] at h;obtain ⟨⟨⟨⟨⟨k1,k2⟩,⟨ha, -⟩⟩,⟨hn,ht⟩⟩,⟨hx,hy⟩⟩, -⟩:=h;rw [psL];obtain ⟨P,hP⟩:∃ P:St->List (List UInt8),P=fun s=>txT (stT s):=⟨_,rfl⟩;rw [<- hP];have hb:K6 P x=[123] :: (txT (O9 x)++[[125]]):=by rw [A9b,hP];rfl
 by_cases c1:k=1
 ·subst c1;obtain ⟨e,rfl⟩:∃ e,a=[e]:=A2D.1 ha;have hn':C2 n=true:=hn;show [n,[61]]++([]++(agI 0 [e]++[[59]]))=_;rw [stT,if_pos rfl,E9,E9,E9,S9 hn',D2j,D2j,C6d];simp [agT]
 have hkey:=D2r (k:=k) (by omega) k2;rw [stT,if_neg c1,if_neg (by omega)];dsimp only;rw [<- hkey];unfold hdL;rw [if_neg c1];by_cases c2:k=2
 ·subst c2;obtain ⟨e,rfl⟩:∃ e,a=[e]:=A2D.1 ha;show [R9 B3 A0x 2]++([]++(agI 0 [e]++(K6 P x++B1n P y)))=_;rw [if_pos (.inl rfl),C6d,hb]
  match y with
  | []=>simp [E9,J8,P1,B1n,agT]
  | [s] =>
   have hbs:K6 P [s]=[123] :: (txT (stT s)++[[125]]):=by simp [K6,hP]
   rw [B1n,hbs];dsimp only;by_cases h2:s.kind=2
   ·rw [if_pos h2,if_pos h2];simp [E9,J8,P1,agT,hP]
   ·rw [if_neg h2,if_neg h2];simp [E9,J8,P1,agT]
  | s :: s2 :: r =>
   have hbs:K6 P (s :: s2 :: r)=[123] :: (txT (O9 (s :: s2 :: r))++[[125]]):=by rw [A9b,hP];rfl
   rw [B1n,hbs];simp [E9,J8,P1,agT]
 by_cases c3:k=3
 ·subst c3;obtain ⟨e,rfl⟩:∃ e,a=[e]:=A2D.1 ha;obtain rfl:y=[]:=by cases y with|nil=>rfl|cons a l=>exact absurd (show false=true from hy) (by decide)
  show [R9 B3 A0x 3]++([]++(agI 0 [e]++(K6 P x++B1n P [])))=_;rw [if_pos (.inr rfl),C6d,hb];simp [E9,J8,P1,B1n,agT]
 rw [if_neg (by omega:¬ (k=2\/k=3))];by_cases c4:k=4
 ·subst c4;obtain ⟨e,rfl⟩:∃ e,a=[e]:=A2D.1 ha;show [R9 B3 A0x 4]++([]++(agI 0 [e]++[[59]]))=_;rw [if_pos rfl,C6d];simp [E9,J8,P1,agT]
 rw [if_neg c4];by_cases c18:k=18
 ·subst c18;obtain ⟨e,rfl⟩:∃ e,a=[e]:=A2D.1 ha;have ht':N7 t=true:=ht;show [R9 B3 A0x 18]++([V7 t,[44]]++(agI 0 [e]++[[59]]))=_;rw [if_pos rfl,C6d];simp [E9,J8,P1,agT,D2h ht']
 rw [if_neg c18];by_cases c8:k=8\/k=10
 ·have hs:G7 k=⟨true,false,1,false,false⟩:=by rcases c8 with rfl|rfl<;>rfl
  rw [hs] at ha hn;obtain ⟨e,rfl⟩:∃ e,a=[e]:=A2D.1 ha;have hn':C2 n=true:=hn;unfold txL A8l;rw [hs,if_pos c8,C6d];simp [E9,J8,P1,agT,S9 hn']
 rw [if_neg c8];by_cases c9:k=9
 ·subst c9;obtain ⟨e,f,rfl⟩:∃ e f,a=[e,f]:=by
   match a,ha with
   | [e,f],_=>exact ⟨e,f,rfl⟩
  have hn':C2 n=true:=hn;show [R9 B3 A0x 9,n]++([]++(agI 0 [e,f]++[[59]]))=_;rw [if_pos rfl,E9t];simp [E9,J8,P1,agT,S9 hn']
 rw [if_neg c9];by_cases c19:k=19
 ·subst c19;obtain rfl:a=[]:=A1S ha;show [R9 B3 A0x 19]++([]++(agI 0 []++[[59]]))=_;rw [if_pos rfl];simp [E9,J8,P1,agI]
 rw [if_neg c19];have hs:G7 k=⟨true,false,0,false,false⟩:=by
  unfold G7;rw [if_neg (by omega),if_neg c9,if_neg c2,if_neg c3,if_neg c4,if_neg c18,if_neg c19]
 rw [hs] at ha hn;obtain rfl:a=[]:=A1S ha;have hn':C2 n=true:=hn;unfold txL A8l;rw [hs];simp [E9,J8,P1,agI,S9 hn']
end Go.Pb
namespace Go.Pb
variable [Go.Sym.Tab]
open Go.Sym
def lnT (t:List UInt8):List UInt8:=if t=[59]\/t=[123]\/t=[125] then t++[10] else t++[32]
def U4 (l:List (List UInt8)):List UInt8:=(l.map lnT).flatten
def E6 (Q:Tok->Prop) (l:List Tok):Prop:=∀ t∈l,Q t
structure Clo (Q:Tok->Prop):Prop where
 z:E6 Q [Y7]
 w:∀ x:List UInt8,x.length<=12->E6 Q [A5 x]
 n:∀ x,E6 Q (D1 x)
 v:∀ x,E6 Q (X2 x)
 t:∀ x,E6 Q (A1c x)
section
variable {Q:Tok->Prop} (C:Clo Q)
include C
theorem E6.app {a b:List Tok} (h1:E6 Q a) (h2:E6 Q b):E6 Q (a++b):=fun t ht=>by
 rcases A1A.1 ht with h|h
 ·exact h1 t h
 ·exact h2 t h
theorem E3p:E6 Q []:=fun t ht=>by cases ht
theorem D9n (i:Nat):E6 Q [A5 (B7.getD i [])]:=C.w _ (by
 by_cases hi:i<13
 ·have:∀ i:Nat,i<13->(B7.getD i []).length<=12:=by decide
  exact this i hi
 ·rw [A0S,A1Q (by show 13<=i;omega)];simp)
theorem C0k {q:Int × List Tok} {m:Int} (h:E6 Q q.2):E6 Q (E1 q m):=by
 unfold E1;split
 ·exact ((C.w _ (by decide)).app C h).app C (C.w _ (by decide))
 ·exact h
theorem D3i {k v:Int} {n:List UInt8} {as1:List (Int × List Tok)} (h:∀ q∈as1,E6 Q q.2):E6 Q (F4 k v n as1):=by
 unfold F4;dsimp only;by_cases k1:k=1
 ·rw [if_pos k1];exact C.v v
 rw [if_neg k1];by_cases k2:k=2
 ·rw [if_pos k2];exact C.n n
 rw [if_neg k2];by_cases k3:k=3
 ·rw [if_pos k3];exact C.w _ (by decide)
 rw [if_neg k3];by_cases k4:k=4
 ·rw [if_pos k4];exact C.w _ (by decide)
 rw [if_neg k4];by_cases k8:k=8
 ·rw [if_pos k8];exact C.w _ (by decide)
 rw [if_neg k8];by_cases k9:k=9
 ·rw [if_pos k9];exact C.w _ (by decide)
 rw [if_neg k9];by_cases k5:k=5
 ·rw [if_pos k5];exact (C.w _ (by decide)).app C (C.n n)
 rw [if_neg k5];by_cases k6:k=6
 ·rw [if_pos k6];exact (C.w _ (by decide)).app C (C.n n)
 rw [if_neg k6];by_cases k7:k=7
 ·rw [if_pos k7];exact (C.w _ (by decide)).app C (C.n n)
 rw [if_neg k7]
 match as1,h with
 | [],h=>exact C.z
 | [q],h =>
  dsimp only;by_cases h6:B4 k=6
  ·rw [if_pos h6];refine E6.app C ?_ (C0k C (h q A0L));by_cases h10:k=10
   ·rw [if_pos h10];exact C.w _ (by decide)
   ·rw [if_neg h10];exact C.w _ (by decide)
  ·rw [if_neg h6];exact C.z
 | [q,r],h =>
  dsimp only;by_cases h6:B4 k<6
  ·rw [if_pos h6];exact ((C0k C (h q A0L)).app C (D9n C _)).app C (C0k C (h r (A0J _ A0L)))
  ·rw [if_neg h6];exact C.z
 | _ :: _ :: _ :: _,h=>exact C.z
theorem E3r:∀ (e:Ex),E6 Q (exT e):=by
 have:∀ (m:Nat) (e:Ex),e.sz<m->E6 Q (exT e):=by
  intro m
  induction m with
  | zero=>intro e h;omega
  | succ m ih =>
   rintro ⟨k,v,n,a,p⟩ hm;rw [A8c];refine D3i C fun q hq=>?_;obtain ⟨x,hx,rfl⟩:=A1I.1 hq;exact ih x (by have:=Ex.sz_arg (e:=.mk k v n a p) hx;omega)
 exact fun e=>this _ e (A2H _)
theorem E3u (l:List Ex) (i:Nat):E6 Q (agT l i):=by
 unfold agT;split
 ·exact E3r C _
 ·exact C.z
theorem A7t {α : Type} {f : α -> List Tok} {l:List α} (h:∀ x∈l,E6 Q (f x)):E6 Q (l.flatMap f):=fun t ht=>by
 obtain ⟨x,hx,ht⟩:=List.mem_flatMap.1 ht;exact h x hx t ht
theorem D9m (i:Nat):E6 Q [A5 (B3.getD i [])]:=C.w _ (by
 by_cases hi:i<18
 ·have:∀ i:Nat,i<18->(B3.getD i []).length<=12:=by decide
  exact this i hi
 ·rw [A0S,A1Q (by show 18<=i;omega)];simp)
set_option maxHeartbeats 4000000 in
theorem E3n:∀ (s:St),E6 Q (stT s):=by
 have:∀ (m:Nat) (s:St),s.sz<m->E6 Q (stT s):=by
  intro m
  induction m with
  | zero=>intro e h;omega
  | succ m ih =>
   rintro ⟨k,n,t,a,x,y,p⟩ hm;rw [St.sz] at hm;have hx:E6 Q (O9 x):=by rw [S4];exact A7t C fun s hs=>ih s (by have:=St.szs_mem hs;omega)
   have hy:∀ s∈y,E6 Q (stT s):=fun s hs=>ih s (by have:=St.szs_mem hs;omega);have hys:E6 Q (O9 y):=by rw [S4];exact A7t C hy
   have hel:E6 Q [A5 [101,108,115,101]]:=C.w _ (by decide);have w0:=D9m C (k-2).toNat;have o1:E6 Q [A5 [123]]:=C.w _ (by decide);have o2:E6 Q [A5 [125]]:=C.w _ (by decide);have o3:E6 Q [A5 [59]]:=C.w _ (by decide);have o4:E6 Q [A5 [44]]:=C.w _ (by decide);have o5:E6 Q [A5 [61]]:=C.w _ (by decide);rw [stT];dsimp only;repeat' split
   all_goals repeat' with_reducible first
    | refine E6.app C ?_ ?_
    | assumption
    | exact C.z
    | exact C.n _
    | exact C.t _
    | exact E3u C _ _
    | exact hy _ A0L
 exact fun e=>this _ e (A2H _)
theorem E3t (l:List St):E6 Q (blT l):=by
 rw [blT,S4];exact ((C.w _ (by decide)).app C (A7t C fun s _=>E3n C s)).app C (C.w _ (by decide))
theorem E3s (d:Dc):E6 Q (dcT d):=by
 have hw:E6 Q [A5 (C3.getD (d.kind-1).toNat [])]:=C.w _ (by
  by_cases hi:(d.kind-1).toNat<8
  ·have:∀ i:Nat,i<8->(C3.getD i []).length<=12:=by decide
   exact this _ hi
  ·rw [A0S,A1Q (by show 8<=_;omega)];simp)
 have o3:E6 Q [A5 [59]]:=C.w _ (by decide);have o4:E6 Q [A5 [45]]:=C.w _ (by decide);unfold dcT;dsimp only;repeat' split
 all_goals repeat' first
  | assumption
  | exact C.z
  | exact C.n _
  | exact C.v _
  | refine E6.app C ?_ ?_
theorem E3q (h:Hd):E6 Q (hdT h):=by
 have hw:E6 Q [A5 (C8.getD (h.trig-1).toNat [])]:=C.w _ (by
  by_cases hi:(h.trig-1).toNat<6
  ·have:∀ i:Nat,i<6->(C8.getD i []).length<=12:=by decide
   exact this _ hi
  ·rw [A0S,A1Q (by show 6<=_;omega)];simp)
 have o3:E6 Q [A5 [111,110]]:=C.w _ (by decide);unfold hdT;refine (E6.app C (o3.app C hw) ?_).app C (E3t C _);split
 ·exact C.n _
 ·exact E3p C
theorem E3o (r:Ru):E6 Q (ruT r):=by
 unfold ruT;split
 ·exact C.z
 ·refine (A7t C fun d _=>E3s C d).app C (A7t C fun m _=>?_);unfold mdT;exact (((((C.w _ (by decide)).app C (C.n _)).app C (C.v _)).app C (C.w _ (by decide))).app C (A7t C fun h _=>E3q C h)).app C (C.w _ (by decide))
end
def Y3 (r:Ru):List UInt8:=if A1x r=true then U4 (txT (ruT r)) else []
end Go.Pb
namespace Go.Proofs.YthlpinppaclofaaGreatDoor
open Go.Eng (IC IOper DReg IFn J0)
open Go.Sym Go.Pb
theorem B0z:∀ l:List (List UInt8),Lib.join l []=l.flatten
 | []=>rfl
 | [a]=>by simp [Lib.join]
 | a :: b :: l=>by
  have:=B0z (b :: l);simp only [Lib.join] at this ⊢;rw [A2W, <- this];simp
theorem c_lines (l:List (List UInt8)) (hl:l.length<=1000000000) (hb:∀ t∈l,t.length<=100000):PC Tryz.prog 60 [A8m l] (.str (U4 l)):=by
 refine PC.ofT B2 rfl (A0A rfl) (by simp only [DV.nlL,DV.nl,R7,A1T]) rfl ?_;repeat' ((with_reducible first|refine wr ?_|refine A2 ?_ ?_|fail)<;>try simp only [go_sem,seval])
 refine D2 (fun q:Nat × Option Nat=>[(3,C4 q.2 q.1),(6,A8m l),(7,I64 l.length),(8,I64 q.1)]) (fun q=>D4 Sym.nil q.2 ⟨1,true,((l.take q.1).map lnT).map DV.str⟩)
  (fun q cc=>q.1<=l.length/\(q.2=none->q.1=0)/\∀ i,q.2=some i->i<cc) (fun q=>l.length-q.1) (0,none)
  (by simp [C6,tm,Tm.upd,C4]) (Sub.nil _) ⟨by simp,by simp,by simp⟩ ?_
 rintro ⟨k,o⟩ c ⟨hk,hno,ho⟩;simp only at hk hno ho;simp only;have hkl:((l.take k).map lnT).length=k:=by rw [A0I,A0T];omega
 by_cases hlt:k<l.length
 ·have hd:decide ((k:Int)<l.length)=true:=by simpa using hlt
  have hg:=A0E hlt;have hw:IntKind.i64.wrap ((k:Int)+1)=((k+1:Nat):Int):=by rw [w6z (by omega)];omega
  have est:((l.take (k+1)).map lnT).map DV.str=((l.take k).map lnT).map DV.str++[DV.str (lnT l[k])]:=by
   rw [A2J,hg,A4N,A0Z,A0Z];rfl
  have htl:=hb _ (A1B hlt);obtain ⟨t,ht⟩:∃ t,t=l[k]:=⟨_,rfl⟩;rw [<- ht] at hg est htl;have hgm:(l.map DV.str)[k]? = some (.str t):=by rw [A1C,hg];rfl
  obtain ⟨cs,hcs⟩:∃ cs,cs=((l.take k).map lnT).map DV.str:=⟨_,rfl⟩;have hcl:cs.length=k * 1:=by rw [hcs,A0I,hkl,Nat.mul_one]
  rw [<- hcs] at est ⊢;have hno2:o=none->k=0/\cs=[]:=fun e=>⟨hno e,by rw [hcs,hno e];rfl⟩;have ne0:=V8 c (c+1) (c+2) (by omega);have a1:binR .add (.str t) (.str [10])=some (.str (t++[10])):=B4w (by simp [maxLen];omega);have a2:binR .add (.str t) (.str [32])=some (.str (t++[32])):=B4w (by simp [maxLen];omega);repeat' ((with_reducible first|refine wr ?_|refine A2 ?_ ?_|refine wb2 ?_ ?_<;>(intro hb;try simp only [hb])|fail)<;>try simp only [go_sem,seval,hd,hgm,hw,ne0,a1,a2])
  all_goals
   refine D0 (L6 (cs:=cs) hno2 (fun i hi=>?_) hcl (by omega) (by omega) (by omega)) ?_
   ·have:=ho i hi;rw [A3 (by omega)];exact B5c hi
   simp only [go_sem,seval,ne0,hw];repeat' ((with_reducible first|refine wr ?_|refine A2 ?_ ?_|fail)<;>try simp only [go_sem,seval,hd,hw,ne0])
  all_goals exact ⟨(k+1,some (c+1)),⟨rfl,rfl⟩,O4 (by simp only [est];exact congrArg (fun z=>(⟨1,true,cs++[DV.str z]⟩:Blk)) (by unfold lnT;simp_all)),inv ⟨hlt,by simp,fun i hi=>by cases hi;omega⟩,by simp only;omega⟩
 ·have hd:decide ((k:Int)<l.length)=false:=by simpa using hlt
  have hfl:(U4 l).length<=140737488355328:=by
   have:∀ q:List (List UInt8),(∀ t∈q,t.length<=100000)->(U4 q).length<=100001 * q.length:=by
    intro q
    induction q with
    | nil=>intro _;simp [U4]
    | cons a q ih =>
     intro h;have h1:=ih fun t ht=>h t (A0J _ ht);have h2:=h a A0L;have h3:(lnT a).length=a.length+1:=by unfold lnT;split<;>simp
     unfold U4 at h1 ⊢;rw [A0N,A2W,A0C,A0B,h3];omega
   have:=this l hb;omega
  have hj:=c_Join (l.map lnT) [] (by rw [A0I];omega) (by rw [B0z];exact hfl);rw [B0z] at hj;obtain rfl:k=l.length:=by omega
  rw [A3H] at hkl ⊢;rcases o with _|id
  ·have hk0:=hno rfl;have h00:l=[]:=A1S (by omega);repeat' ((with_reducible first|refine wr ?_|refine A2 ?_ ?_|fail)<;>try simp only [go_sem,seval,hd])
   refine AC.call (hj.give (H0:=Sym.nil) ⟨fun _ h=>h,fun ρ w vs h1 h2=>⟨ρ,rfl,h1,?_,Ext.refl _ _ _⟩⟩) ?_
   ·rw [h00];exact ⟨h2.1,fun i x y hx hy=>by
     match i with
     | 0=>cases hx;exact (h2.2 0 _ y rfl hy).snil_lst
     | 1=>cases hx;exact h2.2 1 _ y rfl hy
     | _+2=>cases hx⟩
   ·rintro v H' c' ⟨rfl,rfl,rfl⟩ -;simp only [go_sem,seval];repeat' ((with_reducible first|refine wr ?_|refine A2 ?_ ?_|fail)<;>try simp only [go_sem,seval])
    exact A9 rfl
  ·repeat' ((with_reducible first|refine wr ?_|refine A2 ?_ ?_|fail)<;>try simp only [go_sem,seval,hd])
   refine AC.call (hj.give (H0:=Sym.nil) (GL.one (id:=id) A0 rfl (.cons _ _ _ _ (M9 (u:=1) (by rw [A0I,hkl]) (R4 _) ⟨[],by rw [A3y];simp⟩) (.cons _ _ _ _ (.same _) .nil)))) ?_;rintro v H' c' ⟨rfl,rfl,rfl⟩ -;simp only [go_sem,seval];repeat' ((with_reducible first|refine wr ?_|refine A2 ?_ ?_|fail)<;>try simp only [go_sem,seval])
   exact A9 rfl
end Go.Proofs.YthlpinppaclofaaGreatDoor
set_option maxHeartbeats 8000000
namespace Go.Proofs.YthlpinppaclofaaGreatDoor
open Go.Eng (IC IOper DReg IFn J0)
open Go.Sym Go.Pb
end Go.Proofs.YthlpinppaclofaaGreatDoor
namespace Go.Pb
open Go.Sym
def Shp.v (s:Shp):DV:=.agg [.bool s.name,.bool s.text,I64 s.args,.bool s.thn,.bool s.els]
end Go.Pb
namespace Go.Proofs.YthlpinppaclofaaGreatDoor
open Go.Eng (IC IOper DReg IFn J0)
open Go.Sym Go.Pb
def C9z (k:Int):Bool:=decide (1<=k) && decide (k<=19)
theorem c_shapeOf (k:Int):PC Tryz.prog 153 [I64 k] (.tup [(G7 k).v,.bool (C9z k)]):=by
 refine PC.ofT B2 rfl (A0A rfl) (by simp [DV.nlL,DV.nl]) rfl ?_;repeat' ((with_reducible first|refine wr ?_|refine A2 ?_ ?_|refine wb2 ?_ ?_<;>(intro hb;try simp only [hb])|fail)<;>try simp only [go_sem,seval])
 all_goals refine A9 ?_
 all_goals simp_all [G7,C9z,Shp.v,tm,Tm.upd]
 all_goals omega
theorem c_isText (s:List UInt8) (hs:s.length<=1000000000):PC Tryz.prog 180 [.str s] (.bool (N7 s)):=by
 refine PC.ofT B2 rfl (A0A rfl) (by simp [DV.nlL,DV.nl]) (by simp [DV.nlL,DV.nl]) ?_;repeat' ((with_reducible first|refine wr ?_|refine A2 ?_ ?_|fail)<;>try simp only [go_sem,seval])
 refine D2 (fun k:Nat=>[(0,.str s),(3,I64 k)]) (fun _=>Sym.nil) (fun k _=>k<=s.length/\(s.take k).all txB=true) (fun k=>s.length-k) 0 (by simp [C6,tm,Tm.upd]) (Sub.refl _) ⟨A1H _,rfl⟩ ?_;rintro k cc ⟨hk,he⟩;by_cases hlt:k<s.length
 ·have hd:decide ((k:Int)<s.length)=true:=by simpa using hlt
  have hg:=A0E hlt;have hw:=w64 (n:=(k:Int)+1);generalize s[k]=x at hg;have hx:txB x=(decide (32<=x.toNat) && decide (x.toNat<=126)):=rfl;repeat' ((with_reducible first|refine wr ?_|refine A2 ?_ ?_|refine wb2 ?_ ?_<;>(intro hb;try simp only [hb])|fail)<;>try simp only [go_sem,seval,hd,hg,hw])
  ·refine A9 (congrArg DV.bool ?_);have:=B1u txB s k _ hg (by simp_all<;>omega);simp [N7,this]
  ·refine A9 (congrArg DV.bool ?_);have:=B1u txB s k _ hg (by simp_all<;>omega);simp [N7,this]
  ·exact ⟨k+1,rfl,Sub.refl _,inv ⟨by omega,by rw [B4c txB s k _ hg,he];simp_all<;>omega⟩,by omega⟩
 have hd:decide ((k:Int)<s.length)=false:=by simpa using hlt
 have hall:=B9e txB s k (by omega) he;repeat' ((with_reducible first|refine wr ?_|refine A2 ?_ ?_|fail)<;>try simp only [go_sem,seval,hd])
 refine A9 (congrArg DV.bool ?_);simp [N7,hall];omega
theorem c_validDecl (d:Dc) (hB:d.name.length<=1000000000):PC Tryz.prog 51 [d.v] (.bool (A1q d)):=by
 refine PC.ofT B2 rfl (A0A rfl) (by simp [DV.nlL,DV.nl]) (by simp [DV.nlL,DV.nl]) ?_;have hn:=c_IsName d.name hB;repeat' ((with_reducible first|refine wr ?_|refine cpc hn ?_|refine A2 ?_ ?_|refine wb2 ?_ ?_<;>(intro hb;try simp only [hb])|fail)<;>try simp only [go_sem,seval])
 all_goals (refine A9 (congrArg DV.bool ?_);simp_all [A1q]<;>omega)
theorem c_vS1 (e:Ex) (hB:e.sz<=100000000):PC Tryz.prog 179 [e.v] (.bool (!V1 e)):=by
 refine PC.ofT B2 rfl (A0A rfl) (by simp [DV.nlL,DV.nl]) (by simp [DV.nlL,DV.nl]) ?_;have h:=c_ValidExpr e hB;rw [Ex.v_w] at h ⊢;repeat' ((with_reducible first|refine wr ?_|refine cpc h ?_|refine A2 ?_ ?_|fail)<;>try simp only [go_sem,seval])
 exact A9 rfl
theorem D7q (d:Nat) (s:Pb.St):R2 d s=(C9z s.kind && (s.args.length == (G7 s.kind).args && s.args.all V1) &&
   ((if (G7 s.kind).name=true then C2 s.name else s.name == []) && (if (G7 s.kind).text=true then N7 s.text else s.text == [])) &&
   (((G7 s.kind).thn || s.thn.isEmpty) && ((G7 s.kind).els || s.els.isEmpty)) && (O8 s.thn (d+1) && O8 s.els (d+1))):=by
 cases s with|mk k n t a x y p=>rw [R2];rfl
theorem B6j {α : Type} (g : α -> Bool) (l:List α):l.any (fun x => !g x) = !l.all g:=by
 induction l with
 | nil=>rfl
 | cons x l ih=>rw [List.any_cons,A2N,ih,Bool.not_and]
theorem c_vSt (s:Pb.St) (d:Nat) (hd:d<=1000000000) (hB:s.sz<=100000000) (hX:PC Tryz.prog 93 [G1 s.thn,I64 (d+1:Nat)] (.bool (O8 s.thn (d+1)))) (hY:PC Tryz.prog 93 [G1 s.els,I64 (d+1:Nat)] (.bool (O8 s.els (d+1)))) :
  PC Tryz.prog 148 [s.v,I64 d] (.bool (R2 d s)):=by
 rw [D7q];have hsa:Ex.szs s.args<s.sz:=by cases s with|mk k n t a x y p=>rw [Pb.St.sz];show Ex.szs a<_;omega
 have hal:=Ex.szs_len s.args;have hxl:=Pb.St.szs_len s.thn;have hyl:=Pb.St.szs_len s.els;have hxs:=s.sz_thn;have hys:=s.sz_els;have hnl:=s.sz_name;have htl:=s.sz_text;have hn:=c_IsName s.name (by omega);have ht:=c_isText s.text (by omega);have hsh:=c_shapeOf s.kind;have hca:=c_CF_ex (f:=179) (a:=[]) (cs:=[]) (g:=fun e => !V1 e) s.args (by omega) rfl rfl (fun x hx=>c_vS1 x (by have:=Ex.szs_mem hx;omega));rw [B6j] at hca;have hw:=w64 (n:=(d:Int)+1);refine PC.ofT B2 rfl (A0A rfl) (by rw [Pb.St.v_w];simp [DV.nlL,DV.nl,Z0,U0]) rfl ?_;cases s with|mk k n t a x y p =>
 dsimp only [Pb.St.kind,Pb.St.name,Pb.St.text,Pb.St.args,Pb.St.thn,Pb.St.els,Pb.St.pos] at *;have hX:PC Tryz.prog 93 [G1 x,I64 ((d:Int)+1)] (.bool (O8 x (d+1))):=hX;have hY:PC Tryz.prog 93 [G1 y,I64 ((d:Int)+1)] (.bool (O8 y (d+1))):=hY;have ev:(Pb.St.mk k n t a x y p).v=.agg [I64 k,.str n,.str t,H9 a,G1 x,G1 y,I64 p]:=Pb.St.v_w _;rw [ev];generalize O8 x (d+1)=bx at *;generalize O8 y (d+1)=bY at *;generalize C9z k=kb at *;obtain ⟨nb,tb,ar,xb,yb,hs⟩:∃ nb tb ar xb yb,G7 k=⟨nb,tb,ar,xb,yb⟩:=⟨_,_,_,_,_,rfl⟩;simp only [hs,Shp.v] at hsh ⊢;have kA:∀ (cc:Nat) (nm tx:Bool),IW Tryz.prog 86 (pz Tryz.prog 148 (.i (.i (.o (.i .h))))) ⟨tm [(1,I64 d),(2,.ptr 0 0),(5,.ptr 1 0),(7,.bool nm),(8,.bool tx)],(Sym.nil.upd 0 ⟨0,true,[I64 k,.str n,.str t,H9 a,G1 x,G1 y,I64 p]⟩).upd 1 ⟨0,true,[.bool nb,.bool tb,I64 ar,.bool xb,.bool yb]⟩,cc⟩ (rt [.tmp 4] fun v H' c => ∃ H2,GL H' [v] H2 [.bool ((nm && tx) && ((xb || x.isEmpty) && (yb || y.isEmpty)) && (bx && bY))]):=by
  intro cc nm tx;have ex:x.isEmpty = !decide ((x.length:Int)>0):=by cases x<;>simp
  have ey:y.isEmpty = !decide ((y.length:Int)>0):=by cases y<;>simp
  rw [ex,ey];cases nm with
  | false =>
   repeat' ((with_reducible first|refine wr ?_|refine A2 ?_ ?_|fail)<;>try simp only [go_sem,seval])
   exact A9 (by simp)
  | true =>
  cases tx with
  | false =>
   repeat' ((with_reducible first|refine wr ?_|refine A2 ?_ ?_|fail)<;>try simp only [go_sem,seval])
   exact A9 (by simp)
  | true =>
  generalize hlx:decide ((x.length:Int)>0)=lx at *;generalize hly:decide ((y.length:Int)>0)=ly at *;cases bx<;>cases bY<;>cases xb<;>cases lx<;>cases yb<;>cases ly;all_goals (repeat' ((with_reducible first|refine wr ?_|refine cpc hX ?_|refine cpc hY ?_|refine A2 ?_ ?_|fail)<;>try simp only [go_sem,seval,hlx,hly,hw,A0I]))
  all_goals exact A9 rfl
 have kB:∀ cc:Nat,IW Tryz.prog 86 (pz Tryz.prog 148 (.i (.i (.i .h)))) ⟨tm [(1,I64 d),(2,.ptr 0 0),(5,.ptr 1 0),(7,.bool (n == [])),(8,.bool (t == []))],(Sym.nil.upd 0 ⟨0,true,[I64 k,.str n,.str t,H9 a,G1 x,G1 y,I64 p]⟩).upd 1 ⟨0,true,[.bool nb,.bool tb,I64 ar,.bool xb,.bool yb]⟩,cc⟩ (rt [.tmp 4] fun v H' c => ∃ H2,GL H' [v] H2 [.bool (((if nb=true then C2 n else n == []) && (if tb=true then N7 t else t == [])) && ((xb || x.isEmpty) && (yb || y.isEmpty)) && (bx && bY))]):=by
  intro cc;cases nb<;>cases tb;all_goals (repeat' ((with_reducible first|refine E3 (p:=IW _ _ (pz Tryz.prog 148 (.i (.i (.o (.i .h))))) _ _) ?_|refine wr ?_|refine cpc hn ?_|refine cpc ht ?_|refine A2 ?_ ?_|fail)<;>try simp only [go_sem,seval]))
  all_goals (refine IW.stage ?_ (kA _ _ _);simp [C6,tm,Tm.upd])
 cases kb with
 | false =>
  repeat' ((with_reducible first|refine wr ?_|refine cpc hsh ?_|refine A2 ?_ ?_|fail)<;>try simp only [go_sem,seval])
  exact A9 (by simp)
 | true =>
 by_cases hal2:a.length=ar
 ·have d0:((a.length:Int) != (ar:Int))=false:=by simp [hal2]
  cases hall:a.all V1 with
  | false =>
   rw [hall] at hca;repeat' ((with_reducible first|refine wr ?_|refine cpc hsh ?_|refine cpc hca ?_|refine A2 ?_ ?_|fail)<;>try simp only [go_sem,seval,d0,A0I])
   exact A9 (by simp)
  | true =>
   rw [hall] at hca;have e1:(a.length == ar)=true:=by simpa using hal2
   rw [e1];simp only [A1J];repeat' ((with_reducible first|refine E3 (p:=IW _ _ (pz Tryz.prog 148 (.i (.i (.i .h)))) _ _) ?_|refine wr ?_|refine cpc hsh ?_|refine cpc hca ?_|refine A2 ?_ ?_|fail)<;>try simp only [go_sem,seval,d0,A0I,A1])
   refine IW.stage (L:=[(1,I64 d),(2,.ptr 0 0),(5,.ptr 1 0),(7,.bool (n == [])),(8,.bool (t == []))]) ?_ (kB _);simp [C6,tm,Tm.upd]
 ·have d0:((a.length:Int) != (ar:Int))=true:=by simp;omega
  repeat' ((with_reducible first|refine wr ?_|refine cpc hsh ?_|refine A2 ?_ ?_|fail)<;>try simp only [go_sem,seval,d0,A0I])
  exact A9 (by simp;omega)
theorem c_vB1 (s:Pb.St) (d:Nat) (h:PC Tryz.prog 148 [s.v,I64 d] (.bool (R2 d s))):PC Tryz.prog 147 [s.v,.fptr [I64 d]] (.bool (!R2 d s)):=by
 rw [Pb.St.v_w] at h ⊢;refine PC.ofT B2 rfl (A0A rfl) (by simp [DV.nlL,DV.nl]) (by simp [DV.nlL,DV.nl]) ?_;repeat' ((with_reducible first|refine wr ?_|refine cpc h ?_|refine A2 ?_ ?_|fail)<;>try simp only [go_sem,seval])
 exact A9 rfl
theorem B2m (d:Nat):∀ l:List Pb.St,J5 d l=l.all (R2 d)
 | []=>by rw [J5];rfl
 | s :: l=>by rw [J5,B2m d l];rfl
theorem c_validBlock:∀ (m:Nat) (l:List Pb.St) (d:Nat),Pb.St.szs l<m->Pb.St.szs l<=100000000->d+Pb.St.szs l<=1000000000->PC Tryz.prog 93 [G1 l,I64 d] (.bool (O8 l d)):=by
 intro m
 induction m with
 | zero=>intro l d h;omega
 | succ m ih =>
 intro l d hm hB hd;have hl:=Pb.St.szs_len l;have hcf:=c_CF_st (f:=147) (a:=[]) (cs:=[.fptr [I64 d]]) (g:=fun s => !R2 d s) l (by omega) rfl rfl (fun s hs=>by
  have h1:=Pb.St.szs_mem hs;have h2:=s.sz_thn;have h3:=s.sz_els;exact c_vB1 s d (c_vSt s d (by omega) (by omega) (ih _ _ (by omega) (by omega) (by omega)) (ih _ _ (by omega) (by omega) (by omega))))
 rw [B6j, <- B2m] at hcf;refine PC.ofT B2 rfl (A0A rfl) (by simp [DV.nlL,DV.nl,U0]) rfl ?_;have el:l.isEmpty = !decide ((l.length:Int)>0):=by cases l<;>simp
 have e64:decide (l.length<=64) = !decide ((l.length:Int)>64):=by rw [<- decide_not];exact decide_eq_decide.2 (by omega)
 have e8:decide (d<=8) = !decide ((d:Int)>8):=by rw [<- decide_not];exact decide_eq_decide.2 (by omega)
 unfold O8;rw [el,e64,e8];repeat' ((first|(with_reducible first|refine wr ?_|refine A2 ?_ ?_)|(with_reducible refine wb2 ?_ ?_<;>(intro hb;try simp only [hb]))|(refine AC.call (hcf.lend rfl (GL.one (id:=0) (b:=⟨0,true,[I64 d]⟩) rfl rfl (.cons _ _ _ _ (.same _) (.cons _ _ _ _ (.func _ _ _ _ _ .nil (.cons _ _ _ _ (.ptr 0 _ (A1H _) rfl) .nil)) .nil)))) ?_<;>rintro v H' c' ⟨rfl,rfl,rfl⟩ hcc)|fail)<;>try simp only [go_sem,seval,A0I])
 all_goals (refine A9 (congrArg DV.bool ?_);simp_all)
theorem c_validHd (h:Hd) (hB:Pb.St.szs h.body<=100000000):PC Tryz.prog 93 [G1 h.body,I64 1] (.bool (O8 h.body 1)) :=
 c_validBlock _ h.body 1 (A2H _) hB (by omega)
theorem E5b (h:Hd):h.v=.agg [I64 h.trig,.str h.name,G1 h.body,I64 h.pos]:=rfl
theorem c_validMode (d:Md) (hB:d.sz<=100000000):PC Tryz.prog 54 [d.v] (.bool (S7 d)):=by
 have hsz:d.sz=1+d.name.length+(d.hds.map Hd.sz).sum:=rfl;have hhl:d.hds.length<=(d.hds.map Hd.sz).sum:=M6 fun x _=>by show 1<=1+_+_;omega
 have hn:=c_IsName d.name (by omega);refine PC.ofT B2 rfl (A0A rfl) (by simp [Md.v,DV.nlL,DV.nl,A9m]) rfl ?_;have ev:d.v=.agg [.str d.name,I64 d.prio,A0z d.hds,I64 d.pos]:=rfl;rw [ev];cases hnm:C2 d.name with
 | false =>
  rw [hnm] at hn;repeat' ((with_reducible first|refine wr ?_|refine cpc hn ?_|refine A2 ?_ ?_|fail)<;>try simp only [go_sem,seval])
  exact A9 (by simp [S7,hnm])
 | true =>
 rw [hnm] at hn;by_cases p0:d.prio<0
 ·have q0:decide (d.prio<0)=true:=by simpa using p0
  repeat' ((with_reducible first|refine wr ?_|refine cpc hn ?_|refine A2 ?_ ?_|fail)<;>try simp only [go_sem,seval,q0])
  exact A9 (by simp [S7,hnm];omega)
 have q0:decide (d.prio<0)=false:=by simpa using p0
 by_cases p1:d.prio>2147483647
 ·have q1:decide (d.prio>2147483647)=true:=by simpa using p1
  repeat' ((with_reducible first|refine wr ?_|refine cpc hn ?_|refine A2 ?_ ?_|fail)<;>try simp only [go_sem,seval,q0,q1])
  exact A9 (by simp [S7,hnm];omega)
 have q1:decide (d.prio>2147483647)=false:=by simpa using p1
 by_cases p2:d.hds.length>32
 ·have q2:decide ((d.hds.length:Int)>32)=true:=by simp;omega
  repeat' ((with_reducible first|refine wr ?_|refine cpc hn ?_|refine A2 ?_ ?_|fail)<;>try simp only [go_sem,seval,q0,q1,q2,A0I])
  exact A9 (by simp [S7,hnm];omega)
 have q2:decide ((d.hds.length:Int)>32)=false:=by simp;omega
 have er:S7 d=d.hds.all X9:=by
  unfold S7;rw [hnm,show decide (0<=d.prio)=true by simp;omega,show decide (d.prio<=2147483647)=true by simp;omega,show decide (d.hds.length<=32)=true by simp;omega];rfl
 rw [er];repeat' ((with_reducible first|refine wr ?_|refine cpc hn ?_|refine A2 ?_ ?_|fail)<;>try simp only [go_sem,seval,q0,q1,q2,A0I])
 refine D2 (fun k:Nat=>[(27,A0z d.hds),(28,I64 d.hds.length),(29,I64 k)]) (fun _=>Sym.nil) (fun k _=>k<=d.hds.length/\(d.hds.take k).all X9=true) (fun k=>d.hds.length-k) 0 (by simp [C6,tm,Tm.upd]) (Sub.nil _) ⟨A1H _,rfl⟩ ?_;rintro k cc ⟨hk,he⟩;by_cases hlt:k<d.hds.length
 ·have hd:decide ((k:Int)<d.hds.length)=true:=by simpa using hlt
  have hg:=A0E hlt;have hw:=w64 (n:=(k:Int)+1);have hs:d.hds[k].sz<=(d.hds.map Hd.sz).sum:=O3 (A1B hlt);generalize d.hds[k]=h at hg hs;have hhs:h.sz=1+h.name.length+Pb.St.szs h.body:=rfl;have hn2:=c_IsName h.name (by omega);have hb2:=c_validHd h (by omega);have hf:=B1u X9 d.hds k _ hg;have ht:=B4c X9 d.hds k _ hg;have eh:X9 h=(decide (1<=h.trig) && decide (h.trig<=6) && (if 3<=h.trig then C2 h.name else h.name == []) && O8 h.body 1):=rfl;by_cases t3:3<=h.trig
  ·have u3:decide (h.trig≥3)=true:=by simpa using t3
   rw [if_pos t3] at eh;repeat' ((with_reducible first|refine wr ?_|refine cpc hn2 ?_|refine cpc hb2 ?_|refine A2 ?_ ?_|refine wb2 ?_ ?_<;>(intro hb;try simp only [hb])|fail)<;>try simp only [go_sem,seval,hd,hg,hw,u3,E5b,A0,A1])
   all_goals first
    | (refine A9 (congrArg DV.bool (hf ?_).symm);rw [eh];clear hf ht eh er;simp_all<;>omega)
    | (refine ⟨k+1,rfl,Sub.nil _,inv ⟨by omega,?_⟩,by omega⟩;rw [ht,he,eh];clear hf ht eh er;simp_all<;>omega)
  ·have u3:decide (h.trig≥3)=false:=by simpa using t3
   rw [if_neg t3] at eh;repeat' ((with_reducible first|refine wr ?_|refine cpc hn2 ?_|refine cpc hb2 ?_|refine A2 ?_ ?_|refine wb2 ?_ ?_<;>(intro hb;try simp only [hb])|fail)<;>try simp only [go_sem,seval,hd,hg,hw,u3,E5b,A0,A1])
   all_goals first
    | (refine A9 (congrArg DV.bool (hf ?_).symm);rw [eh];clear hf ht eh er;simp_all<;>omega)
    | (refine ⟨k+1,rfl,Sub.nil _,inv ⟨by omega,?_⟩,by omega⟩;rw [ht,he,eh];clear hf ht eh er;simp_all<;>omega)
 have hd:decide ((k:Int)<d.hds.length)=false:=by simpa using hlt
 have hall:=B9e X9 d.hds k (by omega) he;repeat' ((with_reducible first|refine wr ?_|refine A2 ?_ ?_|fail)<;>try simp only [go_sem,seval,hd])
 exact A9 (by rw [hall])
theorem c_V1 (d:Dc) (hB:d.name.length<=1000000000):PC Tryz.prog 50 [d.v] (.bool (!A1q d)):=by
 have h:=c_validDecl d hB;have ev:d.v=.agg [I64 d.kind,.str d.name,I64 d.value,I64 d.pos]:=rfl;rw [ev] at h ⊢;refine PC.ofT B2 rfl (A0A rfl) (by simp [DV.nlL,DV.nl]) (by simp [DV.nlL,DV.nl]) ?_;repeat' ((with_reducible first|refine wr ?_|refine cpc h ?_|refine A2 ?_ ?_|fail)<;>try simp only [go_sem,seval])
 exact A9 rfl
theorem c_V2 (d:Md) (hB:d.sz<=100000000):PC Tryz.prog 53 [d.v] (.bool (!S7 d)):=by
 have h:=c_validMode d hB;have ev:d.v=.agg [.str d.name,I64 d.prio,A0z d.hds,I64 d.pos]:=rfl;rw [ev] at h ⊢;refine PC.ofT B2 rfl (A0A rfl) (by simp [DV.nlL,DV.nl]) (by simp [DV.nlL,DV.nl]) ?_;repeat' ((with_reducible first|refine wr ?_|refine cpc h ?_|refine A2 ?_ ?_|fail)<;>try simp only [go_sem,seval])
 exact A9 rfl
theorem c_Valid (r:Ru) (hB:r.sz<=100000000):PC Tryz.prog 23 [r.v] (.bool (A1x r)):=by
 obtain ⟨D,M⟩:=r;have hDs:(D.map Dc.sz).sum+(M.map Md.sz).sum<=100000000:=hB;have hDl:D.length<=(D.map Dc.sz).sum:=M6 fun x _=>by show 1<=1+_;omega
 have hMl:M.length<=(M.map Md.sz).sum:=M6 fun x _=>by show 1<=1+_+_;omega
 have h1:=c_CF_dc (f:=50) (a:=[]) (cs:=[]) (g:=fun e => !A1q e) D (by omega) rfl rfl (fun x hx=>c_V1 x (by
  have:x.sz<=(D.map Dc.sz).sum:=O3 hx;have e:x.sz=1+x.name.length:=rfl;omega))
 have h2:=c_CF_md (f:=53) (a:=[]) (cs:=[]) (g:=fun e => !S7 e) M (by omega) rfl rfl (fun x hx=>c_V2 x (by
  have:x.sz<=(M.map Md.sz).sum:=O3 hx;omega))
 rw [B6j] at h1 h2;refine PC.ofT B2 rfl (A0A rfl) (by simp [Ru.v,DV.nlL,DV.nl,W4,W3]) rfl ?_;dsimp only [Ru.v];unfold A1x;dsimp only;have e1:decide (D.length<=128) = !decide ((D.length:Int)>128):=by rw [<- decide_not];exact decide_eq_decide.2 (by omega)
 have e2:decide (M.length<=16) = !decide ((M.length:Int)>16):=by rw [<- decide_not];exact decide_eq_decide.2 (by omega)
 rw [e1,e2];generalize D.all A1q=bD at *;generalize M.all S7=bM at *;repeat' ((with_reducible first|refine wr ?_|refine cpc h1 ?_|refine cpc h2 ?_|refine A2 ?_ ?_|refine wb2 ?_ ?_<;>(intro hb;try simp only [hb])|fail)<;>try simp only [go_sem,seval,A0I])
 all_goals (refine A9 (congrArg DV.bool ?_);simp_all)
end Go.Proofs.YthlpinppaclofaaGreatDoor
set_option maxHeartbeats 4000000
namespace Go.Proofs.YthlpinppaclofaaGreatDoor
open Go.Eng (IC IOper DReg IFn J0)
open Go.Sym Go.Pb
theorem c_pblk (P:Pb.St->List (List UInt8)) (l:List Pb.St) (hl:l.length<=4000000) (hP:∀ s∈l,OwL 102 [s.v] (P s)) (hb:(l.flatMap P).length<=1000000000):OwL 59 [G1 l] (K6 P l):=by
 refine OwL.of (by simp [DV.nlL,DV.nl,U0]) ?_;refine AC.bodyT B2 rfl (A0A rfl) fun hfr=>?_;repeat' ((with_reducible first|refine wr ?_|refine A2 ?_ ?_|fail)<;>try simp only [go_sem,seval])
 refine A4q (fun q:Nat × Nat=>[(3,.slc q.2 0 (1+((l.take q.1).flatMap P).length)),(7,G1 l),(8,I64 l.length),(9,I64 q.1)]) (fun q=>nil.upd q.2 ⟨1,true,([123] :: (l.take q.1).flatMap P).map DV.str⟩)
  (fun q cc=>q.1<=l.length/\q.2<cc) (fun q=>l.length-q.1) (0,0) (fun b=>⟨rfl,rfl,rfl,rfl,trivial⟩) (by simp [C6,tm,Tm.upd]) (by simp;exact Sub.refl _) ⟨by simp,by simp⟩ ?_
 rintro ⟨k,id⟩ c ⟨hk,hid⟩;simp only at hk hid;simp only;have hle:((l.take k).flatMap P).length<=(l.flatMap P).length:=by
  have:=congrArg List.length (congrArg (List.flatMap P) (A2Y k l));rw [A4M,A0C] at this;omega
 obtain ⟨A,hA⟩:∃ A,A=(l.take k).flatMap P:=⟨_,rfl⟩;rw [<- hA] at hle ⊢;by_cases hlt:k<l.length
 ·have hd:decide ((k:Int)<l.length)=true:=by simpa using hlt
  have hg:=A0E hlt;have hw:IntKind.i64.wrap ((k:Int)+1)=((k+1:Nat):Int):=by rw [w6z (by omega)];omega
  have est:(l.take (k+1)).flatMap P=A++P l[k]:=by
   rw [A2J,hg,A4N,A4M,hA];simp
  have hc:=hP _ (A1B hlt);have hle2:(A++P l[k]).length<=(l.flatMap P).length:=by
   have:=congrArg List.length (congrArg (List.flatMap P) (A2Y (k+1) l));rw [A4M,A0C,est] at this;omega
  obtain ⟨s,hs⟩:∃ s,s=l[k]:=⟨_,rfl⟩;rw [<- hs] at hg est hc hle2;have hgm:(l.map Pb.St.v)[k]? = some s.v:=by rw [A1C,hg];rfl
  rw [Pb.St.v_w] at hgm hc;have ne0:=V8 id c (c+1) (by omega);repeat' ((with_reducible first|refine wr ?_|refine A2 ?_ ?_|fail)<;>try simp only [go_sem,seval,hd,hgm,hw,ne0,A0])
  refine AC.call (hc _ _) ?_;rintro _ _ _ ⟨rfl,rfl,rfl⟩ -;have tk:List.take (P s).length ((P s).map DV.str)=(P s).map DV.str:=A0O (by simp);rw [A0C] at hle2;have ne0:=A7y id c (c+1) (c+1+1) (by omega);simp only [go_sem,seval,ne0,A0,tk];repeat' ((with_reducible first|refine wr ?_|refine A2 ?_ ?_|fail)<;>try simp only [go_sem,seval,ne0,A0,tk])
  refine D0 (E0 (by simp;omega) (by omega) (by omega)) ?_;simp only [go_sem,seval,ne0,A0];repeat' ((with_reducible first|refine wr ?_|refine A2 ?_ ?_|fail)<;>try simp only [go_sem,seval,hw,ne0,A0])
  have e1:1+A.length+(P s).length=1+((l.take (k+1)).flatMap P).length:=by rw [est,A0C];omega
  refine ⟨(k+1,c+1+1),⟨by rw [e1],rfl⟩,GL.less fun j=>?_,inv ⟨hlt,by simp only;omega⟩,by simp only;omega⟩;by_cases e:j=c+1+1
  ·subst e;right;rw [A0,A0];simp only [est,A0Z]
  ·left;rw [A3 e];rfl
 ·have hd:decide ((k:Int)<l.length)=false:=by simpa using hlt
  obtain rfl:k=l.length:=by omega
  rw [A3H] at hA;have ne0:=V8 id c (c+1) (by omega);repeat' ((with_reducible first|refine wr ?_|refine A2 ?_ ?_|fail)<;>try simp only [go_sem,seval,hd,ne0,A0])
  refine D0 (E0 (by simp;omega) (by omega) (by omega)) ?_;simp only [go_sem,seval,ne0,A0];repeat' ((with_reducible first|refine wr ?_|refine A2 ?_ ?_|fail)<;>try simp only [go_sem,seval,hd,ne0,A0])
  have e1:(K6 P l).length=1+A.length+1:=by rw [K6, <- hA];simp;omega
  rw [<- e1];exact ⟨_,nil.upd (c+1) ⟨1,true,(K6 P l).map DV.str⟩,V9 A0 (fun j hj=>.inl (by rw [A3 hj];rfl)) (by rw [A0,K6, <- hA];simp),c+1,rfl,rfl⟩
abbrev B7r (k:Int) (n t:List UInt8) (a:List Ex) (x y:List Pb.St) (p:Int):Blk:=⟨0,true,[I64 k,.str n,.str t,H9 a,G1 x,G1 y,I64 p]⟩
abbrev C0l (q:Shp):Blk:=⟨0,true,[.bool q.name,.bool q.text,I64 q.args,.bool q.thn,.bool q.els]⟩
theorem c_psE (k:Int) (n t:List UInt8) (a:List Ex) (x y:List Pb.St) (p:Int) (P:Pb.St->List (List UInt8)) (hY:OwL 59 [G1 y] (K6 P y))
  (hS:∀ s,y=[s]->OwL 102 [s.v] (P s)) (hb2:(K6 P y).length<=1000000000) (hb3:∀ s,y=[s]->(P s).length<=1000000000)
  (l R:List (List UInt8)) (id c:Nat) (hid:1<=id) (hc:id<c) (hl:l.length<=10000000000) (hR:R=l++B1n P y) :
  IW Tryz.prog 107 (pz Tryz.prog 102 (.o (.i (.o (.i (.i .h)))))) ⟨(tm [(1,.ptr 0 0),(3,.slc id 0 l.length)]),((nil.upd 0 (B7r k n t a x y p)).upd id ⟨1,true,l.map DV.str⟩),c⟩ (rt [.tmp 2] fun v H' c' => ∃ v2 H2,GL H' [v] H2 [v2]/\∃ id,v2=.slc id 0 R.length/\H2=nil.upd id ⟨1,true,R.map DV.str⟩):=by
 have ne0:=V8 0 id c (by omega)
 match y with
 | [] =>
  rw [B1n,A1M] at hR;subst hR;repeat' ((with_reducible first|refine wr ?_|refine A2 ?_ ?_|fail)<;>try simp only [go_sem,seval,ne0,A0,A0F,A1Z,A0I])
  exact ⟨_,nil.upd id ⟨1,true,R.map DV.str⟩,V9 A0 (fun j hj=>.inl (by rw [A3 hj];rfl)) A0,id,rfl,rfl⟩
 | [s] =>
  have hS':=hS s rfl;rw [Pb.St.v_w] at hS';rw [B1n] at hR;by_cases hk2:s.kind=2
  ·have d2:(s.kind == 2)=true:=by simpa using hk2
   repeat' ((with_reducible first|refine wr ?_|refine A2 ?_ ?_|fail)<;>try simp only [go_sem,seval,ne0,A0,d2,Pb.St.v_w])
   rw [A3 (show ¬ id=c+1 by omega),A0];refine M5 (E0 (by simp) (by omega) (by omega)) ?_;rw [if_pos hk2] at hR;simp only [go_sem,seval,ne0,A0,Pb.St.v_w];obtain ⟨M,hM⟩:∃ M,M=((((nil.upd 0 (B7r k n t a x [s] p)).upd id ⟨1,true,l.map DV.str⟩).upd (c+1) ⟨1,true,[.str [101,108,115,101]]⟩).del id).upd (c+10) ⟨1,true,l.map DV.str++[.str [101,108,115,101]]⟩:=⟨_,rfl⟩;rw [<- hM];have hMn:∀ i,i≠0->i≠c+1->i≠c+10->M i=none:=fun i h0 h1 h2=>by
    rw [hM,A3 h2];simp only [Hp.del];split
    ·rfl
    ·rename_i h3;rw [A3 h1,A3 h3,A3 h0];rfl
   have hMl:M (c+10)=some ⟨1,true,l.map DV.str++[.str [101,108,115,101]]⟩:=by rw [hM];exact A0
   clear hM;refine ⟨by and_intros<;>exact hMn _ (by omega) (by omega) (by omega),?_⟩;refine AC.call (hS' M (c+10+1)) ?_;rintro _ _ _ ⟨rfl,rfl,rfl⟩ -;obtain ⟨W,hW⟩:∃ W,W=P s:=⟨_,rfl⟩;rw [<- hW] at hR ⊢;have hWl:W.length<=1000000000:=hW▸hb3 s rfl;have tk:List.take W.length (W.map DV.str)=W.map DV.str:=A0O (by simp);have hMl2:(M.upd (c+10+1) ⟨1,true,W.map DV.str⟩) (c+10)=some ⟨1,true,l.map DV.str++[.str [101,108,115,101]]⟩:=by rw [A3 (by omega)];exact hMl
   simp only [go_sem,seval,ne0,A0,tk,hMl2];refine M5 (E0 (by simp) (by omega) (by omega)) ?_;simp only [go_sem,seval,ne0,A0];repeat' ((with_reducible first|refine wr ?_|refine A2 ?_ ?_|fail)<;>try simp only [go_sem,seval,ne0,A0])
   have e1:R.length=l.length+1+W.length:=by rw [hR];simp;omega
   rw [<- e1];exact ⟨_,nil.upd (c+10+1+1) ⟨1,true,R.map DV.str⟩,V9 A0 (fun j hj=>.inl (by rw [A3 hj];rfl)) (by rw [A0,hR];simp),c+10+1+1,rfl,rfl⟩
  ·have d2:(s.kind == 2)=false:=by simpa using hk2
   repeat' ((with_reducible first|refine wr ?_|refine A2 ?_ ?_|fail)<;>try simp only [go_sem,seval,ne0,A0,d2,Pb.St.v_w])
   rw [A3 (show ¬ id=c+1 by omega),A0];refine M5 (E0 (by simp) (by omega) (by omega)) ?_;rw [if_neg hk2] at hR;simp only [go_sem,seval,ne0,A0];obtain ⟨M,hM⟩:∃ M,M=((((nil.upd 0 (B7r k n t a x [s] p)).upd id ⟨1,true,l.map DV.str⟩).upd (c+1) ⟨1,true,[.str [101,108,115,101]]⟩).del id).upd (c+8) ⟨1,true,l.map DV.str++[.str [101,108,115,101]]⟩:=⟨_,rfl⟩;rw [<- hM];have hMn:∀ i,i≠0->i≠c+1->i≠c+8->M i=none:=fun i h0 h1 h2=>by
    rw [hM,A3 h2];simp only [Hp.del];split
    ·rfl
    ·rename_i h3;rw [A3 h1,A3 h3,A3 h0];rfl
   have hMl:M (c+8)=some ⟨1,true,l.map DV.str++[.str [101,108,115,101]]⟩:=by rw [hM];exact A0
   clear hM;refine ⟨by and_intros<;>exact hMn _ (by omega) (by omega) (by omega),?_⟩;refine AC.call (hY M (c+8+1)) ?_;rintro _ _ _ ⟨rfl,rfl,rfl⟩ -;obtain ⟨W,hW⟩:∃ W,W=K6 P [s]:=⟨_,rfl⟩;rw [<- hW] at hR ⊢;have hWl:W.length<=1000000000:=hW▸hb2;have tk:List.take W.length (W.map DV.str)=W.map DV.str:=A0O (by simp);have hMl2:(M.upd (c+8+1) ⟨1,true,W.map DV.str⟩) (c+8)=some ⟨1,true,l.map DV.str++[.str [101,108,115,101]]⟩:=by rw [A3 (by omega)];exact hMl
   simp only [go_sem,seval,ne0,A0,tk,hMl2];refine M5 (E0 (by simp) (by omega) (by omega)) ?_;simp only [go_sem,seval,ne0,A0];repeat' ((with_reducible first|refine wr ?_|refine A2 ?_ ?_|fail)<;>try simp only [go_sem,seval,ne0,A0])
   have e1:R.length=l.length+1+W.length:=by rw [hR];simp;omega
   rw [<- e1];exact ⟨_,nil.upd (c+8+1+1) ⟨1,true,R.map DV.str⟩,V9 A0 (fun j hj=>.inl (by rw [A3 hj];rfl)) (by rw [A0,hR];simp),c+8+1+1,rfl,rfl⟩
 | s :: s2 :: r =>
  obtain ⟨A,hA⟩:∃ A,A=s :: s2 :: r:=⟨_,rfl⟩;have n1:((A.length:Int) == 1)=false:=by rw [hA];simp;omega
  have n0:decide ((A.length:Int)>0)=true:=by rw [hA];simp;omega
  rw [B1n] at hR;rw [<- hA] at hR hY hb2 ⊢;repeat' ((with_reducible first|refine wr ?_|refine A2 ?_ ?_|fail)<;>try simp only [go_sem,seval,ne0,A0,n1,n0])
  rw [A3 (show ¬ id=c+1 by omega),A0];refine M5 (E0 (by simp) (by omega) (by omega)) ?_;simp only [go_sem,seval,ne0,A0];obtain ⟨M,hM⟩:∃ M,M=((((nil.upd 0 (B7r k n t a x A p)).upd id ⟨1,true,l.map DV.str⟩).upd (c+1) ⟨1,true,[.str [101,108,115,101]]⟩).del id).upd (c+8) ⟨1,true,l.map DV.str++[.str [101,108,115,101]]⟩:=⟨_,rfl⟩;rw [<- hM];have hMn:∀ i,i≠0->i≠c+1->i≠c+8->M i=none:=fun i h0 h1 h2=>by
   rw [hM,A3 h2];simp only [Hp.del];split
   ·rfl
   ·rename_i h3;rw [A3 h1,A3 h3,A3 h0];rfl
  have hMl:M (c+8)=some ⟨1,true,l.map DV.str++[.str [101,108,115,101]]⟩:=by rw [hM];exact A0
  clear hM;refine ⟨by and_intros<;>exact hMn _ (by omega) (by omega) (by omega),?_⟩;refine AC.call (hY M (c+8+1)) ?_;rintro _ _ _ ⟨rfl,rfl,rfl⟩ -;obtain ⟨W,hW⟩:∃ W,W=K6 P A:=⟨_,rfl⟩;rw [<- hW] at hR ⊢;have hWl:W.length<=1000000000:=hW▸hb2;have tk:List.take W.length (W.map DV.str)=W.map DV.str:=A0O (by simp);have hMl2:(M.upd (c+8+1) ⟨1,true,W.map DV.str⟩) (c+8)=some ⟨1,true,l.map DV.str++[.str [101,108,115,101]]⟩:=by rw [A3 (by omega)];exact hMl
  simp only [go_sem,seval,ne0,A0,tk,hMl2];refine M5 (E0 (by simp) (by omega) (by omega)) ?_;simp only [go_sem,seval,ne0,A0];repeat' ((with_reducible first|refine wr ?_|refine A2 ?_ ?_|fail)<;>try simp only [go_sem,seval,ne0,A0])
  have e1:R.length=l.length+1+W.length:=by rw [hR];simp;omega
  rw [<- e1];exact ⟨_,nil.upd (c+8+1+1) ⟨1,true,R.map DV.str⟩,V9 A0 (fun j hj=>.inl (by rw [A3 hj];rfl)) (by rw [A0,hR];simp),c+8+1+1,rfl,rfl⟩
theorem c_psD (k:Int) (n t:List UInt8) (a:List Ex) (x y:List Pb.St) (p:Int) (P:Pb.St->List (List UInt8)) (hX:OwL 59 [G1 x] (K6 P x)) (hY:OwL 59 [G1 y] (K6 P y))
  (hS:∀ s,y=[s]->OwL 102 [s.v] (P s)) (hb1:(K6 P x).length<=1000000000) (hb2:(K6 P y).length<=1000000000) (hb3:∀ s,y=[s]->(P s).length<=1000000000)
  (l R:List (List UInt8)) (id c:Nat) (hid:2<=id) (hc:id<c) (hl:l.length<=1000000000) (hR:R=l++A8l P k x y) :
  IW Tryz.prog 107 (pz Tryz.prog 102 (.o (.o (.o (.o (.i .h)))))) ⟨(tm [(1,.ptr 0 0),(3,.slc id 0 l.length),(4,.ptr 1 0)]),(((nil.upd 0 (B7r k n t a x y p)).upd 1 (C0l (G7 k))).upd id ⟨1,true,l.map DV.str⟩),c⟩ (rt [.tmp 2] fun v H' c' => ∃ v2 H2,GL H' [v] H2 [v2]/\∃ id,v2=.slc id 0 R.length/\H2=nil.upd id ⟨1,true,R.map DV.str⟩):=by
 unfold A8l at hR;have tk1:List.take (K6 P x).length ((K6 P x).map DV.str)=(K6 P x).map DV.str:=A0O (by simp);have ne0:=A0k 0 1 id c (c+1) (by omega);cases hth:(G7 k).thn with
 | false =>
  rw [hth] at hR;rw [if_neg A2B] at hR;repeat' ((with_reducible first|refine wr ?_|refine A2 ?_ ?_|fail)<;>try simp only [go_sem,seval,hth,ne0,A0])
  refine D0 (E0 (by simp) (by omega) (by omega)) ?_;simp only [go_sem,seval,ne0,A0];repeat' ((with_reducible first|refine wr ?_|refine A2 ?_ ?_|fail)<;>try simp only [go_sem,seval,ne0,A0])
  have e1:R.length=l.length+1:=by rw [hR];simp
  rw [<- e1];exact ⟨_,nil.upd (c+1) ⟨1,true,R.map DV.str⟩,V9 A0 (fun j hj=>.inl (by rw [A3 hj];rfl)) (by rw [A0,hR];simp),c+1,rfl,rfl⟩
 | true =>
  rw [hth] at hR;rw [if_pos rfl] at hR;repeat' ((with_reducible first|refine wr ?_|refine A2 ?_ ?_|fail)<;>try simp only [go_sem,seval,hth,ne0,A0])
  refine AC.call (hX _ _) ?_;rintro _ _ _ ⟨rfl,rfl,rfl⟩ -;simp only [go_sem,seval,ne0,A0,tk1];refine D0 (E0 (by simp) (by omega) (by omega)) ?_;simp only [go_sem,seval,ne0,A0];have e1:l.length+(K6 P x).length=(l++K6 P x).length:=by simp
  rw [e1];refine IW.weaken (X0 (l:=[(1,.ptr 0 0),(3,.slc (c+1) 0 (l++K6 P x).length)]) ⟨rfl,rfl,trivial⟩) ?_ (c_psE k n t a x y p P hY hS hb2 hb3 (l++K6 P x) R (c+1) _ (by omega) (by omega) (by simp;omega) (by rw [hR,A0U]));intro j b hj;by_cases e:j=c+1
  ·subst e;rw [A0] at hj ⊢;rw [<- hj,A0Z]
  ·rw [A3 e] at hj ⊢;by_cases e0:j=0
   ·subst e0;rw [A0] at hj;rw [<- hj];simp only [Hp.del];rw [if_neg (by omega),A3 (by omega),A3 (by omega),A3 (by omega),A0]
   ·rw [A3 e0] at hj;cases hj
theorem c_psC (k:Int) (n t:List UInt8) (a:List Ex) (x y:List Pb.St) (p:Int) (P:Pb.St->List (List UInt8)) (hX:OwL 59 [G1 x] (K6 P x)) (hY:OwL 59 [G1 y] (K6 P y))
  (hS:∀ s,y=[s]->OwL 102 [s.v] (P s)) (hb1:(K6 P x).length<=1000000000) (hb2:(K6 P y).length<=1000000000) (hb3:∀ s,y=[s]->(P s).length<=1000000000)
  (hE:∀ e∈a,OwL 65 [e.v] (txT (exT e))) (ha:a.length<=1000)
  (l R:List (List UInt8)) (id c:Nat) (hid:2<=id) (hc:id<c) (hRl:R.length<=1000000000) (hR:R=l++(agI 0 a++A8l P k x y)) :
  IW Tryz.prog 107 (pz Tryz.prog 102 (.i (.o (.o (.i .h))))) ⟨(tm [(1,.ptr 0 0),(3,.slc id 0 l.length),(4,.ptr 1 0)]),(((nil.upd 0 (B7r k n t a x y p)).upd 1 (C0l (G7 k))).upd id ⟨1,true,l.map DV.str⟩),c⟩ (rt [.tmp 2] fun v H' c' => ∃ v2 H2,GL H' [v] H2 [v2]/\∃ id,v2=.slc id 0 R.length/\H2=nil.upd id ⟨1,true,R.map DV.str⟩):=by
 have ne0:=A7y 0 1 id c (by omega);repeat' ((with_reducible first|refine wr ?_|refine A2 ?_ ?_|fail)<;>try simp only [go_sem,seval,ne0,A0])
 refine A4q (fun q:Nat × Nat × List (List UInt8)=>[(1,.ptr 0 0),(3,.slc q.2.1 0 q.2.2.length),(4,.ptr 1 0),(44,H9 a),(45,I64 a.length),(46,I64 q.1)]) (fun q=>((nil.upd 0 (B7r k n t a x y p)).upd 1 (C0l (G7 k))).upd q.2.1 ⟨1,true,q.2.2.map DV.str⟩)
  (fun q cc=>q.1<=a.length/\2<=q.2.1/\q.2.1<cc/\R=q.2.2++(agI q.1 (a.drop q.1)++A8l P k x y)) (fun q=>a.length-q.1) (0,id,l) (fun b=>⟨rfl,rfl,rfl,rfl,rfl,rfl,trivial⟩) (by simp [C6,tm,Tm.upd]) (Sub.refl _) ⟨A1H _,hid,hc,hR⟩ ?_
 clear ne0 hR hc hid;rintro ⟨i,id,cur⟩ c ⟨hi,hid,hc,hR⟩;simp only at hi hid hc hR;simp only;by_cases hlt:i<a.length
 ·have hd:decide ((i:Int)<a.length)=true:=by simpa using hlt
  have hg:=A0E hlt;have hw:IntKind.i64.wrap ((i:Int)+1)=((i+1:Nat):Int):=by rw [w6z (by omega)];omega
  have hP:=hE _ (A1B hlt);rw [A1V hlt,agI] at hR;obtain ⟨e,he⟩:∃ e,e=a[i]:=⟨_,rfl⟩;rw [<- he] at hg hP hR;have hgm:(a.map Ex.v)[i]? = some e.v:=by rw [A1C,hg];rfl
  rw [Ex.v_w] at hP hgm;have hle:cur.length+(txT (exT e)).length+1<=2000000000:=by
   have:=congrArg List.length hR;simp only [A0C] at this;omega
  have tk:List.take (txT (exT e)).length ((txT (exT e)).map DV.str)=(txT (exT e)).map DV.str:=A0O (by simp);have ne0:=E4b 0 1 id c (c+1) (c+1+1) (c+1+1+1) (by omega);by_cases h0:0<i
  ·have hp:decide ((i:Int)>0)=true:=by simpa using h0
   rw [if_pos h0] at hR;repeat' ((with_reducible first|refine wr ?_|refine A2 ?_ ?_|fail)<;>try simp only [go_sem,seval,ne0,A0,hd,hgm,hp,hw])
   refine D0 (E0 (by simp) (by omega) (by omega)) ?_;simp only [go_sem,seval,ne0,A0];repeat' ((with_reducible first|refine wr ?_|refine A2 ?_ ?_|fail)<;>try simp only [go_sem,seval,ne0,A0,hw])
   refine AC.call (hP _ _) ?_;rintro _ _ _ ⟨rfl,rfl,rfl⟩ -;simp only [go_sem,seval,ne0,A0,tk];refine D0 (E0 (by simp) (by omega) (by omega)) ?_;simp only [go_sem,seval,ne0,A0];repeat' ((with_reducible first|refine wr ?_|refine A2 ?_ ?_|fail)<;>try simp only [go_sem,seval,ne0,A0,hw])
   have e1:cur.length+1+(txT (exT e)).length=(cur++([44] :: txT (exT e))).length:=by simp;try omega
   rw [e1];refine ⟨(i+1,c+1+1+1+1,cur++([44] :: txT (exT e))),⟨rfl,rfl⟩,GL.less fun j=>?_,inv ⟨hlt,by simp only;omega,by simp only;omega,by simp only;rw [hR];simp⟩,by simp only;omega⟩;by_cases e:j=c+1+1+1+1
   ·subst e;right;rw [A0,A0];simp
   ·by_cases e2:j=0\/j=1
    ·right;rcases e2 with rfl|rfl<;>(rw [A3 e,A3 e];simp only [Hp.upd,Hp.del,ne0,if_true,if_false])
    ·left;rw [A3 e,A3 (by omega),A3 (by omega)];rfl
  ·have hp:decide ((i:Int)>0)=false:=by simpa using h0
   rw [if_neg h0] at hR;repeat' ((with_reducible first|refine wr ?_|refine A2 ?_ ?_|fail)<;>try simp only [go_sem,seval,ne0,A0,hd,hgm,hp,hw])
   refine AC.call (hP _ _) ?_;rintro _ _ _ ⟨rfl,rfl,rfl⟩ -;simp only [go_sem,seval,ne0,A0,tk];refine D0 (E0 (by simp) (by omega) (by omega)) ?_;simp only [go_sem,seval,ne0,A0];repeat' ((with_reducible first|refine wr ?_|refine A2 ?_ ?_|fail)<;>try simp only [go_sem,seval,ne0,A0,hw])
   have e1:cur.length+(txT (exT e)).length=(cur++txT (exT e)).length:=by simp;try omega
   rw [e1];refine ⟨(i+1,c+1+1,cur++txT (exT e)),⟨rfl,rfl⟩,GL.less fun j=>?_,inv ⟨hlt,by simp only;omega,by simp only;omega,by simp only;rw [hR];simp⟩,by simp only;omega⟩;by_cases e:j=c+1+1
   ·subst e;right;rw [A0,A0];simp
   ·by_cases e2:j=0\/j=1
    ·right;rcases e2 with rfl|rfl<;>(rw [A3 e,A3 e];simp only [Hp.upd,Hp.del,ne0,if_true,if_false])
    ·left;rw [A3 e,A3 (by omega),A3 (by omega)];rfl
 ·have hd:decide ((i:Int)<a.length)=false:=by simpa using hlt
  rw [A2L (by omega),agI,A1K] at hR;repeat' ((with_reducible first|refine E3 (p:=IW _ _ (pz Tryz.prog 102 (.o (.o (.o (.o (.i .h)))))) _ _) ?_|refine wr ?_|refine A2 ?_ ?_|fail)<;>try simp only [go_sem,seval,hd])
  unfold X7;exact IW.weaken (X0 (l:=[(1,.ptr 0 0),(3,.slc id 0 cur.length),(4,.ptr 1 0)]) ⟨rfl,rfl,rfl,trivial⟩) (Sub.refl _) (c_psD k n t a x y p P hX hY hS hb1 hb2 hb3 cur R id c hid hc (by have:=congrArg List.length hR;simp only [A0C] at this;omega) hR)
theorem c_psB (k:Int) (n t:List UInt8) (a:List Ex) (x y:List Pb.St) (p:Int) (P:Pb.St->List (List UInt8)) (hX:OwL 59 [G1 x] (K6 P x)) (hY:OwL 59 [G1 y] (K6 P y))
  (hS:∀ s,y=[s]->OwL 102 [s.v] (P s)) (hb1:(K6 P x).length<=1000000000) (hb2:(K6 P y).length<=1000000000) (hb3:∀ s,y=[s]->(P s).length<=1000000000)
  (hE:∀ e∈a,OwL 65 [e.v] (txT (exT e))) (ha:a.length<=1000) (ht:t.length<=1000)
  (l R:List (List UInt8)) (id c:Nat) (hid:2<=id) (hc:id<c) (hRl:R.length<=1000000000) (hR:R=l++(txL k t++(agI 0 a++A8l P k x y))) :
  IW Tryz.prog 107 (pz Tryz.prog 102 (.i (.i (.o (.o .h))))) ⟨(tm [(1,.ptr 0 0),(3,.slc id 0 l.length),(4,.ptr 1 0)]),(((nil.upd 0 (B7r k n t a x y p)).upd 1 (C0l (G7 k))).upd id ⟨1,true,l.map DV.str⟩),c⟩ (rt [.tmp 2] fun v H' c' => ∃ v2 H2,GL H' [v] H2 [v2]/\∃ id,v2=.slc id 0 R.length/\H2=nil.upd id ⟨1,true,R.map DV.str⟩):=by
 have hq:=c_Quote t (by omega);have hl:l.length<=1000000000:=by
  have:=congrArg List.length hR;simp only [A0C] at this;omega
 unfold txL at hR;have ne0:=A0k 0 1 id c (c+1) (by omega);cases htx:(G7 k).text with
 | false =>
  rw [htx,if_neg A2B,A1K] at hR;repeat' ((with_reducible first|refine E3 (p:=IW _ _ (pz Tryz.prog 102 (.i (.o (.o (.i .h))))) _ _) ?_|refine wr ?_|refine A2 ?_ ?_|fail)<;>try simp only [go_sem,seval,ne0,A0,htx])
  unfold X7;exact IW.weaken (X0 (l:=[(1,.ptr 0 0),(3,.slc id 0 l.length),(4,.ptr 1 0)]) ⟨rfl,rfl,rfl,trivial⟩) (Sub.refl _) (c_psC k n t a x y p P hX hY hS hb1 hb2 hb3 hE ha l R id c hid hc hRl hR)
 | true =>
  rw [htx,if_pos rfl] at hR;repeat' ((with_reducible first|refine E3 (p:=IW _ _ (pz Tryz.prog 102 (.i (.o (.o (.i .h))))) _ _) ?_|refine wr ?_|refine cpc hq ?_|refine A2 ?_ ?_|fail)<;>try simp only [go_sem,seval,ne0,A0,htx])
  refine D0 (E0 (by simp) (by omega) (by omega)) ?_;simp only [go_sem,seval,ne0,A0];repeat' ((with_reducible first|refine E3 (p:=IW _ _ (pz Tryz.prog 102 (.i (.o (.o (.i .h))))) _ _) ?_|refine wr ?_|refine A2 ?_ ?_|fail)<;>try simp only [go_sem,seval,ne0,A0])
  unfold X7;have e1:l.length+2=(l++[V7 t,[44]]).length:=by simp
  rw [e1];refine IW.weaken (X0 (l:=[(1,.ptr 0 0),(3,.slc (c+1) 0 (l++[V7 t,[44]]).length),(4,.ptr 1 0)]) ⟨rfl,rfl,rfl,trivial⟩) ?_ (c_psC k n t a x y p P hX hY hS hb1 hb2 hb3 hE ha (l++[V7 t,[44]]) R (c+1) _ (by omega) (by omega) hRl (by rw [hR];simp));intro j b hj;by_cases e:j=c+1
  ·subst e;rw [A0] at hj ⊢;rw [<- hj];simp
  ·rw [A3 e] at hj ⊢;by_cases e2:j=0\/j=1
   ·rw [<- hj];rcases e2 with rfl|rfl<;>simp only [Hp.upd,Hp.del,ne0,if_true,if_false]
   ·rw [A3 (by omega),A3 (by omega)] at hj;cases hj
theorem c_psA (k:Int) (n t:List UInt8) (a:List Ex) (x y:List Pb.St) (p:Int) (P:Pb.St->List (List UInt8)) (hX:OwL 59 [G1 x] (K6 P x)) (hY:OwL 59 [G1 y] (K6 P y))
  (hS:∀ s,y=[s]->OwL 102 [s.v] (P s)) (hb1:(K6 P x).length<=1000000000) (hb2:(K6 P y).length<=1000000000) (hb3:∀ s,y=[s]->(P s).length<=1000000000)
  (hE:∀ e∈a,OwL 65 [e.v] (txT (exT e))) (ha:a.length<=1000) (ht:t.length<=1000) (hRl:(psL P (.mk k n t a x y p)).length<=1000000000) :
  OwL 102 [(Pb.St.mk k n t a x y p).v] (psL P (.mk k n t a x y p)):=by
 have hsh:PC Tryz.prog 153 [I64 k] (.tup [.agg [.bool (G7 k).name,.bool (G7 k).text,I64 (G7 k).args,.bool (G7 k).thn,.bool (G7 k).els],.bool (C9z k)]):=c_shapeOf k;have hwd:=c_wordOf k;refine OwL.of (by simp [DV.nlL,DV.nl,St.nl]) ?_;refine AC.bodyT B2 rfl (A0A rfl) fun hfr=>?_;rw [Pb.St.v_w];dsimp only [Pb.St.w,Pb.St.kind,Pb.St.name,Pb.St.text,Pb.St.args,Pb.St.thn,Pb.St.els,Pb.St.pos];obtain ⟨R,hR⟩:∃ R,R=psL P (.mk k n t a x y p):=⟨_,rfl⟩;rw [<- hR] at hRl ⊢;rw [psL] at hR;unfold hdL at hR;by_cases h1:k=1
 ·have d1:(k == 1)=true:=by simpa using h1
  rw [if_pos h1] at hR;repeat' ((with_reducible first|refine E3 (p:=IW _ _ (pz Tryz.prog 102 (.i (.i (.o (.o .h))))) _ _) ?_|refine wr ?_|refine cpc hsh ?_|refine cpc hwd ?_|refine A2 ?_ ?_|fail)<;>try simp only [go_sem,seval,d1])
  refine D0 (A6l (by decide) (by decide) (by decide)) ?_;simp only [go_sem,seval,A0];repeat' ((with_reducible first|refine E3 (p:=IW _ _ (pz Tryz.prog 102 (.i (.i (.o (.o .h))))) _ _) ?_|refine wr ?_|refine A2 ?_ ?_|fail)<;>try simp only [go_sem,seval])
  unfold X7;refine IW.weaken (X0 (l:=[(1,.ptr 0 0),(3,.slc 3 0 ([n,[61]]).length),(4,.ptr 1 0)]) ⟨rfl,rfl,rfl,trivial⟩) ?_ (c_psB k n t a x y p P hX hY hS hb1 hb2 hb3 hE ha ht ([n,[61]]) R 3 _ (by decide) (by decide) hRl hR);intro j b hj;by_cases e:j=3
  ·subst e;rw [A0] at hj ⊢;exact hj
  ·rw [A3 e] at hj ⊢;by_cases e2:j=0\/j=1
   ·rw [<- hj];rcases e2 with rfl|rfl<;>first|rfl|(unfold C0l;rw [hnm];rfl)
   ·rw [A3 (by omega),A3 (by omega)] at hj;cases hj
 ·have d1:(k == 1)=false:=by simpa using h1
  rw [if_neg h1] at hR;repeat' ((with_reducible first|refine E3 (p:=IW _ _ (pz Tryz.prog 102 (.i (.i (.o (.o .h))))) _ _) ?_|refine wr ?_|refine cpc hsh ?_|refine cpc hwd ?_|refine A2 ?_ ?_|fail)<;>try simp only [go_sem,seval,d1])
  refine D0 (A6l (by decide) (by decide) (by decide)) ?_;simp only [go_sem,seval,A0];cases hnm:(G7 k).name with
  | false =>
   rw [hnm,if_neg A2B] at hR;repeat' ((with_reducible first|refine E3 (p:=IW _ _ (pz Tryz.prog 102 (.i (.i (.o (.o .h))))) _ _) ?_|refine wr ?_|refine A2 ?_ ?_|fail)<;>try simp only [go_sem,seval,hnm,A0])
   unfold X7;refine IW.weaken (X0 (l:=[(1,.ptr 0 0),(3,.slc 3 0 ([R9 B3 A0x k]).length),(4,.ptr 1 0)]) ⟨rfl,rfl,rfl,trivial⟩) ?_ (c_psB k n t a x y p P hX hY hS hb1 hb2 hb3 hE ha ht ([R9 B3 A0x k]) R 3 _ (by decide) (by decide) hRl hR);intro j b hj;by_cases e:j=3
   ·subst e;rw [A0] at hj ⊢;exact hj
   ·rw [A3 e] at hj ⊢;by_cases e2:j=0\/j=1
    ·rw [<- hj];rcases e2 with rfl|rfl<;>first|rfl|(unfold C0l;rw [hnm];rfl)
    ·rw [A3 (by omega),A3 (by omega)] at hj;cases hj
  | true =>
   rw [hnm,if_pos rfl] at hR;repeat' ((with_reducible first|refine E3 (p:=IW _ _ (pz Tryz.prog 102 (.i (.i (.o (.o .h))))) _ _) ?_|refine wr ?_|refine A2 ?_ ?_|fail)<;>try simp only [go_sem,seval,hnm,A0])
   refine D0 (E0 rfl (by decide) (by decide)) ?_;simp only [go_sem,seval,A0];repeat' ((with_reducible first|refine E3 (p:=IW _ _ (pz Tryz.prog 102 (.i (.i (.o (.o .h))))) _ _) ?_|refine wr ?_|refine A2 ?_ ?_|fail)<;>try simp only [go_sem,seval])
   unfold X7;refine IW.weaken (X0 (l:=[(1,.ptr 0 0),(3,.slc 5 0 ([R9 B3 A0x k,n]).length),(4,.ptr 1 0)]) ⟨rfl,rfl,rfl,trivial⟩) ?_ (c_psB k n t a x y p P hX hY hS hb1 hb2 hb3 hE ha ht ([R9 B3 A0x k,n]) R 5 _ (by decide) (by decide) hRl hR);intro j b hj;by_cases e:j=5
   ·subst e;rw [A0] at hj ⊢;exact hj
   ·rw [A3 e] at hj ⊢;by_cases e2:j=0\/j=1
    ·rw [<- hj];rcases e2 with rfl|rfl<;>first|rfl|(unfold C0l;rw [hnm];rfl)
    ·rw [A3 (by omega),A3 (by omega)] at hj;cases hj
theorem A4e {d:Nat}:∀ {l:List Pb.St},J5 d l=true->∀ s∈l,R2 d s=true
 | [],_,s,hs=>by cases hs
 | a :: l,h,s,hs=>by
  rw [J5,A0D] at h;rcases A1D.1 hs with rfl|hs
  ·exact h.1
  ·exact A4e h.2 s hs
theorem c_pblkT (l:List Pb.St) (hl:l.length<=4000000) (hP:∀ s∈l,OwL 102 [s.v] (txT (stT s))) (hB:Pb.St.szs l<=4000000):OwL 59 [G1 l] (txT (blT l)):=by
 rw [B9q];refine c_pblk _ l hl hP ?_;rw [<- A9b];have:=A3q l;unfold txT;rw [A0I];omega
theorem c_prStmt:∀ (m:Nat) (s:Pb.St) (d:Nat),s.sz<m->s.sz<=4000000->R2 d s=true->OwL 102 [s.v] (txT (stT s)):=by
 intro m
 induction m with
 | zero=>intro s d h;omega
 | succ m ih =>
 intro s d hm hB hv;have hps:=E3v hv;have hlen:=(A9g s).2;obtain ⟨k,n,t,a,x,y,p⟩:=s;have hv2:=hv;unfold R2 at hv2;simp only [A0D,A0G,A1G] at hv2;obtain ⟨⟨⟨⟨⟨k1,k2⟩,⟨ha,hE⟩⟩,⟨hn,ht⟩⟩,⟨hx,hy⟩⟩,⟨⟨⟨hx1,hx2⟩,hx3⟩,⟨⟨hy1,hy2⟩,hy3⟩⟩⟩:=hv2;have hsz:Pb.St.szs x+Pb.St.szs y+Ex.szs a+t.length<(Pb.St.mk k n t a x y p).sz:=by rw [Pb.St.sz];omega
 have hPx:∀ s∈x,OwL 102 [s.v] (txT (stT s)):=fun s hs=>ih s (d+1) (by have:=Pb.St.szs_mem hs;omega) (by have:=Pb.St.szs_mem hs;omega) (A4e hx3 s hs);have hPy:∀ s∈y,OwL 102 [s.v] (txT (stT s)):=fun s hs=>ih s (d+1) (by have:=Pb.St.szs_mem hs;omega) (by have:=Pb.St.szs_mem hs;omega) (A4e hy3 s hs);have hX:=c_pblkT x (by omega) hPx (by omega);have hY:=c_pblkT y (by omega) hPy (by omega);rw [B9q] at hX hY;have bl:∀ l:List Pb.St,Pb.St.szs l<=4000000->(K6 (fun s=>txT (stT s)) l).length<=1000000000:=fun l h=>by
  rw [<- B9q];have:=(B6g l).2;unfold txT;rw [A0I];omega
 have har:a.length<=1000:=by
  rw [ha];unfold G7;repeat' split
  all_goals decide
 have htl:t.length<=1000:=by
  by_cases hc:(G7 k).text=true
  ·rw [if_pos hc] at ht;unfold N7 at ht;simp only [A0D,A0G] at ht;omega
  ·rw [if_neg hc] at ht;rw [A1G.1 ht];simp
 rw [<- hps];refine c_psA k n t a x y p _ hX hY (fun s hs=>hPy s (by rw [hs];simp)) (bl x (by omega)) (bl y (by omega)) (fun s hs=>?_) (fun e he=>?_) har htl (by rw [hps];unfold txT;rw [A0I];omega)
 ·have:=(A9g s).2;unfold txT;rw [A0I];have h2:=Pb.St.szs_mem (l:=y) (x:=s) (by rw [hs];simp);omega
 ·exact c_printed _ e (A2H _) (by have:=Ex.szs_mem he;omega) (D6e (A0Q.1 hE e he))
end Go.Proofs.YthlpinppaclofaaGreatDoor
namespace Go.Pb
variable [Go.Sym.Tab]
open Go.Sym
def dcL (d:Dc):List (List UInt8):=[C3.getD (d.kind-1).toNat [],d.name]++((if d.kind<7 then (if d.value<0 then [[45]] else [])++[G8 (if d.value<0 then -d.value else d.value)] else [])++[[59]])
theorem B9p {v:Int} (h1:0<=v) (h2:v<=2147483647):txT (X2 v)=[G8 v]:=by
 unfold X2;rw [if_neg (by omega)];rfl
theorem E6h {d:Dc} (h:A1q d=true):txT (dcT d)=dcL d:=by
 unfold A1q at h;simp only [A0D,A0G] at h;obtain ⟨⟨⟨⟨k1,k2⟩,hn⟩,v1⟩,v2⟩:=h;unfold dcT dcL;rw [if_neg (by omega)];dsimp only;by_cases h6:6<d.kind
 ·rw [if_pos h6,if_neg (show ¬ d.kind<7 by omega)];simp [E9,J8,P1,S9 hn]
 ·rw [if_neg h6,if_pos (show d.kind<7 by omega)];have v2':d.value<=2147483647:=by split at v2<;>omega
  by_cases hv:d.value<0
  ·have hk:d.kind=6:=by split at v1<;>omega
   have v1' : -2147483647<=d.value:=by rw [if_pos hk] at v1;exact v1
   rw [if_pos (show d.value<0 /\ -2147483647<=d.value/\d.kind=6 from ⟨hv,v1',hk⟩),if_pos hv,if_pos hv];simp [E9,J8,P1,S9 hn,B9p (v := -d.value) (by omega) (by omega)]
  ·rw [if_neg (show ¬ (d.value<0 /\ -2147483647<=d.value/\d.kind=6) from fun hc=>hv hc.1),if_neg hv,if_neg hv];simp [E9,J8,P1,S9 hn,B9p (v:=d.value) (by omega) v2']
def C1k (h:Hd):List (List UInt8):=[[111,110],C8.getD (h.trig-1).toNat []]++((if 3<=h.trig then [h.name] else [])++txT (blT h.body))
theorem E5d {h:Hd} (hv:X9 h=true):txT (hdT h)=C1k h:=by
 unfold X9 at hv;simp only [A0D,A0G] at hv;obtain ⟨⟨⟨k1,k2⟩,hn⟩, -⟩:=hv;unfold hdT C1k;by_cases h3:3<=h.trig
 ·rw [if_pos h3] at hn;rw [if_pos (by omega),if_pos h3];simp [E9,J8,P1,S9 hn]
 ·rw [if_neg (by omega),if_neg h3];simp [E9,J8,P1]
def mdL (m:Md):List (List UInt8):=[[109,111,100,101],m.name,G8 m.prio,[123]]++(m.hds.flatMap C1k++[[125]])
theorem A9t {α : Type} {f : α -> List Tok} {g : α -> List (List UInt8)}:∀ {l:List α},(∀ x∈l,txT (f x)=g x)->txT (l.flatMap f)=l.flatMap g
 | [],_=>rfl
 | a :: l,h=>by
  rw [A1F,A1F,E9,h a A0L,A9t fun x hx=>h x (A0J _ hx)]
theorem E4g {m:Md} (hv:S7 m=true):txT (mdT m)=mdL m:=by
 unfold S7 at hv;simp only [A0D,A0G] at hv;obtain ⟨⟨⟨⟨hn,p1⟩,p2⟩, -⟩,hh⟩:=hv;unfold mdT mdL;have hf:=A9t (l:=m.hds) (f:=hdT) (g:=C1k) fun h hm=>E5d (A0Q.1 hh h hm);simp [E9,J8,P1,S9 hn,B9p p1 p2,hf]
theorem E2x {r:Ru} (h:A1x r=true):txT (ruT r)=r.decls.flatMap dcL++r.modes.flatMap mdL:=by
 have h0:=h;unfold A1x at h;simp only [A0D,A0G] at h;obtain ⟨⟨-,h1⟩,h2⟩:=h;unfold ruT;rw [if_neg,E9,A9t fun d hd=>E6h (A0Q.1 h1 d hd),A9t fun m hm=>E4g (A0Q.1 h2 m hm)];intro hb;obtain ⟨m,hm,hb⟩:=List.any_eq_true.1 hb;obtain ⟨g,hg,hb⟩:=List.any_eq_true.1 hb;have h3:=A0Q.1 h2 m hm;unfold S7 at h3;simp only [A0D] at h3;have h4:=A0Q.1 h3.2 g hg;unfold X9 at h4;simp only [A0D,A0G] at h4;unfold A7a at hb;simp only [A0W,A0G] at hb;omega
def ShT (t:Tok):Prop:=(K4 t).length<=1000
theorem D2u:ShT Y7:=by show (K4 Y7).length<=1000;rw [show K4 Y7=[] from rfl];simp
theorem E2a:Clo ShT:=⟨fun t ht=>by obtain rfl:=A0R.1 ht;exact D2u,fun x h t ht=>by
  obtain rfl:=A0R.1 ht;unfold ShT;rw [K3];omega,fun x t ht=>by
  unfold D1 at ht;by_cases h:C2 x=false
  ·rw [if_pos h] at ht;obtain rfl:=A0R.1 ht;exact D2u
  ·rw [if_neg h] at ht;obtain rfl:=A0R.1 ht;have h1:C2 x=true:=by cases hx:C2 x with|true=>rfl|false=>exact absurd hx h
   unfold C2 at h1;simp only [A0D,A0G] at h1;show x.length<=1000;omega,fun x t ht=>by
  unfold X2 at ht;split at ht
  ·obtain rfl:=A0R.1 ht;exact D2u
  ·obtain rfl:=A0R.1 ht;have:=N8 (n:=x) (by omega) (by omega);show (G8 x).length<=1000;omega,fun x t ht=>by
  unfold A1c at ht;split at ht
  ·obtain rfl:=A0R.1 ht;exact D2u
  ·rename_i hc;obtain rfl:=A0R.1 ht;have h2:¬ 32<x.length:=fun h=>hc (.inr h);have:=B3a x;show (V7 x).length<=1000;omega⟩
theorem D8i (r:Ru):∀ t∈txT (ruT r),t.length<=100000:=fun t ht=>by
 obtain ⟨x,hx,rfl⟩:=A1I.1 ht;have:(K4 x).length<=1000:=E3o E2a r x hx;omega
end Go.Pb
namespace Go.Proofs.YthlpinppaclofaaGreatDoor
open Go.Eng (IC IOper DReg IFn J0)
open Go.Sym Go.Pb
theorem c_fmZ (R:List (List UInt8)) (o:Option Nat) (c:Nat) (ho:∀ i,o=some i->i<c) (hn:o=none->R=[]) (hl:R.length<=1000000000) (hb:∀ t∈R,t.length<=100000) :
  IW Tryz.prog 105 (pz Tryz.prog 25 (.o (.o (.o (.i (.i (.o .h))))))) ⟨tm [(3,C4 o R.length)],D4 Sym.nil o ⟨1,true,R.map DV.str⟩,c⟩ (rt [.tmp 2] fun v H' _ => ∃ H2,GL H' [v] H2 [.str (U4 R)]):=by
 have hL:=c_lines R hl hb;rcases o with _|id
 ·obtain rfl:=hn rfl;repeat' ((with_reducible first|refine wr ?_|refine A2 ?_ ?_|fail)<;>try simp only [go_sem,seval])
  refine AC.call (hL.give (H0:=Sym.nil) ⟨fun _ h=>h,fun ρ w vs h1 h2=>⟨ρ,rfl,h1,?_,Ext.refl _ _ _⟩⟩) ?_
  ·exact ⟨h2.1,fun i x y hx hy=>by
    match i with
    | 0=>cases hx;exact (h2.2 0 _ y rfl hy).snil_lst
    | _+1=>cases hx⟩
  ·rintro v H' c' ⟨rfl,rfl,rfl⟩ -;simp only [go_sem,seval];repeat' ((with_reducible first|refine wr ?_|refine A2 ?_ ?_|fail)<;>try simp only [go_sem,seval])
   exact A9 rfl
 ·repeat' ((with_reducible first|refine wr ?_|refine A2 ?_ ?_|fail)<;>try simp only [go_sem,seval])
  refine AC.call (hL.give (H0:=Sym.nil) (GL.one (id:=id) A0 rfl (.cons _ _ _ _ (M9 (u:=1) (by rw [A0I]) (R4 _) ⟨[],by rw [A3y];simp⟩) .nil))) ?_;rintro v H' c' ⟨rfl,rfl,rfl⟩ -;simp only [go_sem,seval];repeat' ((with_reducible first|refine wr ?_|refine A2 ?_ ?_|fail)<;>try simp only [go_sem,seval])
  exact A9 rfl
abbrev B4r (ds:List Dc) (ms:List Md):Blk:=⟨0,true,[O1 ds,U2 ms]⟩
theorem A2m {M:Hp} {x y z c:Nat} {a b B0 Bc:Blk} (h0:M 0=some B0) (hc:M c=some Bc) (h1:0<c) (h2:c<x) (h3:x<y) (h4:y<z) :
  (((M.upd y a).del x).upd z b) 0=some B0/\(((M.upd y a).del x).upd z b) c=some Bc/\(((M.upd y a).del x).upd z b) z=some b:=by
 refine ⟨?_,?_,A0⟩
 ·rw [A3 (by omega)];simp only [Hp.del];rw [if_neg (by omega),A3 (by omega)];exact h0
 ·rw [A3 (by omega)];simp only [Hp.del];rw [if_neg (by omega),A3 (by omega)];exact hc
theorem c_fmD (ds:List Dc) (ms:List Md) (R rest:List (List UInt8)) (hds:ds.length<=1000) (hv:∀ d∈ds,A1q d=true) (hRl:R.length<=1000000000)
  (next:∀ (o:Option Nat) (cur:List (List UInt8)) (c:Nat),(∀ i,o=some i->0<i/\i<c)->(o=none->cur=[])->1<=c->R=cur++rest ->
   IW Tryz.prog 105 (pz Tryz.prog 25 (.o (.o (.i (.i (.o .h)))))) ⟨tm [(1,.ptr 0 0),(3,C4 o cur.length)],D4 (nil.upd 0 (B4r ds ms)) o ⟨1,true,cur.map DV.str⟩,c⟩ (rt [.tmp 2] fun v H' _ => ∃ H2,GL H' [v] H2 [.str (U4 R)]))
  (hR:R=ds.flatMap dcL++rest) :
  IW Tryz.prog 105 (pz Tryz.prog 25 (.i (.o (.i .h)))) ⟨tm [(1,.ptr 0 0),(3,.snil)],nil.upd 0 (B4r ds ms),1⟩ (rt [.tmp 2] fun v H' _ => ∃ H2,GL H' [v] H2 [.str (U4 R)]):=by
 repeat' ((with_reducible first|refine wr ?_|refine A2 ?_ ?_|fail)<;>try simp only [go_sem,seval,A0])
 refine A4q (fun q:Nat × Option Nat × List (List UInt8)=>[(1,.ptr 0 0),(3,C4 q.2.1 q.2.2.length),(14,O1 ds),(15,I64 ds.length),(16,I64 q.1)]) (fun q=>D4 (nil.upd 0 (B4r ds ms)) q.2.1 ⟨1,true,q.2.2.map DV.str⟩)
  (fun q cc=>q.1<=ds.length/\(∀ i,q.2.1=some i->0<i/\i<cc)/\(q.2.1=none->q.2.2=[])/\1<=cc/\R=q.2.2++((ds.drop q.1).flatMap dcL++rest)) (fun q=>ds.length-q.1) (0,none,[]) (fun b=>⟨rfl,rfl,rfl,rfl,rfl,trivial⟩) (by simp [C6,tm,Tm.upd,C4]) (Sub.refl _) ⟨A1H _,by simp,by simp,by decide,hR⟩ ?_
 clear hR;rintro ⟨i,o,cur⟩ c ⟨hi,ho,hn,hc,hR⟩;simp only at hi ho hn hc hR;simp only;by_cases hlt:i<ds.length
 ·have hd:decide ((i:Int)<ds.length)=true:=by simpa using hlt
  have hg:=A0E hlt;have hw:IntKind.i64.wrap ((i:Int)+1)=((i+1:Nat):Int):=by rw [w6z (by omega)];omega
  have hvd:=hv _ (A1B hlt);rw [A1V hlt,A1F] at hR;obtain ⟨d,hd0⟩:∃ d,d=ds[i]:=⟨_,rfl⟩;rw [<- hd0] at hg hvd hR;have hgm:(ds.map Dc.v)[i]? = some d.v:=by rw [A1C,hg];rfl
  unfold A1q at hvd;simp only [A0D,A0G] at hvd;obtain ⟨⟨⟨⟨k1,k2⟩,hnm⟩,v1⟩,v2⟩:=hvd;obtain ⟨j,hj⟩:∃ j:Nat,d.kind=1+(j:Int):=⟨(d.kind-1).toNat,by omega⟩;have hwj:IntKind.i64.wrap (d.kind-1)=(j:Int):=by rw [w6z (by omega)];omega
  have hjn:(d.kind-1).toNat=j:=by omega
  have hgj:(C3.map DV.str)[j]? = some (.str (C3.getD j [])):=by
   rw [A1C,A0S,A0E (show j<C3.length from (by show j<8;omega))];rfl
  rw [dcL,hjn] at hR;generalize C3.getD j []=kw at hgj hR;repeat' ((with_reducible first|refine wr ?_|refine cpc c_pdecls ?_|refine A2 ?_ ?_|fail)<;>try simp only [go_sem,seval,A0,hd,hgm,hw])
  obtain ⟨M,hM⟩:∃ M,M=((D4 (nil.upd 0 (B4r ds ms)) o ⟨1,true,cur.map DV.str⟩).upd c ⟨0,true,[I64 0,.str [],I64 0,I64 0]⟩).upd c ⟨0,true,[I64 d.kind,.str d.name,I64 d.value,I64 d.pos]⟩:=⟨_,rfl⟩;rw [<- hM];have hMn:∀ j,c<j->M j=none:=fun j hj=>by
   rw [hM,A3 (by omega),A3 (by omega)];cases o with
   | none=>rw [D6q,A3 (by omega)];rfl
   | some id=>have:=ho id rfl;rw [A1d,A3 (by omega),A3 (by omega)];rfl
  have hMc:M c=some ⟨0,true,[I64 d.kind,.str d.name,I64 d.value,I64 d.pos]⟩:=by rw [hM];exact A0
  have hM0:M 0=some (B4r ds ms):=by
   rw [hM,A3 (by omega),A3 (by omega)];cases o with
   | none=>exact A0
   | some id=>have:=ho id rfl;rw [A1d,A3 (by omega)];exact A0
  have hMo:∀ id,o=some id->M id=some ⟨1,true,cur.map DV.str⟩:=fun id hid=>by
   subst hid;have:=ho id rfl;rw [hM,A3 (by omega),A3 (by omega),A1d];exact A0
  clear hM;refine ⟨by and_intros<;>exact hMn _ (by omega),?_⟩;simp only [go_sem,seval,hMc,hwj,hgj];have hcl:cur.length<=1000000000:=by
   have:=congrArg List.length hR;simp only [A0C] at this;omega
  refine M5 (L6 (cs:=cur.map DV.str) (fun e=>by rw [hn e];simp) (fun id hid=>by have:=ho id hid;rw [A3 (by omega)];exact hMo id hid) (by simp) (by omega) (by omega) (by omega)) ?_;obtain ⟨x,hx⟩:∃ x,x=c+1+12:=⟨_,rfl⟩;rw [<- hx];obtain ⟨M2,hM2⟩:∃ M2,M2=(A2h (M.upd (c+1+9) ⟨1,true,[.str kw,.str d.name]⟩) o).upd x ⟨1,true,cur.map DV.str++[.str kw,.str d.name]⟩:=⟨_,rfl⟩;rw [<- hM2];have e0:M2 0=some (B4r ds ms):=by
   rw [hM2,A3 (by omega)];cases o with
   | none=>show (M.upd _ _) 0=_;rw [A3 (by omega)];exact hM0
   | some id=>have:=ho id rfl;rw [Y5,if_neg (by omega),A3 (by omega)];exact hM0
  have ec:M2 c=some ⟨0,true,[I64 d.kind,.str d.name,I64 d.value,I64 d.pos]⟩:=by
   rw [hM2,A3 (by omega)];cases o with
   | none=>show (M.upd _ _) c=_;rw [A3 (by omega)];exact hMc
   | some id=>have:=ho id rfl;rw [Y5,if_neg (by omega),A3 (by omega)];exact hMc
  have el:M2 x=some ⟨1,true,(cur++[kw,d.name]).map DV.str⟩:=by rw [hM2,A0];simp
  clear hM2;have hxc:c<x:=by omega
  clear hx;obtain ⟨l2,hl2⟩:∃ l2,l2=cur++[kw,d.name]:=⟨_,rfl⟩;rw [<- hl2] at el;have hln:cur.length+2=l2.length:=by rw [hl2];simp
  rw [hln];have hl2l:l2.length<=1000000002:=by omega
  have ne0:=A0k 0 c x (x+1) (x+1+1) (by omega);by_cases h7:d.kind<7
  ·have d7:decide (d.kind<7)=true:=by simpa using h7
   rw [if_pos h7] at hR;simp only [go_sem,seval,ec,el];by_cases hng:d.value<0
   ·have dn:decide (d.value<0)=true:=by simpa using hng
    have hwn:IntKind.i64.wrap (0-d.value) = -d.value:=by rw [w64 (by omega) (by split at v1<;>omega)];omega
    have hmx:(if -d.value>d.value then -d.value else d.value) = -d.value:=by rw [if_pos (by omega)]
    rw [if_pos hng,if_pos hng] at hR;repeat' ((with_reducible first|refine wr ?_|refine A2 ?_ ?_|fail)<;>try simp only [go_sem,seval,ne0,A0,e0,ec,el,d7,hw,dn,hwn,hmx])
    refine D0 (E0 (by simp) (by omega) (by omega)) ?_;simp only [go_sem,seval,ne0,A0];obtain ⟨f0,fc,f2⟩:=A2m (y:=x+1) (z:=x+1+1) (x:=x) (a:=⟨1,true,[.str [45]]⟩) (b:=⟨1,true,l2.map DV.str++[.str [45]]⟩) e0 ec (by omega) (by omega) (by omega) (by omega);obtain ⟨M3,hM3⟩:∃ M3,M3=((M2.upd (x+1) ⟨1,true,[.str [45]]⟩).del x).upd (x+1+1) ⟨1,true,l2.map DV.str++[.str [45]]⟩:=⟨_,rfl⟩;rw [<- hM3] at f0 fc f2 ⊢;clear hM3 e0 ec;obtain ⟨l3,hl3⟩:∃ l3,l3=l2++[[45]]:=⟨_,rfl⟩;have el3:M3 (x+1+1)=some ⟨1,true,l3.map DV.str⟩:=by rw [f2,hl3];simp
    clear f2;have e0:=f0;have ec:=fc;clear f0 fc;have hl3n:l2.length+1=l3.length:=by rw [hl3];simp
    rw [hl3n];obtain ⟨x3,hx3⟩:∃ x3,x3=x+1+1:=⟨_,rfl⟩;rw [<- hx3] at el3 ⊢;have ne0:=A0k 0 c x3 (x3+1) (x3+1+1) (by omega);repeat' ((with_reducible first|refine wr ?_|refine A2 ?_ ?_|fail)<;>try simp only [go_sem,seval,ne0,A0,e0,ec,el3,d7,hw,dn,hwn,hmx])
    refine cpc (c_Itoa (-d.value) (by omega) (by split at v1<;>omega)) ?_;simp only [go_sem,seval,ne0,A0,el3];repeat' ((with_reducible first|refine wr ?_|refine A2 ?_ ?_|fail)<;>try simp only [go_sem,seval,ne0,A0,e0,ec,el3,d7,hw])
    refine D0 (E0 (by simp) (by omega) (by omega)) ?_;simp only [go_sem,seval,ne0,A0];obtain ⟨f0,fc,f2⟩:=A2m (y:=x3+1) (z:=x3+1+1) (x:=x3) (a:=⟨1,true,[.str (G8 (-d.value))]⟩) (b:=⟨1,true,l3.map DV.str++[.str (G8 (-d.value))]⟩) e0 ec (by omega) (by omega) (by omega) (by omega);obtain ⟨M4,hM4⟩:∃ M4,M4=((M3.upd (x3+1) ⟨1,true,[.str (G8 (-d.value))]⟩).del x3).upd (x3+1+1) ⟨1,true,l3.map DV.str++[.str (G8 (-d.value))]⟩:=⟨_,rfl⟩;rw [<- hM4] at f0 fc f2 ⊢;clear hM4 e0 ec;obtain ⟨l4,hl4⟩:∃ l4,l4=l3++[(G8 (-d.value))]:=⟨_,rfl⟩;have el4:M4 (x3+1+1)=some ⟨1,true,l4.map DV.str⟩:=by rw [f2,hl4];simp
    clear f2;have e0:=f0;have ec:=fc;clear f0 fc;have hl4n:l3.length+1=l4.length:=by rw [hl4];simp
    rw [hl4n];obtain ⟨x4,hx4⟩:∃ x4,x4=x3+1+1:=⟨_,rfl⟩;rw [<- hx4] at el4 ⊢;have ne0:=A0k 0 c x4 (x4+1) (x4+1+1) (by omega);repeat' ((with_reducible first|refine wr ?_|refine A2 ?_ ?_|fail)<;>try simp only [go_sem,seval,ne0,A0,e0,ec,el4,d7,hw])
    refine D0 (E0 (by simp) (by omega) (by omega)) ?_;simp only [go_sem,seval,ne0,A0];repeat' ((with_reducible first|refine wr ?_|refine A2 ?_ ?_|fail)<;>try simp only [go_sem,seval,ne0,A0,hw])
    have e1:l4.length+1=(l4++[[59]]).length:=by simp
    rw [e1];obtain ⟨f0, -,f2⟩:=A2m (y:=x4+1) (z:=x4+1+1) (x:=x4) (a:=⟨1,true,[.str [59]]⟩) (b:=⟨1,true,l4.map DV.str++[.str [59]]⟩) e0 ec (by omega) (by omega) (by omega) (by omega);refine ⟨(i+1,some (x4+1+1),l4++[[59]]),⟨rfl,rfl⟩,GL.less' fun j b hj=>?_,inv ⟨hlt,(fun i h=>by cases h;omega),(fun h=>by cases h),by omega,by simp only;rw [hR,hl4,hl3,hl2];simp⟩,by simp only;omega⟩;simp only [A1d] at hj;by_cases e:j=x4+1+1
    ·subst e;rw [A0] at hj;rw [f2, <- hj];simp
    ·rw [A3 e] at hj;by_cases e2:j=0
     ·subst e2;rw [A0] at hj;rw [f0, <- hj]
     ·rw [A3 e2] at hj;cases hj
   ·have dn:decide (d.value<0)=false:=by simpa using hng
    have hwn:IntKind.i64.wrap (0-d.value) = -d.value:=by rw [w64 (by split at v2<;>omega) (by omega)];omega
    have hmx:(if -d.value>d.value then -d.value else d.value)=d.value:=by
     by_cases h0 : -d.value>d.value
     ·omega
     ·rw [if_neg h0]
    rw [if_neg hng,if_neg hng] at hR;repeat' ((with_reducible first|refine wr ?_|refine A2 ?_ ?_|fail)<;>try simp only [go_sem,seval,ne0,A0,e0,ec,el,d7,hw,dn,hwn,hmx])
    refine cpc (c_Itoa d.value (by omega) (by split at v2<;>omega)) ?_;simp only [go_sem,seval,ne0,A0,el];repeat' ((with_reducible first|refine wr ?_|refine A2 ?_ ?_|fail)<;>try simp only [go_sem,seval,ne0,A0,e0,ec,el,d7,hw])
    refine D0 (E0 (by simp) (by omega) (by omega)) ?_;simp only [go_sem,seval,ne0,A0];obtain ⟨f0,fc,f2⟩:=A2m (y:=x+1) (z:=x+1+1) (x:=x) (a:=⟨1,true,[.str (G8 d.value)]⟩) (b:=⟨1,true,l2.map DV.str++[.str (G8 d.value)]⟩) e0 ec (by omega) (by omega) (by omega) (by omega);obtain ⟨M4,hM4⟩:∃ M4,M4=((M2.upd (x+1) ⟨1,true,[.str (G8 d.value)]⟩).del x).upd (x+1+1) ⟨1,true,l2.map DV.str++[.str (G8 d.value)]⟩:=⟨_,rfl⟩;rw [<- hM4] at f0 fc f2 ⊢;clear hM4 e0 ec;obtain ⟨l4,hl4⟩:∃ l4,l4=l2++[(G8 d.value)]:=⟨_,rfl⟩;have el4:M4 (x+1+1)=some ⟨1,true,l4.map DV.str⟩:=by rw [f2,hl4];simp
    clear f2;have e0:=f0;have ec:=fc;clear f0 fc;have hl4n:l2.length+1=l4.length:=by rw [hl4];simp
    rw [hl4n];obtain ⟨x4,hx4⟩:∃ x4,x4=x+1+1:=⟨_,rfl⟩;rw [<- hx4] at el4 ⊢;have ne0:=A0k 0 c x4 (x4+1) (x4+1+1) (by omega);repeat' ((with_reducible first|refine wr ?_|refine A2 ?_ ?_|fail)<;>try simp only [go_sem,seval,ne0,A0,e0,ec,el4,d7,hw])
    refine D0 (E0 (by simp) (by omega) (by omega)) ?_;simp only [go_sem,seval,ne0,A0];repeat' ((with_reducible first|refine wr ?_|refine A2 ?_ ?_|fail)<;>try simp only [go_sem,seval,ne0,A0,hw])
    have e1:l4.length+1=(l4++[[59]]).length:=by simp
    rw [e1];obtain ⟨f0, -,f2⟩:=A2m (y:=x4+1) (z:=x4+1+1) (x:=x4) (a:=⟨1,true,[.str [59]]⟩) (b:=⟨1,true,l4.map DV.str++[.str [59]]⟩) e0 ec (by omega) (by omega) (by omega) (by omega);refine ⟨(i+1,some (x4+1+1),l4++[[59]]),⟨rfl,rfl⟩,GL.less' fun j b hj=>?_,inv ⟨hlt,(fun i h=>by cases h;omega),(fun h=>by cases h),by omega,by simp only;rw [hR,hl4,hl2];simp⟩,by simp only;omega⟩;simp only [A1d] at hj;by_cases e:j=x4+1+1
    ·subst e;rw [A0] at hj;rw [f2, <- hj];simp
    ·rw [A3 e] at hj;by_cases e2:j=0
     ·subst e2;rw [A0] at hj;rw [f0, <- hj]
     ·rw [A3 e2] at hj;cases hj
  ·have d7:decide (d.kind<7)=false:=by simpa using h7
   rw [if_neg h7] at hR;simp only [go_sem,seval,ec,el];repeat' ((with_reducible first|refine wr ?_|refine A2 ?_ ?_|fail)<;>try simp only [go_sem,seval,ne0,A0,e0,ec,el,d7,hw])
   refine D0 (E0 (by simp) (by omega) (by omega)) ?_;simp only [go_sem,seval,ne0,A0];repeat' ((with_reducible first|refine wr ?_|refine A2 ?_ ?_|fail)<;>try simp only [go_sem,seval,ne0,A0,hw])
   have e1:l2.length+1=(l2++[[59]]).length:=by simp
   rw [e1];obtain ⟨f0, -,f2⟩:=A2m (y:=x+1) (z:=x+1+1) (x:=x) (a:=⟨1,true,[.str [59]]⟩) (b:=⟨1,true,l2.map DV.str++[.str [59]]⟩) e0 ec (by omega) (by omega) (by omega) (by omega);refine ⟨(i+1,some (x+1+1),l2++[[59]]),⟨rfl,rfl⟩,GL.less' fun j b hj=>?_,inv ⟨hlt,(fun i h=>by cases h;omega),(fun h=>by cases h),by omega,by simp only;rw [hR,hl2];simp⟩,by simp only;omega⟩;simp only [A1d] at hj;by_cases e:j=x+1+1
   ·subst e;rw [A0] at hj;rw [f2, <- hj];simp
   ·rw [A3 e] at hj;by_cases e2:j=0
    ·subst e2;rw [A0] at hj;rw [f0, <- hj]
    ·rw [A3 e2] at hj;cases hj
 ·have hd:decide ((i:Int)<ds.length)=false:=by simpa using hlt
  rw [A2L (by omega),List.flatMap_nil,A1K] at hR;repeat' ((with_reducible first|refine E3 (p:=IW _ _ (pz Tryz.prog 25 (.o (.o (.i (.i (.o .h)))))) _ _) ?_|refine wr ?_|refine A2 ?_ ?_|fail)<;>try simp only [go_sem,seval,hd])
  unfold X7;exact IW.weaken (X0 (l:=[(1,.ptr 0 0),(3,C4 o cur.length)]) ⟨rfl,rfl,trivial⟩) (Sub.refl _) (next o cur c ho hn hc hR)
abbrev D9p (m:Md):Blk:=⟨0,true,[.str m.name,I64 m.prio,A0z m.hds,I64 m.pos]⟩
theorem B3z {M:Hp} {x y z c:Nat} {a b Bc:Blk} (hc:M c=some Bc) (h2:¬ c=x) (h3:¬ c=y) (h4:¬ c=z) :
  (((M.upd y a).del x).upd z b) c=some Bc/\(((M.upd y a).del x).upd z b) z=some b:=by
 refine ⟨?_,A0⟩;rw [A3 h4];simp only [Hp.del];rw [if_neg h2,A3 h3];exact hc
theorem c_fmH (m:Md) (Q:Exit->Go.Sym.St->Prop) (a55 a56 a57:DV) (R rest:List (List UInt8)) (hh:m.hds.length<=1000) (hv:∀ h∈m.hds,X9 h=true) (hS:∀ h∈m.hds,Pb.St.szs h.body<=4000000) (hRl:R.length<=1000000000)
  (l:List (List UInt8)) (id b c:Nat) (hid:id<c) (hb:b<c) (hne:¬ b=id) (hR:R=l++(m.hds.flatMap C1k++rest))
  (next:∀ (id:Nat) (cur:List (List UInt8)) (c2:Nat),id<c2->c<=c2->R=cur++rest ->
   IW Tryz.prog 105 (pz Tryz.prog 25 (.o (.i (.i (.o (.i (.o .h))))))) ⟨tm [(3,.slc id 0 cur.length),(55,a55),(56,a56),(57,a57)],nil.upd id ⟨1,true,cur.map DV.str⟩,c2⟩ Q) :
  IW Tryz.prog 105 (pz Tryz.prog 25 (.i (.o (.i (.i (.i .h)))))) ⟨tm [(3,.slc id 0 l.length),(7,.ptr b 0),(55,a55),(56,a56),(57,a57)],(nil.upd b (D9p m)).upd id ⟨1,true,l.map DV.str⟩,c⟩ Q:=by
 have hb0:((nil.upd b (D9p m)).upd id ⟨1,true,l.map DV.str⟩) b=some (D9p m):=by rw [A3 hne];exact A0
 repeat' ((with_reducible first|refine wr ?_|refine A2 ?_ ?_|fail)<;>try simp only [go_sem,seval,hb0])
 refine A4q (fun q:Nat × Nat × List (List UInt8)=>[(3,.slc q.2.1 0 q.2.2.length),(55,a55),(56,a56),(57,a57),(70,A0z m.hds),(71,I64 m.hds.length),(72,I64 q.1)]) (fun q=>nil.upd q.2.1 ⟨1,true,q.2.2.map DV.str⟩)
  (fun q cc=>q.1<=m.hds.length/\q.2.1<cc/\c<=cc/\R=q.2.2++((m.hds.drop q.1).flatMap C1k++rest)) (fun q=>m.hds.length-q.1) (0,id,l) (fun b=>⟨rfl,rfl,rfl,rfl,rfl,rfl,rfl,trivial⟩) (by simp [C6,tm,Tm.upd]) (fun j b hj=>by
   by_cases e:j=id
   ·subst e;rw [A0] at hj ⊢;exact hj
   ·rw [A3 e] at hj;cases hj) ⟨A1H _,hid,A0H _,hR⟩ ?_
 clear hR hid hne hb0;rintro ⟨i,id,cur⟩ c3 ⟨hi,hid,hc3,hR⟩;simp only at hi hid hc3 hR;simp only;by_cases hlt:i<m.hds.length
 ·have hd:decide ((i:Int)<m.hds.length)=true:=by simpa using hlt
  have hg:=A0E hlt;have hw:IntKind.i64.wrap ((i:Int)+1)=((i+1:Nat):Int):=by rw [w6z (by omega)];omega
  have hvd:=hv _ (A1B hlt);have hsz:=hS _ (A1B hlt);rw [A1V hlt,A1F] at hR;obtain ⟨h,hh0⟩:∃ h,h=m.hds[i]:=⟨_,rfl⟩;rw [<- hh0] at hg hvd hR hsz;have hgm:(m.hds.map Hd.v)[i]? = some h.v:=by rw [A1C,hg];rfl
  have hbk:=c_pblkT h.body (by have:=Pb.St.szs_len h.body;omega) (fun s hs=>by
   unfold X9 O8 at hvd;simp only [A0D] at hvd;exact c_prStmt _ s 1 (A2H _) (by have:=Pb.St.szs_mem hs;omega) (A4e hvd.2.2 s hs)) hsz
  have hbl:(txT (blT h.body)).length<=1000000000:=by
   have:=(B6g h.body).2;unfold txT;rw [A0I];omega
  unfold X9 at hvd;simp only [A0D,A0G] at hvd;obtain ⟨⟨⟨k1,k2⟩,hnm⟩, -⟩:=hvd;obtain ⟨j,hj⟩:∃ j:Nat,h.trig=1+(j:Int):=⟨(h.trig-1).toNat,by omega⟩;have hwj:IntKind.i64.wrap (h.trig-1)=(j:Int):=by rw [w6z (by omega)];omega
  have hjn:(h.trig-1).toNat=j:=by omega
  have hgj:(C8.map DV.str)[j]? = some (.str (C8.getD j [])):=by
   rw [A1C,A0S,A0E (show j<C8.length from (by show j<6;omega))];rfl
  rw [C1k,hjn] at hR;generalize C8.getD j []=kw at hgj hR;generalize txT (blT h.body)=W at hbk hbl hR;have hcl:cur.length<=1000000000:=by
   have:=congrArg List.length hR;simp only [A0C] at this;omega
  repeat' ((with_reducible first|refine wr ?_|refine cpc c_ptrigs ?_|refine A2 ?_ ?_|fail)<;>try simp only [go_sem,seval,A0,hd,hgm,hw])
  obtain ⟨M,hM⟩:∃ M,M=((nil.upd id ⟨1,true,cur.map DV.str⟩).upd c3 ⟨0,true,[I64 0,.str [],.snil,I64 0]⟩).upd c3 ⟨0,true,[I64 h.trig,.str h.name,G1 h.body,I64 h.pos]⟩:=⟨_,rfl⟩;rw [<- hM];have hMn:∀ j,c3<j->M j=none:=fun j hj=>by
   rw [hM,A3 (by omega),A3 (by omega),A3 (by omega)];rfl
  have hMc:M c3=some ⟨0,true,[I64 h.trig,.str h.name,G1 h.body,I64 h.pos]⟩:=by rw [hM];exact A0
  have hMo:M id=some ⟨1,true,cur.map DV.str⟩:=by rw [hM,A3 (by omega),A3 (by omega)];exact A0
  clear hM;refine ⟨by and_intros<;>exact hMn _ (by omega),?_⟩;simp only [go_sem,seval,hMc,hMo,hwj,hgj];rw [A3 (show ¬ id=c3+1+7 by omega),hMo];refine M5 (E0 (by simp) (by omega) (by omega)) ?_;obtain ⟨ec,el⟩:=B3z (M:=M) (x:=id) (y:=c3+1+7) (z:=c3+1+10) (c:=c3) (a:=⟨1,true,[.str [111,110],.str kw]⟩) (b:=⟨1,true,cur.map DV.str++[.str [111,110],.str kw]⟩) hMc (by omega) (by omega) (by omega);obtain ⟨M2,hM2⟩:∃ M2,M2=((M.upd (c3+1+7) ⟨1,true,[.str [111,110],.str kw]⟩).del id).upd (c3+1+10) ⟨1,true,cur.map DV.str++[.str [111,110],.str kw]⟩:=⟨_,rfl⟩;rw [<- hM2] at ec el ⊢;clear hM2;obtain ⟨x,hx⟩:∃ x,x=c3+1+10:=⟨_,rfl⟩;rw [<- hx] at el ⊢;have hxc:c3<x:=by omega
  clear hx;obtain ⟨l2,hl2⟩:∃ l2,l2=cur++[[111,110],kw]:=⟨_,rfl⟩;rw [show cur.map DV.str++[.str [111,110],.str kw]=l2.map DV.str by rw [hl2];simp] at el;have hln:cur.length+2=l2.length:=by rw [hl2];simp
  rw [hln];have hl2l:l2.length<=1000000002:=by omega
  have ne0:=A7y c3 x (x+1) (x+1+1) (by omega);by_cases h3:3<=h.trig
  ·have d3:decide (h.trig≥3)=true:=by simpa using h3
   rw [if_pos h3] at hR;simp only [go_sem,seval,ec,el];repeat' ((with_reducible first|refine wr ?_|refine A2 ?_ ?_|fail)<;>try simp only [go_sem,seval,ne0,A0,ec,el,d3,hw])
   refine D0 (E0 (by simp) (by omega) (by omega)) ?_;simp only [go_sem,seval,ne0,A0];obtain ⟨fc,f2⟩:=B3z (M:=M2) (x:=x) (y:=x+1) (z:=x+1+1) (c:=c3) (a:=⟨1,true,[.str h.name]⟩) (b:=⟨1,true,l2.map DV.str++[.str h.name]⟩) ec (by omega) (by omega) (by omega);obtain ⟨M3,hM3⟩:∃ M3,M3=((M2.upd (x+1) ⟨1,true,[.str h.name]⟩).del x).upd (x+1+1) ⟨1,true,l2.map DV.str++[.str h.name]⟩:=⟨_,rfl⟩;rw [<- hM3] at fc f2 ⊢;clear hM3 ec;obtain ⟨l3,hl3⟩:∃ l3,l3=l2++[h.name]:=⟨_,rfl⟩;have el3:M3 (x+1+1)=some ⟨1,true,l3.map DV.str⟩:=by rw [f2,hl3];simp
   clear f2;have hl3n:l2.length+1=l3.length:=by rw [hl3];simp
   rw [hl3n];obtain ⟨x3,hx3⟩:∃ x3,x3=x+1+1:=⟨_,rfl⟩;rw [<- hx3] at el3 ⊢;have ne0:=A7y c3 x3 (x3+1) (x3+1+1) (by omega);repeat' ((with_reducible first|refine wr ?_|refine A2 ?_ ?_|fail)<;>try simp only [go_sem,seval,ne0,A0,fc,el3,d3,hw])
   refine AC.call (hbk _ _) ?_;rintro _ _ _ ⟨rfl,rfl,rfl⟩ -;have tk:List.take W.length (W.map DV.str)=W.map DV.str:=A0O (by simp);simp only [go_sem,seval,ne0,A0,tk,el3];refine D0 (E0 (by simp) (by omega) (by omega)) ?_;simp only [go_sem,seval,ne0,A0];repeat' ((with_reducible first|refine wr ?_|refine A2 ?_ ?_|fail)<;>try simp only [go_sem,seval,ne0,A0,hw])
   have e1:l3.length+W.length=(l3++W).length:=by simp
   rw [e1];refine ⟨(i+1,x3+1+1,l3++W),⟨rfl,rfl⟩,GL.less' fun j b hj=>?_,inv ⟨hlt,by simp only;omega,by omega,by simp only;rw [hR,hl3,hl2];simp⟩,by simp only;omega⟩;simp only at hj;by_cases e:j=x3+1+1
   ·subst e;rw [A0] at hj ⊢;rw [<- hj];simp
   ·rw [A3 e] at hj;cases hj
  ·have d3:decide (h.trig≥3)=false:=by simpa using h3
   rw [if_neg h3] at hR;simp only [go_sem,seval,ec,el];repeat' ((with_reducible first|refine wr ?_|refine A2 ?_ ?_|fail)<;>try simp only [go_sem,seval,ne0,A0,ec,el,d3,hw])
   refine AC.call (hbk _ _) ?_;rintro _ _ _ ⟨rfl,rfl,rfl⟩ -;have tk:List.take W.length (W.map DV.str)=W.map DV.str:=A0O (by simp);simp only [go_sem,seval,ne0,A0,tk,el];refine D0 (E0 (by simp) (by omega) (by omega)) ?_;simp only [go_sem,seval,ne0,A0];repeat' ((with_reducible first|refine wr ?_|refine A2 ?_ ?_|fail)<;>try simp only [go_sem,seval,ne0,A0,hw])
   have e1:l2.length+W.length=(l2++W).length:=by simp
   rw [e1];refine ⟨(i+1,x+1+1,l2++W),⟨rfl,rfl⟩,GL.less' fun j b hj=>?_,inv ⟨hlt,by simp only;omega,by omega,by simp only;rw [hR,hl2];simp⟩,by simp only;omega⟩;simp only at hj;by_cases e:j=x+1+1
   ·subst e;rw [A0] at hj ⊢;rw [<- hj];simp
   ·rw [A3 e] at hj;cases hj
 ·have hd:decide ((i:Int)<m.hds.length)=false:=by simpa using hlt
  rw [A2L (by omega),List.flatMap_nil,A1K] at hR;repeat' ((with_reducible first|refine E3 (p:=IW _ _ (pz Tryz.prog 25 (.o (.i (.i (.o (.i (.o .h))))))) _ _) ?_|refine wr ?_|refine A2 ?_ ?_|fail)<;>try simp only [go_sem,seval,hd])
  unfold X7;exact IW.weaken (X0 (l:=[(3,.slc id 0 cur.length),(55,a55),(56,a56),(57,a57)]) ⟨rfl,rfl,rfl,rfl,trivial⟩) (Sub.refl _) (next id cur c3 hid hc3 hR)
theorem c_fmM (ds:List Dc) (ms:List Md) (R:List (List UInt8)) (hms:ms.length<=1000) (hv:∀ m∈ms,S7 m=true) (hS:∀ m∈ms, ∀ h∈m.hds,Pb.St.szs h.body<=4000000) (hRl:R.length<=1000000000) (hRb:∀ t∈R,t.length<=100000)
  (o:Option Nat) (l:List (List UInt8)) (c:Nat) (ho:∀ i,o=some i->0<i/\i<c) (hn:o=none->l=[]) (hc:1<=c) (hR:R=l++ms.flatMap mdL) :
  IW Tryz.prog 105 (pz Tryz.prog 25 (.o (.o (.i (.i (.o .h)))))) ⟨tm [(1,.ptr 0 0),(3,C4 o l.length)],D4 (nil.upd 0 (B4r ds ms)) o ⟨1,true,l.map DV.str⟩,c⟩ (rt [.tmp 2] fun v H' _ => ∃ H2,GL H' [v] H2 [.str (U4 R)]):=by
 have h0:(D4 (nil.upd 0 (B4r ds ms)) o ⟨1,true,l.map DV.str⟩) 0=some (B4r ds ms):=by
  cases o with
  | none=>exact A0
  | some id=>have:=ho id rfl;rw [A1d,A3 (by omega)];exact A0
 repeat' ((with_reducible first|refine wr ?_|refine A2 ?_ ?_|fail)<;>try simp only [go_sem,seval,h0])
 refine A4q (fun q:Nat × Option Nat × List (List UInt8)=>[(3,C4 q.2.1 q.2.2.length),(55,U2 ms),(56,I64 ms.length),(57,I64 q.1)]) (fun q=>D4 Sym.nil q.2.1 ⟨1,true,q.2.2.map DV.str⟩)
  (fun q cc=>q.1<=ms.length/\(∀ i,q.2.1=some i->i<cc)/\(q.2.1=none->q.2.2=[])/\R=q.2.2++(ms.drop q.1).flatMap mdL) (fun q=>ms.length-q.1) (0,o,l) (fun b=>⟨rfl,rfl,rfl,rfl,trivial⟩) (by simp [C6,tm,Tm.upd,C4]) (fun j b hj=>by
   cases o with
   | none=>cases hj
   | some id =>
    simp only [A1d] at hj ⊢;by_cases e:j=id
    ·subst e;rw [A0] at hj ⊢;exact hj
    ·rw [A3 e] at hj;cases hj) ⟨A1H _,fun i h=>(ho i h).2,hn,hR⟩ ?_
 clear hR hn ho h0;rintro ⟨i,o,cur⟩ c3 ⟨hi,ho,hn,hR⟩;simp only at hi ho hn hR;simp only;by_cases hlt:i<ms.length
 ·have hd:decide ((i:Int)<ms.length)=true:=by simpa using hlt
  have hg:=A0E hlt;have hw:IntKind.i64.wrap ((i:Int)+1)=((i+1:Nat):Int):=by rw [w6z (by omega)];omega
  have hvd:=hv _ (A1B hlt);have hsz:=hS _ (A1B hlt);rw [A1V hlt,A1F] at hR;obtain ⟨m,hm0⟩:∃ m,m=ms[i]:=⟨_,rfl⟩;rw [<- hm0] at hg hvd hR hsz;have hgm:(ms.map Md.v)[i]? = some m.v:=by rw [A1C,hg];rfl
  unfold S7 at hvd;simp only [A0D,A0G] at hvd;obtain ⟨⟨⟨⟨hnm,p1⟩,p2⟩,hhl⟩,hh⟩:=hvd;have hit:=c_Itoa m.prio (by omega) (by omega);rw [mdL] at hR;have hcl:cur.length<=1000000000:=by
   have:=congrArg List.length hR;simp only [A0C] at this;omega
  repeat' ((with_reducible first|refine wr ?_|refine cpc hit ?_|refine A2 ?_ ?_|fail)<;>try simp only [go_sem,seval,A0,hd,hgm,hw])
  obtain ⟨M,hM⟩:∃ M,M=((D4 Sym.nil o ⟨1,true,cur.map DV.str⟩).upd c3 ⟨0,true,[.str [],I64 0,.snil,I64 0]⟩).upd c3 ⟨0,true,[.str m.name,I64 m.prio,A0z m.hds,I64 m.pos]⟩:=⟨_,rfl⟩;rw [<- hM];have hMn:∀ j,c3<j->M j=none:=fun j hj=>by
   rw [hM,A3 (by omega),A3 (by omega)];cases o with
   | none=>rfl
   | some id=>have:=ho id rfl;rw [A1d,A3 (by omega)];rfl
  have hMc:M c3=some ⟨0,true,[.str m.name,I64 m.prio,A0z m.hds,I64 m.pos]⟩:=by rw [hM];exact A0
  have hMo:∀ id,o=some id->M id=some ⟨1,true,cur.map DV.str⟩:=fun id hid=>by
   subst hid;have:=ho id rfl;rw [hM,A3 (by omega),A3 (by omega),A1d];exact A0
  clear hM;refine ⟨by and_intros<;>exact hMn _ (by omega),?_⟩;refine M5 (L6 (cs:=cur.map DV.str) (fun e=>by rw [hn e];simp) (fun id hid=>by have:=ho id hid;rw [A3 (by omega)];exact hMo id hid) (by simp) (by omega) (by omega) (by omega)) ?_;simp only [go_sem,seval];repeat' ((with_reducible first|refine E3 (p:=IW _ _ (pz Tryz.prog 25 (.i (.o (.i (.i (.i .h)))))) _ _) ?_|refine wr ?_|refine A2 ?_ ?_|fail)<;>try simp only [go_sem,seval,A0])
  unfold X7;have e4:cur.length+4=(cur++[[109,111,100,101],m.name,G8 m.prio,[123]]).length:=by simp
  rw [e4];refine IW.weaken (X0 (l:=[(3,.slc (c3+1+9) 0 (cur++[[109,111,100,101],m.name,G8 m.prio,[123]]).length),(7,.ptr c3 0),(55,U2 ms),(56,I64 ms.length),(57,I64 i)]) ⟨rfl,rfl,rfl,rfl,rfl,trivial⟩) ?_ (c_fmH m _ _ _ _ R ([[125]]++(ms.drop (i+1)).flatMap mdL) (by omega) (fun h hm=>A0Q.1 hh h hm) hsz hRl (cur++[[109,111,100,101],m.name,G8 m.prio,[123]]) (c3+1+9) c3 _ (by omega) (by omega) (by omega) (by rw [hR];simp) ?_)
  ·intro j b hj;by_cases e:j=c3+1+9
   ·subst e;rw [A0] at hj ⊢;rw [<- hj];simp
   ·rw [A3 e] at hj ⊢;by_cases e2:j=c3
    ·subst e2;rw [A0] at hj;rw [<- hj];cases o with
     | none=>show (M.upd _ _) _=_;rw [A3 (by omega)];exact hMc
     | some id=>have:=ho id rfl;rw [Y5,if_neg (by omega),A3 (by omega)];exact hMc
    ·rw [A3 e2] at hj;cases hj
  ·intro id cur2 c4 hid hc4 hR2;have hl2:cur2.length<=1000000000:=by
    have:=congrArg List.length hR2;simp only [A0C] at this;omega
   have ne0:=V8 id c4 (c4+1) (by omega);repeat' ((with_reducible first|refine wr ?_|refine A2 ?_ ?_|fail)<;>try simp only [go_sem,seval,ne0,A0,hw])
   refine D0 (E0 (by simp) (by omega) (by omega)) ?_;simp only [go_sem,seval,ne0,A0];repeat' ((with_reducible first|refine wr ?_|refine A2 ?_ ?_|fail)<;>try simp only [go_sem,seval,ne0,A0,hw])
   have e1:cur2.length+1=(cur2++[[125]]).length:=by simp
   rw [e1];refine ⟨(i+1,some (c4+1),cur2++[[125]]),⟨rfl,rfl⟩,GL.less' fun j b hj=>?_,inv ⟨hlt,(fun i h=>by cases h;omega),(fun h=>by cases h),by simp only;rw [hR2];simp⟩,by simp only;omega⟩;simp only [A1d] at hj;by_cases e:j=c4+1
   ·subst e;rw [A0] at hj ⊢;rw [<- hj];simp
   ·rw [A3 e] at hj;cases hj
 ·have hd:decide ((i:Int)<ms.length)=false:=by simpa using hlt
  rw [A2L (by omega),List.flatMap_nil,A1M] at hR;subst hR;repeat' ((with_reducible first|refine E3 (p:=IW _ _ (pz Tryz.prog 25 (.o (.o (.o (.i (.i (.o .h))))))) _ _) ?_|refine wr ?_|refine A2 ?_ ?_|fail)<;>try simp only [go_sem,seval,hd])
  unfold X7;exact IW.weaken (X0 (l:=[(3,C4 o R.length)]) ⟨rfl,trivial⟩) (Sub.refl _) (c_fmZ R o c3 ho hn hRl hRb)
theorem c_PFormat (r:Ru) (hB:r.sz<=3000000):PC Tryz.prog 25 [r.v] (.str (Y3 r)):=by
 have hv:=c_Valid r (by omega);refine PC.ofT B2 rfl (A0A rfl) (by simp [DV.nlL,DV.nl,W4,W3]) rfl ?_;unfold Y3;cases hb:A1x r with
 | false =>
  rw [hb] at hv;rw [if_neg A2B];repeat' ((with_reducible first|refine wr ?_|refine cpc hv ?_|refine A2 ?_ ?_|fail)<;>try simp only [go_sem,seval])
  exact A9 rfl
 | true =>
  rw [hb] at hv;rw [if_pos rfl];have hR:=E2x hb;have hsh:=D8i r;have hl:=(D3a r).1;have hlen:(txT (ruT r)).length<=1000000000:=by unfold txT;rw [A0I];omega
  generalize txT (ruT r)=R at hR hsh hlen ⊢;unfold A1x at hb;simp only [A0D,A0G] at hb;obtain ⟨⟨⟨hd,hm⟩,h1⟩,h2⟩:=hb;have hbod:∀ m∈r.modes, ∀ h∈m.hds,Pb.St.szs h.body<=4000000:=fun m hm h hh=>by
   have e1:h.sz<=(m.hds.map Hd.sz).sum:=O3 hh;have e2:m.sz<=(r.modes.map Md.sz).sum:=O3 hm;have e3:h.sz=1+h.name.length+Pb.St.szs h.body:=rfl;have e4:m.sz=1+m.name.length+(m.hds.map Hd.sz).sum:=rfl;have e5:r.sz=(r.decls.map Dc.sz).sum+(r.modes.map Md.sz).sum:=rfl;omega
  repeat' ((with_reducible first|refine E3 (p:=IW _ _ (pz Tryz.prog 25 (.i (.o (.i .h)))) _ _) ?_|refine wr ?_|refine cpc hv ?_|refine A2 ?_ ?_|fail)<;>try simp only [go_sem,seval])
  unfold X7;refine IW.weaken (X0 (l:=[(1,.ptr 0 0),(3,.snil)]) ⟨rfl,rfl,trivial⟩) (Sub.refl _) ?_;exact c_fmD r.decls r.modes R (r.modes.flatMap mdL) (by omega) (fun d hd=>A0Q.1 h1 d hd) hlen (fun o cur c ho hn hc hR2=>c_fmM r.decls r.modes R (by omega) (fun m hm=>A0Q.1 h2 m hm) hbod hlen hsh o cur c ho hn hc hR2) hR
open Go.Sym
abbrev x13:XT Tryz.prog 13:=mkF
instance t13:FT Tryz.prog 13 x13.d:=x13.ft
abbrev x41:XT Tryz.prog 41:=mkF
instance t41:FT Tryz.prog 41 x41.d:=x41.ft
abbrev x46:XT Tryz.prog 46:=mkF
instance t46:FT Tryz.prog 46 x46.d:=x46.ft
abbrev x20:XT Tryz.prog 20:=mkF
instance t20:FT Tryz.prog 20 x20.d:=x20.ft
abbrev x21:XT Tryz.prog 21:=mkF
instance t21:FT Tryz.prog 21 x21.d:=x21.ft
abbrev x131:XT Tryz.prog 131:=mkF
instance t131:FT Tryz.prog 131 x131.d:=x131.ft
abbrev x81:XT Tryz.prog 81:=mkF
instance t81:FT Tryz.prog 81 x81.d:=x81.ft
abbrev x43:XT Tryz.prog 43:=mkF
instance t43:FT Tryz.prog 43 x43.d:=x43.ft
abbrev x16:XT Tryz.prog 16:=mkF
instance t16:FT Tryz.prog 16 x16.d:=x16.ft
abbrev x17:XT Tryz.prog 17:=mkF
instance t17:FT Tryz.prog 17 x17.d:=x17.ft
abbrev x129:XT Tryz.prog 129:=mkF
instance t129:FT Tryz.prog 129 x129.d:=x129.ft
abbrev x78:XT Tryz.prog 78:=mkF
instance t78:FT Tryz.prog 78 x78.d:=x78.ft
abbrev x38:XT Tryz.prog 38:=mkF
instance t38:FT Tryz.prog 38 x38.d:=x38.ft
abbrev x173:XT Tryz.prog 173:=mkF
instance t173:FT Tryz.prog 173 x173.d:=x173.ft
abbrev x128:XT Tryz.prog 128:=mkF
instance t128:FT Tryz.prog 128 x128.d:=x128.ft
abbrev x75:XT Tryz.prog 75:=mkF
instance t75:FT Tryz.prog 75 x75.d:=x75.ft
abbrev x76:XT Tryz.prog 76:=mkF
instance t76:FT Tryz.prog 76 x76.d:=x76.ft
abbrev x77:XT Tryz.prog 77:=mkF
instance t77:FT Tryz.prog 77 x77.d:=x77.ft
abbrev x12:XT Tryz.prog 12:=mkF
instance t12:FT Tryz.prog 12 x12.d:=x12.ft
abbrev x3:XT Tryz.prog 3:=mkF
instance t3:FT Tryz.prog 3 x3.d:=x3.ft
abbrev x10:XT Tryz.prog 10:=mkF
instance t10:FT Tryz.prog 10 x10.d:=x10.ft
end Go.Proofs.YthlpinppaclofaaGreatDoor
namespace Go.Pb
variable [Go.Sym.Tab]
open Go.Sym
abbrev Er:=Option (Int × Int)
def cnD (l:List Dc) (k:Int):Nat:=l.countP (fun d=>d.kind == k)
def cnR (r:Ru) (k:Int):Nat:=if k=9 then r.modes.length else cnD r.decls k
def lkD (pre:List Dc):List Dc->List UInt8->Option (Int × Int)
 | [],_=>none
 | d :: l,n=>if d.name=n then some (d.kind,if d.kind<6 then d.value else (cnR ⟨pre,[]⟩ d.kind:Int)) else lkD (pre++[d]) l n
def lkM (i:Nat):List Md->List UInt8->Option (Int × Int)
 | [],_=>none
 | m :: l,n=>if m.name=n then some (9,(i:Int)) else lkM (i+1) l n
def A6x (r:Ru) (n:List UInt8):Int × Int:=match lkD [] r.decls n with
 | some q=>q
 | none=>match lkM 0 r.modes n with
  | some q=>q
  | none=>(0,0)
def dnM (r:Ru) (n:List UInt8) (k:Int):Int:=if k=0\/(A6x r n).1=k then 0 else if (A6x r n).1=0 then 8 else 44
def dnE (r:Ru) (n:List UInt8) (k p:Int):Er:=if dnM r n k=0 then none else some (p,dnM r n k)
def kdE (k:Int):Int:=if k=2 then 6 else if k=5 then 1 else if k=6 then 9 else if k=7 then 7 else 0
def kdS (k:Int):Int:=if k=1 then 6 else if k=5\/k=6\/k=7 then 2 else if k=8\/k=9 then 3 else if k=10\/k=11 then 7 else if k=12\/k=13 then 9 else if k=14 then 8 else if k=15 then 4 else if k=16\/k=17 then 5 else 0
def kdH (k:Int):Int:=if k=3\/k=4 then 1 else if k=5 then 7 else if k=6 then 8 else 0
def D3y (k:Int):Int:=if k=1 then 63 else if k=2 then 31 else if k=3\/k=4\/k=5 then 63 else 2147483647
def E9o (k:Int):Bool:=k == 3 || k == 4 || k == 5 || k == 6 || k == 11 || decide (17<=k)
def B6q (k:Int):Int:=if E9o k=true then 2 else 1
def B1z (k:Int) (a:List Ex):Int:=if k=11\/k=23\/k=24 then 2 else if k=21\/k=22 then (match a with
 | []=>1
 | x :: _=>B6q x.kind) else 1
mutual
def erE (r:Ru):Ex->Er
 | .mk k v n a p=>((A8d r a).or (dnE r n (kdE k) p)).or (if a.all (fun x=>B6q x.kind == B1z k a)=true then none else some (p,49))
def A8d (r:Ru):List Ex->Er
 | []=>none
 | x :: l=>(erE r x).or (A8d r l)
end
def erA (r:Ru) (b:Bool):List Ex->Er
 | []=>none
 | x :: l=>((erE r x).or (if (B6q x.kind == 2)=b then none else some (x.pos,49))).or (erA r b l)
mutual
def erS (r:Ru):St->Er
 | .mk k n t a x y p=>(((dnE r n (kdS k) p).or (erA r (k == 2) a)).or (erB r x)).or (erB r y)
def erB (r:Ru):List St->Er
 | []=>none
 | s :: l=>(erS r s).or (erB r l)
end
def erD (pre:List Dc):List Dc->Er
 | []=>none
 | d :: l=>((if d.value>D3y d.kind then some (d.pos,5) else none:Er).or (if (A6x ⟨pre,[]⟩ d.name).1=0 then none else some (d.pos,7))).or (erD (pre++[d]) l)
def erP (D:List Dc) (pre:List Md):List Md->Er
 | []=>none
 | m :: l=>((if m.prio>99 then some (m.pos,5) else none:Er).or (if (A6x ⟨D,pre⟩ m.name).1=0 then none else some (m.pos,7))).or (erP D (pre++[m]) l)
def D5e (r:Ru):Er:=(erD [] r.decls).or (erP r.decls [] r.modes)
def erH (r:Ru) (pre:List Hd):List Hd->Er
 | []=>none
 | h :: l=>(((dnE r h.name (kdH h.trig) h.pos).or (if pre.any (fun x=>x.trig == h.trig && x.name == h.name)=true then some (h.pos,7) else none)).or (erB r h.body)).or (erH r (pre++[h]) l)
def erM (r:Ru):List Md->Er
 | []=>none
 | m :: l=>(erH r [] m.hds).or (erM r l)
def E9n (r:Ru):Er:=(D5e r).or (erM r r.modes)
end Go.Pb
namespace Go.Pb
variable [Go.Sym.Tab]
open Go.Sym
def A8j (l:List Dc):Prop:=∀ d∈l,1<=d.kind/\d.kind<=8
theorem C9p (r:Ru) (n:List UInt8):A6x r n=((lkD [] r.decls n).or (lkM 0 r.modes n)).getD (0,0):=by
 unfold A6x;cases lkD [] r.decls n with
 | some q=>rfl
 | none =>
  cases lkM 0 r.modes n with
  | some q=>rfl
  | none=>rfl
theorem C9u {n:List UInt8}:∀ {D pre:List Dc} {q:Int × Int},A8j D->lkD pre D n=some q->q.1≠0
 | d :: D,pre,q,hk,h=>by
  rw [lkD] at h;split at h
  ·cases h;have:=hk d A0L;show d.kind≠0;omega
  ·exact C9u (fun x hx=>hk x (A0J _ hx)) h
theorem C9s {n:List UInt8}:∀ {M:List Md} {i:Nat} {q:Int × Int},lkM i M n=some q->q.1≠0
 | m :: M,i,q,h=>by
  rw [lkM] at h;split at h
  ·cases h;show (9:Int)≠0;decide
  ·exact C9s h
theorem C3n (D:List Dc) (M:List Md) (n:List UInt8) (hk:A8j D):(A6x ⟨D,M⟩ n).1=0↔D.any (fun d=>d.name == n)=false/\M.any (fun d=>d.name == n)=false:=by
 have hD:∀ (D pre:List Dc),lkD pre D n=none↔D.any (fun d=>d.name == n)=false:=by
  intro D
  induction D with
  | nil=>intro pre;simp [lkD]
  | cons d D ih =>
   intro pre;rw [lkD];by_cases h:d.name=n
   ·rw [if_pos h];simp [h]
   ·rw [if_neg h,ih];simp [h]
 have hM:∀ (M:List Md) (i:Nat),lkM i M n=none↔M.any (fun d=>d.name == n)=false:=by
  intro M
  induction M with
  | nil=>intro pre;simp [lkM]
  | cons d D ih =>
   intro pre;rw [lkM];by_cases h:d.name=n
   ·rw [if_pos h];simp [h]
   ·rw [if_neg h,ih];simp [h]
 rw [C9p, <- hD D [], <- hM M 0];dsimp only;cases h1:lkD [] D n with
 | some q =>
  have:=C9u hk h1;simp [this]
 | none =>
  cases h2:lkM 0 M n with
  | some q =>
   have:=C9s h2;simp [this]
  | none=>simp
end Go.Pb
namespace Go.Pb
variable [Go.Sym.Tab]
open Go.Sym
theorem C8j (r:List UInt8):∀ t:List UInt8,(∀ c∈t,32<=c.toNat/\c.toNat<=126)->quM (t.flatMap quB++34 :: r)=some (t,(t.flatMap quB).length+1)
 | [],_=>by rw [List.flatMap_nil,A1K,J1,if_pos (by rfl)];rfl
 | c :: t,h=>by
  have ih:=C8j r t fun x hx=>h x (A0J _ hx);have hc:=h c A0L;rw [A1F];unfold quB;split
  ·rename_i hq;simp only [A1N,A1K];rw [J1,if_neg (by decide),if_neg (by decide),if_pos (by rfl)];simp only;have ih:quM (t.flatMap quB++34 :: r)=some (t,(t.flatMap quB).length+1):=ih;unfold quB at ih;rw [if_pos hq,ih];rfl
  ·rename_i hq;simp only [A1N,A1K];have ih:quM (t.flatMap quB++34 :: r)=some (t,(t.flatMap quB).length+1):=ih;unfold quB at ih;rw [J1,if_neg (by omega),if_neg (by omega),if_neg (by omega),ih];rfl
end Go.Pb
namespace Go.Pb
variable [Go.Sym.Tab]
open Go.Sym
end Go.Pb
namespace Go.Pb
variable [Go.Sym.Tab]
open Go.Sym
def nxK (L:List UInt8) (n i:Nat):Nat × Nat:=if h:i<L.length then ((L[i]).toNat % n,i+1) else (0,i)
def A1w:List (List UInt8):=[[115,119,48],[99,111,105,108,48],[108,97,109,112,48],[118,48],[116,109,48],[101,118,48],[109,111,100,101,48],[110,111,110,101],[115,110,100,48],[115,104,111,119,48]]
def nmK (L:List UInt8) (w:Nat) (p:List UInt8) (n i:Nat):List UInt8 × Nat :=
 let a:=nxK L w i
 if 0<w/\a.1+1=w then
  let b:=nxK L 10 a.2
  (A1w.getD b.1 [],b.2)
 else
  let b:=nxK L n (if 0<w then a.2 else i)
  (p++G8 (b.1:Int),b.2)
theorem B5i (L:List UInt8) (n i:Nat):i<=(nxK L n i).2:=by unfold nxK;split<;>simp
theorem M8 (L:List UInt8) {n:Nat} (i:Nat) (h:0<n):(nxK L n i).1<n:=by
 unfold nxK;split
 ·exact Nat.mod_lt _ h
 ·exact h
abbrev Mk:=List UInt8 × Nat
def E2c:List (List UInt8):=[[50,49,52,55,52,56,51,54,52,55],[49,48,48,48,48,48,48],[54,53,53,51,54],[49,48,48,48,48,48]]
def C1z:List (List UInt8):=[[43],[45],[42],[47],[37]]
def C5w:List (List UInt8):=[[60],[60,61],[62],[62,61],[61,61],[33,61]]
def bl0 (L:List UInt8) (w i:Nat):Mk :=
 let k:=nxK L 5 i
 if k.1=0 then ([116,114,117,101],k.2)
 else if k.1=1 then ([102,97,108,115,101],k.2)
 else if k.1=2 then let a:=nmK L w [109,111,100,101] 3 k.2;([97,99,116,105,118,101,32]++a.1,a.2)
 else let a:=nmK L w [115,119] 4 k.2;([99,108,111,115,101,100,32]++a.1,a.2)
def in1 (L:List UInt8) (w i:Nat):Mk :=
 let k:=nxK L 7 i
 if k.1=0\/k.1=1 then nmK L w [118] 3 k.2
 else if k.1=2 then ([112,108,97,121,101,114],k.2)
 else if k.1=3 then ([98,97,108,108],k.2)
 else if k.1=4 then let a:=nmK L w [116,109] 2 k.2;([108,101,102,116,32]++a.1,a.2)
 else if k.1=5 then let j:=nxK L 4 k.2;(E2c.getD j.1 [],j.2)
 else let j:=nxK L 12 k.2;(G8 (j.1:Int),j.2)
def wlK (L:List UInt8) (w:Nat) (f g:Nat->Mk) (i:Nat):Mk :=
 let k:=nxK L (4 * w) i
 if 0<w/\k.1=1 then f k.2 else g (if 0<w then k.2 else i)
def in0 (L:List UInt8) (w:Nat):Nat->Mk:=wlK L w (bl0 L w) (in1 L w)
mutual
def inK (L:List UInt8) (w:Nat):Nat->Nat->Mk
 | 0,i=>in0 L w i
 | d+1,i=>wlK L w (blK L w d) (fun i =>
   let k:=nxK L 5 i
   if k.1=0 then in0 L w k.2
   else if k.1=1 then let a:=in0 L w k.2;([45]++a.1,a.2)
   else
    let a:=inK L w d k.2
    let c:=inK L w d a.2
    let o:=nxK L 5 c.2
    (((((([40]++a.1)++[32])++C1z.getD o.1 [])++[32])++c.1)++[41],o.2)) i
def blK (L:List UInt8) (w:Nat):Nat->Nat->Mk
 | 0,i=>bl0 L w i
 | d+1,i =>
  let k:=nxK L 6 i
  if k.1=0 then let a:=bl0 L w k.2;([33]++a.1,a.2)
  else if k.1=1 then
   let a:=blK L w d k.2
   let c:=blK L w d a.2
   (((([40]++a.1)++[32,38,38,32])++c.1)++[41],c.2)
  else if k.1=2 then
   let a:=blK L w d k.2
   let c:=blK L w d a.2
   (((([40]++a.1)++[32,124,124,32])++c.1)++[41],c.2)
  else
   let a:=inK L w d k.2
   let o:=nxK L 6 a.2
   let c:=inK L w d o.2
   (((a.1++[32])++C5w.getD o.1 [])++[32]++c.1,c.2)
end
end Go.Pb
namespace Go.Pb
variable [Go.Sym.Tab]
open Go.Sym
def bdB (c:UInt8):Bool := !ptB c && decide (c.toNat≠61) && decide (c.toNat≠38) && decide (c.toNat≠124)
def bd:List UInt8->Bool
 | []=>true
 | c :: _=>bdB c
theorem C4d {c:UInt8} (h:bdB c=true):ptB c=false/\c.toNat≠61/\c.toNat≠38/\c.toNat≠124:=by
 simpa [bdB,and_assoc] using h
theorem D7h {r:List UInt8} (hr:bd r=true):∀ c q,r=c :: q->ptB c=false:=fun c q e=>by subst e;exact (C4d hr).1
theorem E6m {r:List UInt8} (hr:bd r=true):∀ c q,r=c :: q->dgB c=false:=fun c q e=>by
 have:=D7h hr c q e;simp only [ptB,A4I] at this;exact this.1.2
theorem D1v {c d:UInt8} {q:List UInt8} (h:bd (d :: q)=true):A3o c d=false:=by
 obtain ⟨h0,h1,h2,h3⟩:=C4d h;unfold A3o;rw [A3Z];intro h4;simp at h4;omega
theorem C7j {p:UInt8->Bool}:∀ r:List UInt8,(∀ c q,r=c :: q->p c=false)->C1 p r=0
 | [],_=>rfl
 | c :: r,h=>by simp only [C1];rw [if_neg (by rw [h c r rfl];simp)]
theorem B0f {p:UInt8->Bool} {r:List UInt8} (hr:∀ c q,r=c :: q->p c=false):∀ s:List UInt8,C1 p (s.take (C1 p s)++r)=C1 p s
 | []=>by rw [show C1 p []=0 from rfl,A3T,A1K];exact C7j r hr
 | c :: s=>by
  by_cases h:p c=true
  ·have e:C1 p (c :: s)=C1 p s+1:=by simp only [C1];rw [if_pos h]
   rw [e,A0X,A1N];simp only [C1];rw [if_pos h,B0f hr s]
  ·have e:C1 p (c :: s)=0:=by simp only [C1];rw [if_neg h]
   rw [e,A3T,A1K];exact C7j r hr
theorem D2w {r:List UInt8} (hr:bd r=true):∀ {s:List UInt8},D7 s≠0->D7 (s.take (D7 s)++r)=D7 s
 | [],h=>absurd rfl h
 | [c],h=>by
  have ho:A3l c=true:=by
   cases ho:A3l c with
   | true=>rfl
   | false=>simp [D7,ho] at h
  have e:D7 [c]=1:=by simp [D7,ho]
  rw [e,A0X,A3T,A1N,A1K]
  match r,hr with
  | [],_=>exact e
  | d :: r,hr=>simp only [D7];rw [if_neg (by rw [D1v hr];simp),if_pos ho]
 | c :: d :: q,h=>by
  by_cases h2:A3o c d=true
  ·have e:D7 (c :: d :: q)=2:=by simp only [D7];rw [if_pos h2]
   rw [e,A0X,A0X,A3T];simp only [A1N,A1K,D7];rw [if_pos h2]
  ·have ho:A3l c=true:=by
    cases ho:A3l c with
    | true=>rfl
    | false=>simp only [D7] at h;rw [if_neg h2,if_neg (by rw [ho];simp)] at h;exact absurd rfl h
   have e:D7 (c :: d :: q)=1:=by simp only [D7];rw [if_neg h2,if_pos ho]
   rw [e,A0X,A3T,A1N,A1K]
   match r,hr with
   | [],_=>simp only [D7];rw [if_pos ho]
   | d :: r,hr=>simp only [D7];rw [if_neg (by rw [D1v hr];simp),if_pos ho]
theorem B3e {s r:List UInt8} (h:(A7 s).err=0) (hr:bd r=true):A7 (s.take (A7 s).n++r)=A7 s:=by
 cases s with
 | nil=>simp [A7,nxE] at h
 | cons c q =>
  obtain ⟨hn1,hn2⟩:=A1e h;obtain ⟨k,hk⟩:∃ k,(A7 (c :: q)).n=k+1:=⟨(A7 (c :: q)).n-1,by omega⟩;have hform:(c :: q).take (A7 (c :: q)).n++r=c :: (q.take k++r):=by rw [hk,A0X,A1N]
  have htk:(c :: (q.take k++r)).take (A7 (c :: q)).n=(c :: q).take (A7 (c :: q)).n:=by rw [<- hform];exact C7b hn2
  have hp:=B0f (p:=ptB) (D7h hr) (c :: q);have hg:=B0f (p:=dgB) (E6m hr) (c :: q);rw [hform];by_cases hl:ltB c=true
  ·by_cases h12:12<C1 ptB (c :: q)
   ·rw [A7,if_pos hl,if_pos h12] at h;simp [nxE] at h
   ·have e:A7 (c :: q)=⟨if E4 ((c :: q).take (C1 ptB (c :: q)))=true then 2 else 1,(c :: q).take (C1 ptB (c :: q)),0,C1 ptB (c :: q),0⟩:=by rw [A7,if_pos hl,if_neg h12]
    have en:(A7 (c :: q)).n=C1 ptB (c :: q):=by rw [e]
    rw [en] at hform htk;rw [hform] at hp;rw [A7,if_pos hl,hp,if_neg h12,htk,e]
  ·by_cases hd:dgB c=true
   ·by_cases h1:1<C1 dgB (c :: q)/\c.toNat=48
    ·rw [A7,if_neg hl,if_pos hd,if_pos h1] at h;simp [nxE] at h
    ·by_cases h2:2147483647<J2 ((c :: q).take (C1 dgB (c :: q)))
     ·rw [A7,if_neg hl,if_pos hd,if_neg h1,if_pos h2] at h;simp [nxE] at h
     ·have e:A7 (c :: q)=⟨3,[],(J2 ((c :: q).take (C1 dgB (c :: q))):Int),C1 dgB (c :: q),0⟩:=by rw [A7,if_neg hl,if_pos hd,if_neg h1,if_neg h2]
      have en:(A7 (c :: q)).n=C1 dgB (c :: q):=by rw [e]
      rw [en] at hform htk;rw [hform] at hg;rw [A7,if_neg hl,if_pos hd,hg,htk,if_neg h1,if_neg h2,e]
   ·by_cases h34:c.toNat=34
    ·cases hq:quM q with
     | none=>rw [A7,if_neg hl,if_neg hd,if_pos h34,hq] at h;simp [nxE] at h
     | some x =>
      obtain ⟨t,m⟩:=x;by_cases h32:32<t.length
      ·rw [A7,if_neg hl,if_neg hd,if_pos h34,hq] at h;simp only at h;rw [if_pos h32] at h;simp [nxE] at h
      ·have e:A7 (c :: q)=⟨4,t,0,m+1,0⟩:=by rw [A7,if_neg hl,if_neg hd,if_pos h34,hq];simp only;rw [if_neg h32]
       have en:m=k:=by rw [e] at hk;simp only at hk;omega
       subst en;rw [e,A7,if_neg hl,if_neg hd,if_pos h34,C0j r hq];simp only;rw [if_neg h32]
    ·by_cases hs:D7 (c :: q)=0
     ·rw [A7,if_neg hl,if_neg hd,if_neg h34,if_pos hs] at h;simp [nxE] at h
     ·have e:A7 (c :: q)=⟨5,(c :: q).take (D7 (c :: q)),0,D7 (c :: q),0⟩:=by rw [A7,if_neg hl,if_neg hd,if_neg h34,if_neg hs]
      have en:(A7 (c :: q)).n=D7 (c :: q):=by rw [e]
      have hsg:=D2w hr hs;rw [en] at hform htk;rw [hform] at hsg;rw [A7,if_neg hl,if_neg hd,if_neg h34,hsg,if_neg hs,htk,e]
abbrev T3:=Int × List UInt8 × Int
def st3 (t:Tok):T3:=(t.kind,t.text,t.value)
def Lk (r:List UInt8) (tr:List T3):Prop:=∀ (s:List UInt8) (k:Nat),s.drop k=r->∃ l,A0u s (k+skM false r) l/\l.map st3=tr
theorem D2a:Lk [] []:=by
 intro s k hs;have hl:s.length<=k:=by
  have:=congrArg List.length hs;simp at this;omega
 exact ⟨[],by show s.length<=k+0;omega,rfl⟩
theorem C2c {c:UInt8} {r:List UInt8} {tr:List T3} (hc:T9 c=true) (h:Lk r tr):Lk (c :: r) tr:=by
 intro s k hs;have e:skM false (c :: r)=skM false r+1:=by simp only [skM];rw [if_pos hc]
 rw [e];obtain ⟨l,h1,h2⟩:=h s (k+1) (by rw [<- A3J,hs];rfl);exact ⟨l,by rw [show k+(skM false r+1)=k+1+skM false r by omega];exact h1,h2⟩
theorem B6m {a r:List UInt8} {K V:Int} {T:List UInt8} {tr:List T3} (hx:A7 (a++r)=⟨K,T,V,a.length,0⟩) (ha:a≠[]) (h:Lk r tr):Lk (a++r) ((K,T,V) :: tr):=by
 intro s k hs;have h0:skM false (a++r)=0:=C3g (by rw [hx]);rw [h0,A3E];have hl:k<s.length:=by
  have:=congrArg List.length hs;have h2:0<a.length:=by cases a with|nil=>exact absurd rfl ha|cons _ _=>simp
  simp at this;omega
 have hd:s.drop (k+a.length)=r:=by rw [<- A3J,hs,List.drop_left]
 obtain ⟨l,h1,h2⟩:=h s _ hd;refine ⟨nxT (A7 (s.drop k)) (k:Int) :: l,⟨hl,by rw [hs,hx],rfl,by rw [hs,hx];dsimp only;rw [hd];exact h1⟩,?_⟩;rw [A0N,h2,hs,hx];rfl
theorem A0u.uniq {s:List UInt8}:∀ {k:Nat} {l l':List Tok},A0u s k l->A0u s k l'->l=l'
 | k,[],[],_,_=>rfl
 | k,[],t :: l',h,h'=>by have h:s.length<=k:=h;have:=h'.1;omega
 | k,t :: l,[],h,h'=>by have h':s.length<=k:=h';have:=h.1;omega
 | k,t :: l,t' :: l',h,h'=>by
  obtain ⟨-, -,h3,h4⟩:=h;obtain ⟨-, -,g3,g4⟩:=h';rw [h3,g3,A0u.uniq h4 g4]
def Pc (b:Bool) (p:List UInt8) (tp:List T3):Prop:=∀ r tr,(b=true->bd r=true)->Lk r tr->Lk (p++r) (tp++tr)
def A2z (b:Bool):Nat->List UInt8->Option (List T3)
 | 0,_=>none
 | _+1,[]=>some []
 | f+1,c :: s=>if T9 c=true then A2z b f s else
  let x:=A7 (c :: s)
  let q:=(c :: s).drop x.n
  if x.err=0/\1<=x.n/\x.n<=(c :: s).length/\bd q=true/\(q=[]->b=true) then (A2z b f q).map fun l=>(x.kind,x.text,x.value) :: l else none
theorem E2d {q r:List UInt8} (h:bd q=true) (h2:q=[]->bd r=true):bd (q++r)=true:=by
 cases q with
 | nil=>exact h2 rfl
 | cons c q=>exact h
theorem Y2 {b:Bool}:∀ (f:Nat) (s:List UInt8) (ts:List T3),A2z b f s=some ts->Pc b s ts
 | 0,s,ts,h=>by simp [A2z] at h
 | f+1,[],ts,h=>by
  simp only [A2z] at h;cases h;exact fun r tr _ hr=>hr
 | f+1,c :: s,ts,h=>by
  unfold A2z at h;split at h
  ·rename_i hc;have ih:=Y2 f s ts h;intro r tr hb hr;exact C2c hc (ih r tr hb hr)
  ·dsimp only at h;split at h
   ·rename_i hx;obtain ⟨h1,h2,h3,h4,h5⟩:=hx;obtain ⟨l,hl,rfl⟩:=A0M.1 h;have ih:=Y2 f _ l hl;intro r tr hb hr;have hbd:bd ((c :: s).drop (A7 (c :: s)).n++r)=true:=E2d h4 fun e=>hb (h5 e);have hn:=B3e h1 hbd;rw [<- A0U,A2Y] at hn;have hlen:((c :: s).take (A7 (c :: s)).n).length=(A7 (c :: s)).n:=by rw [A0T];omega
    have:=B6m (a:=(c :: s).take (A7 (c :: s)).n) (r:=(c :: s).drop (A7 (c :: s)).n++r) (K:=(A7 (c :: s)).kind) (T:=(A7 (c :: s)).text) (V:=(A7 (c :: s)).value) (tr:=l++tr)
     (by rw [<- A0U,A2Y,hn,hlen];revert h1;cases A7 (c :: s);intro h1;simp only at h1;rw [h1]) (fun e=>by rw [e] at hlen;simp at hlen;omega) (ih r tr hb hr)
    rw [<- A0U,A2Y] at this;exact this
   ·cases h
theorem Pc.app {b b':Bool} {p p':List UInt8} {t t':List T3} (h:Pc b p t) (h':Pc b' p' t') (hb:b=true->∀ r,(b'=true->bd r=true)->bd (p'++r)=true):Pc b' (p++p') (t++t'):=by
 intro r tr hr hl;rw [A0U,A0U];exact h _ _ (fun e=>hb e r hr) (h' r tr hr hl)
theorem Pc.lit {b b':Bool} {p:List UInt8} {c:UInt8} {q:List UInt8} {t t':List T3} (h:Pc b p t) (h':Pc b' (c :: q) t') (hc:bdB c=true):Pc b' (p++c :: q) (t++t'):=h.app h' fun _ _ _=>hc
theorem Pc.pre {b':Bool} {p p':List UInt8} {t t':List T3} (h:Pc false p t) (h':Pc b' p' t'):Pc b' (p++p') (t++t'):=h.app h' fun e=>by cases e
theorem A5t {c:UInt8} (h1:A3l c=true) (h2:(ltB c || dgB c || T9 c)=false) (h3:c.toNat≠34/\c.toNat≠35/\c.toNat≠60/\c.toNat≠62/\c.toNat≠61/\c.toNat≠33/\c.toNat≠38/\c.toNat≠124):Pc false [c] [(5,[c],0)]:=by
 intro r tr _ hr;have h2':ltB c=false/\dgB c=false/\T9 c=false:=by simpa [and_assoc] using h2
 obtain ⟨a1,a2,a3⟩:=h2';have ht:∀ d,A3o c d=false:=fun d=>by
  unfold A3o;rw [A3Z];intro h4;simp at h4;omega
 have hs:D7 (c :: r)=1:=by
  cases r with
  | nil=>simp only [D7];rw [if_pos h1]
  | cons d r=>simp only [D7];rw [if_neg (by rw [ht];simp),if_pos h1]
 have hn:A7 (c :: r)=⟨5,[c],0,1,0⟩:=by
  rw [A7,if_neg (by rw [a1];simp),if_neg (by rw [a2];simp),if_neg h3.1,hs,if_neg (by decide)];rfl
 exact B6m (a:=[c]) hn (by simp) hr
theorem D9s {d:UInt8} {p:List UInt8} {b:Bool} {t:List T3} (h:Pc b (d :: p) t) (hd:d.toNat≠61):Pc b (33 :: d :: p) ((5,[33],0) :: t):=by
 intro r tr hb hr;have hn:A7 (33 :: d :: (p++r))=⟨5,[33],0,1,0⟩:=by
  have hs:D7 (33 :: d :: (p++r))=1:=by
   simp only [D7];rw [if_neg (by unfold A3o;simp;omega),if_pos (by decide)]
  rw [A7,if_neg (by decide),if_neg (by decide),if_neg (by decide),hs,if_neg (by decide)];rfl
 exact B6m (a:=[33]) hn (by simp) (h r tr hb hr)
theorem Pc.toks {b:Bool} {s:List UInt8} {ts:List T3} (h:Pc b s ts) (h0:(C0 s).2.2=0):(C0 s).1.map st3=ts:=by
 have:=h [] [] (fun _=>rfl) D2a;rw [A1M,A1M] at this;obtain ⟨l,h1,h2⟩:=this s 0 rfl;rw [A1L] at h1;rw [(S5 h0).2.uniq h1,h2]
theorem Pc.scan {b:Bool} {s:List UInt8} {ts:List T3} (h:Pc b s ts) (hl:s.length<=20000):(C0 s).2.2=0:=by
 have:=h [] [] (fun _=>rfl) D2a;rw [A1M,A1M] at this;obtain ⟨l,h1,h2⟩:=this s 0 rfl;rw [A1L] at h1;rw [B7o hl h1]
end Go.Pb
set_option maxHeartbeats 1000000
namespace Go.Pb
variable [Go.Sym.Tab]
open Go.Sym
structure Rq (s m:Rd):Prop where
 i:s.i=m.i
 e:s.e=m.e
 ops:s.ops=m.ops
 par:s.par=m.par
def OR {α : Type} (R : α -> α -> Prop):Option (α × Rd)->Option (α × Rd)->Prop
 | none,none=>True
 | some x,some y=>R x.1 y.1/\Rq x.2 y.2
 | _,_=>False
theorem OR.cas {α : Type} {R : α -> α -> Prop} {a b:Option (α × Rd)} (h:OR R a b):(a=none/\b=none)\/∃ x s y m,a=some (x,s)/\b=some (y,m)/\R x y/\Rq s m:=by
 match a,b,h with
 | none,none,_=>exact .inl ⟨rfl,rfl⟩
 | some (x,s),some (y,m),h=>exact .inr ⟨x,s,y,m,rfl,rfl,h.1,h.2⟩
abbrev PE (e e':Ex):Prop:=e.plain=e'.plain
abbrev PS (e e':St):Prop:=e.plain=e'.plain
abbrev PL (e e':List St):Prop:=St.plains e=St.plains e'
theorem PE.mk {k v p p':Int} {n:List UInt8} {a a':List Ex} (h:Ex.plains a=Ex.plains a'):PE (.mk k v n a p) (.mk k v n a' p'):=by unfold PE;rw [Ex.plain,Ex.plain,h]
theorem PS.mk {k p p':Int} {n t:List UInt8} {a a':List Ex} {x x' y y':List St} (h:Ex.plains a=Ex.plains a') (hx:PL x x') (hy:PL y y'):PS (.mk k n t a x y p) (.mk k n t a' x' y' p'):=by
 unfold PS;rw [St.plain,St.plain,h,hx,hy]
theorem P3:PL [] []:=rfl
theorem ex1 {e e':Ex} (h:PE e e'):Ex.plains [e]=Ex.plains [e']:=by simp only [Ex.plains];rw [h]
theorem ex2 {e e' x x':Ex} (h:PE e e') (k:PE x x'):Ex.plains [e,x]=Ex.plains [e',x']:=by simp only [Ex.plains];rw [h,k]
theorem PL.snoc {l l':List St} {x x':St} (h:PL l l') (k:PS x x'):PL (l++[x]) (l'++[x']):=by
 unfold PL at *;rw [St.plains_map,St.plains_map] at *;rw [A0Z,A0Z,h,List.map_singleton,List.map_singleton,k]
theorem PL.len {l l':List St} (h:PL l l'):l.length=l'.length:=by rw [<- A0f l,h,A0f]
theorem Rq.ok {s m:Rd} (h:Rq s m):okR s=okR m:=by unfold okR;rw [h.e]
theorem Rq.refl (s:Rd):Rq s s:=⟨rfl,rfl,rfl,rfl⟩
theorem Rq.fail {s m:Rd} (h:Rq s m) (p p' e:Int):Rq (M0 s p e) (M0 m p' e):=by
 unfold M0;rw [h.ok];split
 ·exact ⟨h.i,rfl,h.ops,h.par⟩
 ·exact h
theorem Rq.nxt {s m:Rd} (h:Rq s m):Rq (A6 s) (A6 m):=⟨by show s.i+1=m.i+1;rw [h.i],h.e,h.ops,h.par⟩
section
variable {L L':List Tok} {E E':Int} (hL:L.map st3=L'.map st3)
include hL
theorem D8r:L.length=L'.length:=by have:=congrArg List.length hL;simpa using this
theorem A9h {s m:Rd} (h:Rq s m):st3 (A4 L E s)=st3 (A4 L' E' m):=by
 unfold A4;rw [<- h.i,A0S,A0S];have hi:=congrArg (fun l=>l[s.i]?) hL;simp only [A1C] at hi
 revert hi
 cases L[s.i]? with
 | none=>cases L'[s.i]? with
  | none=>intro _;rfl
  | some y=>intro hi;cases hi
 | some x=>cases L'[s.i]? with
  | none=>intro hi;cases hi
  | some y=>intro hi;exact Option.some.inj hi
theorem B4s {s m:Rd} (h:Rq s m):(A4 L E s).kind=(A4 L' E' m).kind:=congrArg (fun t:T3=>t.1) (A9h (E:=E) (E':=E') hL h)
theorem C2u {s m:Rd} (h:Rq s m):(A4 L E s).text=(A4 L' E' m).text:=congrArg (fun t:T3=>t.2.1) (A9h (E:=E) (E':=E') hL h)
theorem D8o {s m:Rd} (h:Rq s m):(A4 L E s).value=(A4 L' E' m).value:=congrArg (fun t:T3=>t.2.2) (A9h (E:=E) (E':=E') hL h)
theorem A6i {s m:Rd} (h:Rq s m) (x:List UInt8):isR L E s x=isR L' E' m x:=by
 unfold isR;rw [h.ok,B4s (E:=E) (E':=E') hL h,C2u (E:=E) (E':=E') hL h]
theorem B4t {s m:Rd} (h:Rq s m) (k:Int):F9 L E s k=F9 L' E' m k:=by
 unfold F9;rw [h.ok,B4s (E:=E) (E':=E') hL h]
theorem C2v {s m:Rd} (h:Rq s m):∀ (l:List (List UInt8)) (k:Nat),U9 L E s k l=U9 L' E' m k l
 | [],k=>rfl
 | t :: l,k=>by rw [U9,U9,A6i (E:=E) (E':=E') hL h,C2v h l]
theorem A5p {s m:Rd} (h:Rq s m) (l:List (List UInt8)):B6 L E s l=B6 L' E' m l:=C2v (E:=E) (E':=E') hL h l 0
theorem Rq.syn {s m:Rd} (h:Rq s m):Rq (P2 L E s) (P2 L' E' m):=h.fail _ _ _
theorem Rq.lim {s m:Rd} (h:Rq s m) (n most e:Int):Rq (B9 L E s n most e) (B9 L' E' m n most e):=by
 unfold B9;split
 ·exact h.fail _ _ _
 ·exact h
theorem Rq.exp {s m:Rd} (h:Rq s m) (x:List UInt8):Rq (C5 L E s x) (C5 L' E' m x):=by
 unfold C5;rw [A6i (E:=E) (E':=E') hL h];split
 ·exact h.syn hL
 ·exact h.nxt
theorem Rq.take {s m:Rd} (h:Rq s m) (k:Int):Rq (B1 L E s k).2 (B1 L' E' m k).2/\st3 (B1 L E s k).1=st3 (B1 L' E' m k).1:=by
 unfold B1;rw [B4t (E:=E) (E':=E') hL h];split
 ·exact ⟨h.syn hL,rfl⟩
 ·exact ⟨h.nxt,A9h (E:=E) (E':=E') hL h⟩
theorem A0e {s m:Rd} (h:Rq s m) (k:Int):(B1 L E s k).1.text=(B1 L' E' m k).1.text:=congrArg (fun t:T3=>t.2.1) (h.take hL k).2
theorem C2t {s m:Rd} (h:Rq s m) (k:Int):(B1 L E s k).1.value=(B1 L' E' m k).1.value:=congrArg (fun t:T3=>t.2.2) (h.take hL k).2
theorem D3c {s m:Rd} (h:Rq s m):PE (G0 L E s).1 (G0 L' E' m).1/\Rq (G0 L E s).2 (G0 L' E' m).2:=by
 unfold G0;dsimp only;have h1:Rq { s with ops:=s.ops+1 } { m with ops:=s.ops+1 }:=⟨h.i,h.e,rfl,h.par⟩;have h2:=h1.lim hL (s.ops+1) 32 9 (E:=E) (E':=E');rw [A5p (E:=E) (E':=E') hL h C9,B4t (E:=E) (E':=E') hL h 3,B4t (E:=E) (E':=E') hL h 1, <- h.ops];split
 ·exact ⟨rfl,h.syn hL⟩
 rw [h2.ok];split
 ·exact ⟨rfl,h2⟩
 split
 ·split
  ·rw [A0e (E:=E) (E':=E') hL h2.nxt 1];exact ⟨PE.mk rfl,(h2.nxt.take hL 1).1⟩
  ·exact ⟨PE.mk rfl,h2.nxt⟩
 rw [B4s (E:=E) (E':=E') hL h,D8o (E:=E) (E':=E') hL h,C2u (E:=E) (E':=E') hL h];split
 ·exact ⟨PE.mk rfl,h2.nxt⟩
 ·exact ⟨PE.mk rfl,h2.nxt⟩
theorem RE.all:∀ f:Nat,(∀ n s m,Rq s m->OR PE (F1 L E f n s) (F1 L' E' f n m))/\(∀ n e e' s m,PE e e'->Rq s m->OR PE (I5 L E f n e s) (I5 L' E' f n e' m))/\(∀ s m,Rq s m->OR PE (K9 L E f s) (K9 L' E' f m))
 | 0=>⟨fun _ _ _ _=>trivial,fun _ _ _ _ _ _ _=>trivial,fun _ _ _=>trivial⟩
 | f+1=>by
  obtain ⟨hb,hl,hu⟩:=RE.all f;refine ⟨fun n s m h=>?_,fun n e e' s m he h=>?_,fun s m h=>?_⟩
  ·rw [F1,F1];split
   ·exact hu s m h
   rcases (hb (n+1) s m h).cas with ⟨e1,e2⟩|⟨x,s1,y,m1,e1,e2,hx,h1⟩
   ·rw [e1,e2];trivial
   ·rw [e1,e2];exact hl n x y s1 m1 hx h1
  ·rw [I5,I5];dsimp only;rw [A5p (E:=E) (E':=E') hL h B7];split
   ·exact ⟨he,h⟩
   rcases (hb (n+1) _ _ h.nxt).cas with ⟨e1,e2⟩|⟨x,s1,y,m1,e1,e2,hx,h1⟩
   ·rw [e1,e2];trivial
   ·rw [e1,e2];dsimp only;have hp:PE (.mk (12+B6 L' E' m B7) 0 [] [e,x] (A4 L E s).pos) (.mk (12+B6 L' E' m B7) 0 [] [e',y] (A4 L' E' m).pos):=PE.mk (ex2 he hx);split
    ·exact ⟨hp,h1⟩
    ·exact hl n _ _ s1 m1 hp h1
  ·rw [K9,K9];dsimp only;have h2:=h.lim hL (s.par+1) 16 50 (E:=E) (E':=E');rw [A5p (E:=E) (E':=E') hL h K0, <- h.par];split
   ·exact D3c hL h
   rw [h2.ok];split
   ·exact ⟨rfl,h2⟩
   have h3:Rq { B9 L E s (s.par+1) 16 50 with i:=(B9 L E s (s.par+1) 16 50).i+1,par:=(B9 L E s (s.par+1) 16 50).par+1 } { B9 L' E' m (s.par+1) 16 50 with i:=(B9 L' E' m (s.par+1) 16 50).i+1,par:=(B9 L' E' m (s.par+1) 16 50).par+1 } :=
    ⟨by show _+1=_+1;rw [h2.i],h2.e,h2.ops,by show _+1=_+1;rw [h2.par]⟩
   split
   ·rcases (hb 1 _ _ h3).cas with ⟨e1,e2⟩|⟨x,s1,y,m1,e1,e2,hx,h1⟩
    ·rw [e1,e2];trivial
    ·rw [e1,e2];have h4:=h1.exp hL [41] (E:=E) (E':=E');exact ⟨hx,h4.i,h4.e,h4.ops,by show _-1=_-1;rw [h4.par]⟩
   ·rcases (hu _ _ h3).cas with ⟨e1,e2⟩|⟨x,s1,y,m1,e1,e2,hx,h1⟩
    ·rw [e1,e2];trivial
    ·rw [e1,e2];exact ⟨PE.mk (ex1 hx),h1.i,h1.e,h1.ops,by show _-1=_-1;rw [h1.par]⟩
theorem A4l {s m:Rd} (h:Rq s m) (f:Nat):OR PE (H7 L E f s) (H7 L' E' f m):=(RE.all hL f).1 1 _ _ ⟨h.i,h.e,rfl,rfl⟩
theorem D3b {s m:Rd} (h:Rq s m) (f:Nat) (k p p':Int):OR PS (G9 L E f k p s) (G9 L' E' f k p' m):=by
 unfold G9;split
 ·rcases (A4l hL h f (E:=E) (E':=E')).cas with ⟨e1,e2⟩|⟨x,s1,y,m1,e1,e2,hx,h1⟩
  ·rw [e1,e2];trivial
  ·rw [e1,e2];exact ⟨PS.mk (ex1 hx) P3 P3,h1.exp hL _⟩
 split
 ·rcases (A4l hL ((h.take hL 4).1.exp hL [44]) f (E:=E) (E':=E')).cas with ⟨e1,e2⟩|⟨x,s1,y,m1,e1,e2,hx,h1⟩
  ·rw [e1,e2];trivial
  ·rw [e1,e2,A0e (E:=E) (E':=E') hL h 4];exact ⟨PS.mk (ex1 hx) P3 P3,h1.exp hL _⟩
 split
 ·exact ⟨PS.mk rfl P3 P3,h.exp hL _⟩
 dsimp only;rw [A0e (E:=E) (E':=E') hL h 1];have h0:=(h.take hL 1 (E:=E) (E':=E')).1;split
 ·rcases (A4l hL h0 f (E:=E) (E':=E')).cas with ⟨e1,e2⟩|⟨x,s1,y,m1,e1,e2,hx,h1⟩
  ·rw [e1,e2];trivial
  rw [e1,e2];dsimp only;split
  ·rcases (A4l hL (h1.exp hL [44]) f (E:=E) (E':=E')).cas with ⟨e3,e4⟩|⟨x2,s2,y2,m2,e3,e4,hx2,h2⟩
   ·rw [e3,e4];trivial
   ·rw [e3,e4];exact ⟨PS.mk (ex2 hx hx2) P3 P3,h2.exp hL _⟩
  ·exact ⟨PS.mk (ex1 hx) P3 P3,h1.exp hL _⟩
 ·exact ⟨PS.mk rfl P3 P3,h0.exp hL _⟩
theorem RS.all:∀ f:Nat,(∀ d s m,Rq s m->OR PL (F6 L E f d s) (F6 L' E' f d m))/\(∀ d l l' s m,PL l l'->Rq s m->OR PL (J3 L E f d l s) (J3 L' E' f d l' m)) /\
  (∀ d s m,Rq s m->OR PS (K7 L E f d s) (K7 L' E' f d m))/\(∀ d s m,Rq s m->OR PL (N5 L E f d s) (N5 L' E' f d m))
 | 0=>⟨fun _ _ _ _=>trivial,fun _ _ _ _ _ _ _=>trivial,fun _ _ _ _=>trivial,fun _ _ _ _=>trivial⟩
 | f+1=>by
  obtain ⟨hb,hl,hs,ho⟩:=RS.all f;refine ⟨fun d s m h=>?_,fun d l l' s m he h=>?_,fun d s m h=>?_,fun d s m h=>?_⟩
  ·rw [F6,F6];exact hl d [] [] _ _ P3 (h.exp hL _)
  ·rw [J3,J3,h.ok,A6i (E:=E) (E':=E') hL h,he.len];split
   ·rw [A5p (E:=E) (E':=E') hL h,B4t (E:=E) (E':=E') hL h];split
    ·exact ⟨P3,h.syn hL⟩
    rcases (hs d _ _ (h.lim hL ((l'.length:Int)+1) 64 9)).cas with ⟨e1,e2⟩|⟨x,s1,y,m1,e1,e2,hx,h1⟩
    ·rw [e1,e2];trivial
    ·rw [e1,e2];exact hl d _ _ s1 m1 (he.snoc hx) h1
   ·exact ⟨he,h.exp hL _⟩
  ·rw [K7,K7];dsimp only;have h0:=h.lim hL d 8 50 (E:=E) (E':=E');rw [h0.ok];split
   ·exact ⟨rfl,h0⟩
   generalize B9 L E s d 8 50=s0 at h0 ⊢;generalize B9 L' E' m d 8 50=m0 at h0 ⊢;rw [A5p (E:=E) (E':=E') hL h0 B3];split
   ·rcases (A4l hL ((h0.take hL 1).1.exp hL [61]) f (E:=E) (E':=E')).cas with ⟨e1,e2⟩|⟨x,s1,y,m1,e1,e2,hx,h1⟩
    ·rw [e1,e2];trivial
    ·rw [e1,e2,A0e (E:=E) (E':=E') hL h0 1];exact ⟨PS.mk (ex1 hx) P3 P3,h1.exp hL _⟩
   split
   ·rcases (A4l hL h0.nxt f (E:=E) (E':=E')).cas with ⟨e1,e2⟩|⟨x,s1,y,m1,e1,e2,hx,h1⟩
    ·rw [e1,e2];trivial
    rw [e1,e2];dsimp only;rcases (hb (d+1) s1 m1 h1).cas with ⟨e3,e4⟩|⟨t,s2,t',m2,e3,e4,ht,h2⟩
    ·rw [e3,e4];trivial
    rw [e3,e4];dsimp only;rw [A6i (E:=E) (E':=E') hL h2];split
    ·rcases (ho d _ _ h2.nxt).cas with ⟨e5,e6⟩|⟨o,s3,o',m3,e5,e6,hoo,h3⟩
     ·rw [e5,e6];trivial
     ·rw [e5,e6];exact ⟨PS.mk (ex1 hx) ht hoo,h3⟩
    ·exact ⟨PS.mk (ex1 hx) ht P3,h2⟩
   ·exact D3b hL h0.nxt f _ _ _
  ·rw [N5,N5,A6i (E:=E) (E':=E') hL h];split
   ·rcases (hs (d+1) s m h).cas with ⟨e1,e2⟩|⟨x,s1,y,m1,e1,e2,hx,h1⟩
    ·rw [e1,e2];trivial
    ·rw [e1,e2];exact ⟨by show St.plains [x]=St.plains [y];simp only [St.plains];rw [hx],h1⟩
   ·exact hb (d+1) s m h
abbrev PD (d d':Dc):Prop:=d.plain=d'.plain
abbrev PDs (d d':List Dc):Prop:=d.map Dc.plain=d'.map Dc.plain
abbrev PHs (d d':List Hd):Prop:=d.map Hd.plain=d'.map Hd.plain
abbrev PMs (d d':List Md):Prop:=d.map Md.plain=d'.map Md.plain
omit hL in
theorem B5m {α : Type} {f : α -> α} {l l':List α} {x x' : α} (h:l.map f=l'.map f) (k:f x=f x'):(l++[x]).map f=(l'++[x']).map f:=by simp [h,k]
omit hL in
theorem C0w {α : Type} {f : α -> α} {l l':List α} (h:l.map f=l'.map f):l.length=l'.length:=by have:=congrArg List.length h;simpa using this
theorem D8s {s m:Rd} (h:Rq s m) (k:Int):PD (Q7 L E k s).1 (Q7 L' E' k m).1/\Rq (Q7 L E k s).2 (Q7 L' E' k m).2:=by
 unfold Q7;dsimp only;have h1:=h.nxt;have h2:=(h1.take hL 1 (E:=E) (E':=E')).1;rw [A0e (E:=E) (E':=E') hL h1 1];split
 ·rw [A6i (E:=E) (E':=E') hL h2];generalize hb:(k+1 == 6 && isR L' E' (B1 L' E' (A6 m) 1).2 [45])=b;have h3:Rq (if b=true then A6 (B1 L E (A6 s) 1).2 else (B1 L E (A6 s) 1).2) (if b=true then A6 (B1 L' E' (A6 m) 1).2 else (B1 L' E' (A6 m) 1).2):=by
   cases b
   ·exact h2
   ·exact h2.nxt
  refine ⟨?_,(h3.take hL 3).1.exp hL _⟩;unfold PD Dc.plain;dsimp only;rw [C2t (E:=E) (E':=E') hL h3 3]
 ·exact ⟨rfl,h2.exp hL _⟩
theorem C8a:∀ (f:Nat) (l l':List Hd) (s m:Rd),PHs l l'->Rq s m->OR PHs (K5 L E f l s) (K5 L' E' f l' m)
 | 0,_,_,_,_,_,_=>trivial
 | f+1,l,l',s,m,he,h=>by
  rw [K5,K5,h.ok,A6i (E:=E) (E':=E') hL h];split
  ·rw [A6i (E:=E) (E':=E') hL h [111,110]];split
   ·exact ⟨he,h.syn hL⟩
   dsimp only;rw [C0w he];have h1:=h.lim hL ((l'.length:Int)+1) 32 9 (E:=E) (E':=E');generalize B9 L E s ((l'.length:Int)+1) 32 9=s1 at h1 ⊢;generalize B9 L' E' m ((l'.length:Int)+1) 32 9=m1 at h1 ⊢;have h2:=h1.exp hL [111,110] (E:=E) (E':=E');rw [A5p (E:=E) (E':=E') hL h2];split
   ·exact ⟨he,h2.syn hL⟩
   have h3:=h2.nxt;rw [A0e (E:=E) (E':=E') hL h3 1];generalize hk:B6 L' E' (C5 L' E' m1 [111,110]) C8=k;have h4:Rq (if 2<=k then (B1 L E (A6 (C5 L E s1 [111,110])) 1).2 else A6 (C5 L E s1 [111,110])) (if 2<=k then (B1 L' E' (A6 (C5 L' E' m1 [111,110])) 1).2 else A6 (C5 L' E' m1 [111,110])):=by
    split
    ·exact (h3.take hL 1).1
    ·exact h3
   rcases ((RS.all hL f (E:=E) (E':=E')).1 1 _ _ h4).cas with ⟨e1,e2⟩|⟨x,s5,y,m5,e1,e2,hx,h5⟩
   ·rw [e1,e2];trivial
   ·rw [e1,e2];refine C8a f _ _ _ _ (B5m he ?_) h5;unfold Hd.plain;dsimp only;rw [hx]
  ·exact ⟨he,h.exp hL _⟩
abbrev PM (a b:Md):Prop:=a.plain=b.plain
theorem D8q {s m:Rd} (h:Rq s m) (f:Nat):OR PM (A0l L E f s) (A0l L' E' f m):=by
 unfold A0l;dsimp only;have h1:=h.exp hL [109,111,100,101] (E:=E) (E':=E');have h2:=(h1.take hL 1 (E:=E) (E':=E')).1;have h3:=(h2.take hL 3 (E:=E) (E':=E')).1;rw [A0e (E:=E) (E':=E') hL h1 1,C2t (E:=E) (E':=E') hL h2 3];rcases (C8a hL f [] [] _ _ rfl (h3.exp hL [123]) (E:=E) (E':=E')).cas with ⟨e1,e2⟩|⟨x,s5,y,m5,e1,e2,hx,h5⟩
 ·rw [e1,e2];trivial
 ·rw [e1,e2];refine ⟨?_,h5⟩;unfold PM Md.plain;dsimp only;rw [hx]
theorem C0d:∀ (f:Nat) (l l':List Dc) (s m:Rd),PDs l l'->Rq s m->OR PDs (J9 L E f l s) (J9 L' E' f l' m)
 | 0,_,_,_,_,_,_=>trivial
 | f+1,l,l',s,m,he,h=>by
  rw [J9,J9];dsimp only;rw [A5p (E:=E) (E':=E') hL h];split
  ·exact ⟨he,h⟩
  rw [C0w he];have h1:=h.lim hL ((l'.length:Int)+1) 128 9 (E:=E) (E':=E');rw [h1.ok];split
  ·have h2:=D8s hL h1 (B6 L' E' m C3) (E:=E) (E':=E');exact C0d f _ _ _ _ (B5m he h2.1) h2.2
  ·exact C0d f _ _ _ _ he h1
theorem C0c:∀ (f:Nat) (l l':List Md) (s m:Rd),PMs l l'->Rq s m->OR PMs (I9 L E f l s) (I9 L' E' f l' m)
 | 0,_,_,_,_,_,_=>trivial
 | f+1,l,l',s,m,he,h=>by
  rw [I9,I9,h.ok,h.i,D8r hL];split
  ·rw [A6i (E:=E) (E':=E') hL h];split
   ·exact ⟨he,h.syn hL⟩
   dsimp only;rw [C0w he];have h1:=h.lim hL ((l'.length:Int)+1) 16 9 (E:=E) (E':=E');rw [h1.ok];split
   ·rcases (D8q hL h1 f (E:=E) (E':=E')).cas with ⟨e1,e2⟩|⟨x,s5,y,m5,e1,e2,hx,h5⟩
    ·rw [e1,e2];trivial
    ·rw [e1,e2];exact C0c f _ _ _ _ (B5m he hx) h5
   ·exact C0c f _ _ _ _ he h1
  ·exact ⟨he,h⟩
theorem D8p (f:Nat) {s m:Rd} (h:Rq s m):OR (fun a b:Ru=>a.plain=b.plain) (Y8 L E f s) (Y8 L' E' f m):=by
 unfold Y8;rcases (C0d hL f [] [] _ _ rfl h (E:=E) (E':=E')).cas with ⟨e1,e2⟩|⟨x,s5,y,m5,e1,e2,hx,h5⟩
 ·rw [e1,e2];trivial
 rw [e1,e2];dsimp only;rcases (C0c hL f [] [] _ _ rfl h5 (E:=E) (E':=E')).cas with ⟨e3,e4⟩|⟨x2,s6,y2,m6,e3,e4,hx2,h6⟩
 ·rw [e3,e4];trivial
 rw [e3,e4];refine ⟨?_,h6⟩;unfold Ru.plain;dsimp only;rw [hx,hx2]
theorem C7x:(A0y L E).1.plain=(A0y L' E').1.plain/\Rq (A0y L E).2 (A0y L' E').2:=by
 obtain ⟨N,h1⟩:=A2s L E;obtain ⟨N',h2⟩:=A2s L' E';have h:=D8p hL (E:=E) (E':=E') (max N N') (Rq.refl rd0);have a1:Y8 L E (max N N') rd0=some _:=h1 _ (Nat.le_max_left ..);have a2:Y8 L' E' (max N N') rd0=some _:=h2 _ (Nat.le_max_right ..);rw [a1,a2] at h;exact h
end
end Go.Pb
namespace Go.Pb
variable [Go.Sym.Tab]
open Go.Sym
theorem D1h {d:Nat} (h:d<10):dgB (W0 d)=true/\(W0 d).toNat=48+d:=by
 have e:(W0 d).toNat=48+d:=by unfold W0;simp;omega
 exact ⟨by simp [dgB,e];omega,e⟩
theorem C5s:∀ (m n:Nat),n<m->(∀ c∈A5e n,dgB c=true)/\J2 (A5e n)=n/\∃ c r,A5e n=c :: r/\(0<n->c.toNat≠48):=by
 intro m
 induction m with
 | zero=>intro n h;omega
 | succ m ih =>
  intro n h;by_cases h0:n<10
  ·obtain ⟨h1,h2⟩:=D1h h0;rw [A1k h0];refine ⟨fun c hc=>by rw [A0R.1 hc];exact h1,?_,_,_,rfl,fun hp=>by omega⟩;show 10 * 0+((W0 n).toNat-48)=n;omega
  ·obtain ⟨i1,i2,c,r,i3,i4⟩:=ih (n / 10) (by omega);obtain ⟨h1,h2⟩:=D1h (d:=n % 10) (by omega);rw [A4x h0];refine ⟨fun c hc=>?_,?_,c,r++[W0 (n % 10)],by rw [i3];rfl,fun _=>i4 (by omega)⟩
   ·rcases A1A.1 hc with hc|hc
    ·exact i1 c hc
    ·rw [A0R.1 hc];exact h1
   ·rw [B7z,i2,h2];omega
theorem C2l {p:UInt8->Bool}:∀ {s:List UInt8},(∀ c∈s,p c=true)->C1 p s=s.length
 | [],_=>rfl
 | c :: r,h=>by
  rw [C1,if_pos (h c A0L),C2l fun x hx=>h x (A0J _ hx)];rfl
def LxT (t:Tok):Prop:=Pc true (K4 t) [st3 t]
theorem C9o {t:Tok} (h:A7 (K4 t)=⟨t.kind,t.text,t.value,(K4 t).length,0⟩) (h0:K4 t≠[]):LxT t:=fun r tr hb hr=>by
 have h1:=B3e (s:=K4 t) (r:=r) (by rw [h]) (hb rfl);rw [h] at h1;dsimp only at h1;rw [A0O (A0H _)] at h1;exact B6m h1 h0 hr
theorem D4j {n:List UInt8} (h:C2 n=true):LxT ⟨1,n,0,0⟩:=by
 refine C9o (t:=⟨1,n,0,0⟩) ?_ ?_
 ·show A7 n=⟨1,n,0,n.length,0⟩;unfold C2 at h;simp only [A0D,A0G,A3C] at h;obtain ⟨⟨⟨⟨h1,h2⟩,h3⟩,h4⟩,h5⟩:=h;cases n with
  | nil=>simp at h1
  | cons c r =>
   have h3:ltB c=true:=h3;rw [A7,if_pos h3,h4,if_neg (by omega),A3H,h5];rfl
 ·rintro rfl;exact absurd h (by decide)
theorem E0l {v:Int} (h0:0<=v) (h1:v<=2147483647):LxT ⟨3,[],v,0⟩:=by
 obtain ⟨d1,d2,c,r,d3,d4⟩:=C5s (v.toNat+1) v.toNat (by omega);have ho:K4 ⟨3,[],v,0⟩=A5e v.toNat:=by
  show G8 v=_;unfold G8;rw [if_neg (by omega)]
  congr 1
  omega
 refine C9o (t:=⟨3,[],v,0⟩) ?_ (by rw [ho,d3];simp);rw [ho];have hc:dgB c=true:=d1 c (by rw [d3];exact A0L);have hl:ltB c=false:=by
  cases hz:ltB c with
  | false=>rfl
  | true=>simp only [ltB,dgB,A0W,A0D,A0G] at hz hc;omega
 have hs:=C2l d1;rw [d3] at hs d2 ⊢;rw [A7,if_neg (by rw [hl];decide),if_pos hc,hs,A3H,d2,if_neg ?_,if_neg (by omega)]
 ·rw [Int.toNat_of_nonneg h0]
 ·rintro ⟨g1,g2⟩;by_cases hv:0<v.toNat
  ·exact d4 hv g2
  ·have:v.toNat=0:=by omega
   rw [this,A1k (by decide)] at d3;cases d3;simp at g1
theorem E0k {x:List UInt8} (h:N7 x=true):LxT ⟨4,x,0,0⟩:=by
 unfold N7 at h;rw [A0D,A0G] at h;have hq:=C8j [] x fun c hc=>by
  have:=A0Q.1 h.1 c hc;simpa [txB] using this
 refine C9o (t:=⟨4,x,0,0⟩) ?_ (by show 34 :: _≠[];simp);show A7 (34 :: (x.flatMap quB++[34]))=⟨4,x,0,(34 :: (x.flatMap quB++[34])).length,0⟩;rw [A7,if_neg (by decide),if_neg (by decide),if_pos (by rfl),hq];dsimp only;rw [if_neg (by omega)];simp
def kwL:List (List UInt8):=C3++C8++B3++B7++C9++K0++[[41],[59],[44],[61],[123],[125],[101,108,115,101],[109,111,100,101],[111,110]]
theorem E0o:∀ w∈kwL,A2z true 100 w=some [st3 (A5 w)]:=by decide +kernel
theorem D4i {w:List UInt8} (h:w∈kwL):LxT (A5 w):=by
 have:=Y2 (b:=true) _ _ _ (E0o w h);unfold LxT;rw [K3];exact this
structure Clv (Q:Tok->Prop):Prop where
 w:∀ x∈kwL,Q (A5 x)
 n:∀ x,C2 x=true->Q ⟨1,x,0,0⟩
 v:∀ x,0<=x->x<=2147483647->Q ⟨3,[],x,0⟩
 t:∀ x,N7 x=true->Q ⟨4,x,0,0⟩
theorem E1y:Clv LxT:=⟨fun _ h=>D4i h,fun _ h=>D4j h,fun _ h1 h2=>E0l h1 h2,fun _ h=>E0k h⟩
theorem D4r:∀ j:Nat,j<13->B7.getD j []∈kwL:=by decide +kernel
theorem D4q:∀ j:Nat,j<18->B3.getD j []∈kwL:=by decide +kernel
theorem D4s:∀ j:Nat,j<8->C3.getD j []∈kwL:=by decide +kernel
theorem D4p:∀ j:Nat,j<6->C8.getD j []∈kwL:=by decide +kernel
section
variable {Q:Tok->Prop} (C:Clv Q)
include C
theorem v_w {x:List UInt8} (h:x∈kwL):E6 Q [A5 x]:=fun t ht=>by obtain rfl:=A0R.1 ht;exact C.w x h
theorem v_n {x:List UInt8} (h:C2 x=true):E6 Q (D1 x):=fun t ht=>by
 unfold D1 at ht;rw [if_neg (by rw [h];decide)] at ht;obtain rfl:=A0R.1 ht;exact C.n x h
theorem v_v {x:Int} (h0:0<=x) (h1:x<=2147483647):E6 Q (X2 x):=fun t ht=>by
 unfold X2 at ht;rw [if_neg (by omega)] at ht;obtain rfl:=A0R.1 ht;exact C.v x h0 h1
theorem v_t {x:List UInt8} (h:N7 x=true):E6 Q (A1c x):=fun t ht=>by
 unfold A1c at ht;unfold N7 at h;have h':=h;rw [A0D,A0G] at h;rw [if_neg (by rintro (g|g)<;>first|(rw [h.1] at g;cases g)|omega)] at ht
 obtain rfl:=A0R.1 ht;exact C.t x h'
theorem va {a b:List Tok} (h1:E6 Q a) (h2:E6 Q b):E6 Q (a++b):=fun t ht=>by
 rcases A1A.1 ht with h|h
 ·exact h1 t h
 ·exact h2 t h
theorem B9n {q:Int × List Tok} {m:Int} (h:E6 Q q.2):E6 Q (E1 q m):=by
 unfold E1;split
 ·exact va C (va C (v_w C (by decide)) h) (v_w C (by decide))
 ·exact h
theorem D7s:∀ (m:Nat) (e:Ex),e.sz<m->(∃ o d,msM e=some (o,d))->E6 Q (exT e):=by
 intro m
 induction m with
 | zero=>intro e h;omega
 | succ m ih =>
 rintro ⟨k,v,n,a,p⟩ hm ⟨o,d,hms⟩;obtain ⟨h1,h2,h3,h4,h5,h6⟩:=B5l hms;have hlr:=Z9 k;have hcnt:I0 k=if B4 k=6 then 1 else if B4 k<6 then 2 else 0:=rfl
 rw [A8c];unfold F4;dsimp only;have hvl:k=1->0<=v/\v<=2147483647:=fun hk=>by
  unfold A0w at h4;simp only [A0W,A0D,A1G,A0G] at h4;omega
 have hnm:k=2\/A1t k=true->C2 n=true:=fun hk=>by unfold A0j at h3;rw [if_pos hk] at h3;exact h3
 by_cases k1:k=1
 ·rw [if_pos k1];exact v_v C (hvl k1).1 (hvl k1).2
 rw [if_neg k1];by_cases k2:k=2
 ·rw [if_pos k2];exact v_n C (hnm (.inl k2))
 rw [if_neg k2];by_cases k3:k=3
 ·rw [if_pos k3];exact v_w C (by decide)
 rw [if_neg k3];by_cases k4:k=4
 ·rw [if_pos k4];exact v_w C (by decide)
 rw [if_neg k4];by_cases k8:k=8
 ·rw [if_pos k8];exact v_w C (by decide)
 rw [if_neg k8];by_cases k9:k=9
 ·rw [if_pos k9];exact v_w C (by decide)
 rw [if_neg k9];by_cases k5:k=5
 ·rw [if_pos k5];exact va C (v_w C (by decide)) (v_n C (hnm (.inr (by subst k5;rfl))))
 rw [if_neg k5];by_cases k6:k=6
 ·rw [if_pos k6];exact va C (v_w C (by decide)) (v_n C (hnm (.inr (by subst k6;rfl))))
 rw [if_neg k6];by_cases k7:k=7
 ·rw [if_pos k7];exact va C (v_w C (by decide)) (v_n C (hnm (.inr (by subst k7;rfl))))
 rw [if_neg k7];have hlev:B4 k<7:=by
  unfold kOk at h1;simp only [A0W,A0D,A0G] at h1;rcases h1 with h1|h1
  ·exact h1
  ·unfold B4;repeat' split
   all_goals omega
 have hkr:=B5s hlev;have hc0:I0 k≠0:=by
  rw [hcnt];by_cases g:B4 k=6
  ·rw [if_pos g];decide
  ·rw [if_neg g,if_pos (by omega)];decide
 obtain ⟨d',hml, -⟩:=h6 hc0;have hargs:∀ x∈a,E6 Q (exT x):=fun x hx=>ih x (by have:=Ex.sz_arg (e:=.mk k v n a p) hx;omega) (B0s hml x hx);by_cases g:B4 k=6
 ·rw [hcnt,if_pos g] at h2;obtain ⟨x,rfl⟩:∃ x,a=[x]:=A2D.1 h2;simp only [A0N,A1Z];rw [if_pos g];refine va C ?_ (B9n C (hargs x A0L));by_cases h10:k=10
  ·rw [if_pos h10];exact v_w C (by decide)
  ·rw [if_neg h10];exact v_w C (by decide)
 ·rw [hcnt,if_neg g,if_pos (by omega)] at h2;obtain ⟨x,y,rfl⟩:=B5t h2;simp only [A0N,A1Z];rw [if_pos (by omega)];refine va C (va C (B9n C (hargs x A0L)) (v_w C (D4r _ ?_))) (B9n C (hargs y (A0J _ A0L)));have:k≠10/\k≠11:=⟨fun h=>g (Z3 (.inl h)),fun h=>g (Z3 (.inr h))⟩;omega
theorem E2r {e:Ex} (h:V1 e=true):E6 Q (exT e):=by
 refine D7s C (e.sz+1) e (A2H _) ?_;unfold V1 at h;split at h
 ·rename_i o d hm;exact ⟨o,d,hm⟩
 ·cases h
theorem B9o {l:List Ex} {i:Nat} (h:l.all V1=true) (hi:i<l.length):E6 Q (agT l i):=by
 unfold agT;rw [A0E hi];exact E2r C (A0Q.1 h _ (A1B hi))
theorem A7o {α : Type} {f : α -> List Tok} {l:List α} (h:∀ x∈l,E6 Q (f x)):E6 Q (l.flatMap f):=fun t ht=>by
 obtain ⟨x,hx,ht⟩:=List.mem_flatMap.1 ht;exact h x hx t ht
omit C in
theorem C2d {d:Nat}:∀ {l:List St},J5 d l=true->∀ x∈l,R2 d x=true
 | s :: l,h,x,hx=>by
  rw [J5,A0D] at h;rcases A1D.1 hx with rfl|hx
  ·exact h.1
  ·exact C2d h.2 x hx
omit C in
theorem B0a {d:Nat} {l:List St} (h:O8 l d=true):∀ x∈l,R2 d x=true:=by
 unfold O8 at h;rw [A0D] at h;exact C2d h.2
theorem D7r:∀ (m:Nat) (s:St),s.sz<m->∀ d,R2 d s=true->E6 Q (stT s):=by
 intro m
 induction m with
 | zero=>intro e h;omega
 | succ m ih =>
 rintro ⟨k,n,t,a,x,y,p⟩ hm d hv;obtain ⟨⟨k1,k2⟩,⟨ha,hav⟩,⟨hn,ht⟩,⟨hx,hy⟩,hbx,hby⟩:=B9i hv;rw [St.sz] at hm;have hxs:E6 Q (O9 x):=by rw [S4];exact A7o C fun s hs=>ih s (by have:=St.szs_mem hs;omega) _ (B0a hbx s hs)
 have hys:∀ s∈y,E6 Q (stT s):=fun s hs=>ih s (by have:=St.szs_mem hs;omega) _ (B0a hby s hs);have hyt:E6 Q (O9 y):=by rw [S4];exact A7o C hys
 have hel:E6 Q [A5 [101,108,115,101]]:=v_w C (by decide);have o1:E6 Q [A5 [123]]:=v_w C (by decide);have o2:E6 Q [A5 [125]]:=v_w C (by decide);have o3:E6 Q [A5 [59]]:=v_w C (by decide);have o4:E6 Q [A5 [44]]:=v_w C (by decide);have o5:E6 Q [A5 [61]]:=v_w C (by decide);rw [stT];by_cases c1:k=1
 ·subst c1;rw [if_pos rfl];exact va C (va C (va C (v_n C hn) o5) (B9o C hav (by rw [ha];decide))) o3
 rw [if_neg c1,if_neg (by omega)];dsimp only;have w0:E6 Q [A5 (B3.getD (k-2).toNat [])]:=v_w C (D4q _ (by omega));generalize A5 (B3.getD (k-2).toNat [])=w at w0;by_cases c23:k=2\/k=3
 ·rw [if_pos c23];have h0:E6 Q ([w]++agT a 0++([A5 [123]]++O9 x++[A5 [125]])) :=
   va C (va C w0 (B9o C hav (by rw [ha];rcases c23 with rfl|rfl<;>decide))) (va C (va C o1 hxs) o2)
  match y,hys,hyt with
  | [],_,_=>exact h0
  | [s],hys,_ =>
   dsimp only;split
   ·exact va C (va C h0 hel) (hys s A0L)
   ·exact va C (va C h0 hel) (va C (va C o1 (hys s A0L)) o2)
  | s :: s2 :: r,_,hyt=>exact va C (va C h0 hel) (va C (va C o1 hyt) o2)
 rw [if_neg c23];by_cases c4:k=4
 ·subst c4;rw [if_pos rfl];exact va C (va C w0 (B9o C hav (by rw [ha];decide))) o3
 rw [if_neg c4];by_cases c18:k=18
 ·subst c18;rw [if_pos rfl];exact va C (va C (va C (va C w0 (v_t C ht)) o4) (B9o C hav (by rw [ha];decide))) o3
 rw [if_neg c18];by_cases c8:k=8\/k=10
 ·rw [if_pos c8];have hn':C2 n=true:=by rcases c8 with rfl|rfl<;>exact hn
  exact va C (va C (va C w0 (v_n C hn')) (B9o C hav (by rw [ha];rcases c8 with rfl|rfl<;>decide))) o3
 rw [if_neg c8];by_cases c9:k=9
 ·subst c9;rw [if_pos rfl];exact va C (va C (va C (va C (va C w0 (v_n C hn)) (B9o C hav (by rw [ha];decide))) o4) (B9o C hav (by rw [ha];decide))) o3
 rw [if_neg c9];by_cases c19:k=19
 ·rw [if_pos c19];exact va C w0 o3
 rw [if_neg c19];have hsh:=B2t (k:=k) c1 (by omega) (by omega) c4 (by omega) c9 (by omega) c18 c19;rw [hsh] at hn;exact va C (va C w0 (v_n C hn)) o3
theorem E2u {l:List St} {d:Nat} (h:O8 l d=true):E6 Q (blT l):=by
 rw [blT,S4];exact va C (va C (v_w C (by decide)) (A7o C fun s hs=>D7r C (s.sz+1) s (A2H _) d (B0a h s hs))) (v_w C (by decide))
theorem E2t {d:Dc} (h:A1q d=true):E6 Q (dcT d):=by
 unfold A1q at h;simp only [A0D,A0G] at h;obtain ⟨⟨⟨⟨h1,h2⟩,h3⟩,h4⟩,h5⟩:=h;unfold dcT;rw [if_neg (by omega)];dsimp only;have w0:E6 Q [A5 (C3.getD (d.kind-1).toNat [])]:=v_w C (D4s _ (by omega));refine va C ?_ (v_w C (by decide));have w1:=va C w0 (v_n C h3);split
 ·exact w1
 split
 ·exact va C (va C w1 (v_w C (by decide))) (v_v C (by omega) (by omega))
 ·refine va C w1 (v_v C ?_ ?_)
  ·by_cases h6:d.kind=6
   ·rw [if_pos h6] at h4;rename_i g1 g2;exact Classical.byContradiction fun hz=>g2 ⟨by omega,h4,h6⟩
   ·rw [if_neg h6] at h4;exact h4
  ·rw [if_neg (by omega)] at h5;exact h5
theorem E2q {h:Hd} (hv:X9 h=true):E6 Q (hdT h):=by
 unfold X9 at hv;simp only [A0D,A0G] at hv;obtain ⟨⟨⟨h1,h2⟩,h3⟩,h4⟩:=hv;unfold hdT;refine va C (va C (va C (a:=[A5 [111,110]]) (b:=[A5 (C8.getD (h.trig-1).toNat [])]) (v_w C (by decide)) (v_w C (D4p _ (by omega)))) ?_) (E2u C h4);split
 ·rw [if_pos (by omega)] at h3;exact v_n C h3
 ·exact fun t ht=>by cases ht
theorem E2o {m:Md} (hv:S7 m=true):E6 Q (mdT m):=by
 unfold S7 at hv;simp only [A0D,A0G] at hv;obtain ⟨⟨⟨⟨h1,h2⟩,h3⟩,h4⟩,h5⟩:=hv;unfold mdT;exact va C (va C (va C (va C (va C (v_w C (by decide)) (v_n C h1)) (v_v C h2 h3)) (v_w C (by decide))) (A7o C fun h hh=>E2q C (A0Q.1 h5 h hh))) (v_w C (by decide))
theorem E2n {r:Ru} (hv:A1x r=true):E6 Q (ruT r):=by
 unfold A1x at hv;simp only [A0D,A0G] at hv;obtain ⟨⟨⟨h1,h2⟩,h3⟩,h4⟩:=hv;have hbad:(r.modes.any fun m=>m.hds.any A7a)=false:=by
  rw [A3Y];intro m hm;have:=A0Q.1 h4 m hm;unfold S7 at this;simp only [A0D] at this;rw [Bool.not_eq_true,A3Y];intro h hh;rw [C3u (A0Q.1 this.2 h hh)];decide
 unfold ruT;rw [if_neg (by rw [hbad];decide)];exact va C (A7o C fun d hd=>E2t C (A0Q.1 h3 d hd)) (A7o C fun m hm=>E2o C (A0Q.1 h4 m hm))
end
theorem D6m {c:UInt8} (h:T9 c=true):Pc false [c] []:=fun r tr _ hr=>C2c h hr
theorem D9u {w:List UInt8} {t:List T3} (h:Pc true w t):Pc false (lnT w) t:=by
 unfold lnT;split
 ·have:=h.lit (c:=10) (q:=[]) (D6m (by decide)) (by decide);simpa using this
 ·have:=h.lit (c:=32) (q:=[]) (D6m (by decide)) (by decide);simpa using this
theorem D9t {b:Bool}:Pc b [] []:=fun r tr _ hr=>hr
theorem B7v:∀ {l:List Tok},E6 LxT l->Pc false (U4 (txT l)) (l.map st3)
 | [],_=>D9t
 | t :: l,h=>by
  have h1:=D9u (h t A0L);have h2:=B7v (l:=l) fun x hx=>h x (A0J _ hx);exact h1.pre h2
end Go.Pb
namespace Go.Pb
variable [Go.Sym.Tab]
open Go.Sym
theorem C1e (e:Ex):e.plain.kind=e.kind:=by cases e;rfl
theorem B7f (e:St):e.plain.kind=e.kind:=by cases e;rfl
mutual
theorem B3t:∀ e:Ex,exT e.plain=exT e
 | .mk k v n a p=>by rw [Ex.plain,exT,exT,B1j a]
theorem B1j:∀ l:List Ex,A5d (Ex.plains l)=A5d l
 | []=>rfl
 | e :: l=>by rw [Ex.plains,A5d,A5d,B3t e,B1j l,C1e]
end
theorem A0b (l:List Ex) (i:Nat):agT (Ex.plains l) i=agT l i:=by
 unfold agT;rw [Ex.plains_map,A1C];cases l[i]? with
 | none=>rfl
 | some e=>exact B3t e
mutual
theorem B2q:∀ s:St,stT s.plain=stT s
 | .mk k n t a x [] p=>by rw [St.plain,stT,stT,A0b,A0b,V6 x];rfl
 | .mk k n t a x [s] p=>by
  have h:=B2q s;rw [St.plain,stT,stT,A0b,A0b,V6 x];simp only [St.plains,h,B7f]
 | .mk k n t a x (s :: s2 :: r) p=>by
  have h:=V6 (s :: s2 :: r);rw [St.plain,stT,stT,A0b,A0b,V6 x];simp only [St.plains] at h ⊢;rw [h]
theorem V6:∀ l:List St,O9 (St.plains l)=O9 l
 | []=>rfl
 | s :: l=>by rw [St.plains,O9,O9,B2q s,V6 l]
end
theorem C5z (l:List St):blT (St.plains l)=blT l:=by unfold blT;rw [V6]
theorem C5v (d:Dc):dcT d.plain=dcT d:=rfl
theorem C5i (h:Hd):hdT h.plain=hdT h:=by
 unfold hdT Hd.plain;dsimp only;rw [C5z]
theorem C1n {α β : Type} {f : α -> List β} {g : α -> α} (h:∀ x,f (g x)=f x) (l:List α):(l.map g).flatMap f=l.flatMap f:=by
 induction l with
 | nil=>rfl
 | cons x l ih=>rw [A0N,A1F,A1F,ih,h]
theorem C5d (m:Md):mdT m.plain=mdT m:=by
 unfold mdT Md.plain;dsimp only;rw [C1n C5i]
theorem B2y (r:Ru):ruT r.plain=ruT r:=by
 unfold ruT Ru.plain;dsimp only;rw [C1n C5v,C1n C5d,List.any_map];have:((fun m:Md=>m.hds.any A7a)∘Md.plain)=fun m=>m.hds.any A7a:=by
  funext m
  show (m.hds.map Hd.plain).any A7a=_;rw [List.any_map];rfl
 rw [this]
theorem C5l {r b:Ru} (h:b.plain=r.plain):Y3 b=Y3 r:=by
 unfold Y3;rw [<- A9z b, <- B2y b,h,A9z,B2y]
theorem C9v {l:List (List UInt8)} (h:l≠[]):U4 l≠[]:=by
 cases l with
 | nil=>exact absurd rfl h
 | cons w l =>
  unfold U4 lnT;rw [A0N,A2W];split<;>simp
theorem D8m {r:Ru} (h:r≠⟨[],[]⟩):ruT r≠[]:=by
 unfold ruT;split
 ·simp
 obtain ⟨D,M⟩:=r;dsimp only;intro e;rw [List.append_eq_nil_iff] at e;cases D with
 | cons d D =>
  have h1:=e.1;rw [A1F,List.append_eq_nil_iff] at h1;have h2:=h1.1;unfold dcT at h2;split at h2
  ·cases h2
  ·simp at h2
 | nil =>
  cases M with
  | nil=>exact h rfl
  | cons m M =>
   have h1:=e.2;rw [A1F,List.append_eq_nil_iff] at h1;have h2:=h1.1;unfold mdT at h2;simp at h2
theorem D0n {r:Ru} (hv:A1x r=true) (h:r≠⟨[],[]⟩):Y3 r≠[]:=by
 unfold Y3;rw [if_pos hv];refine C9v ?_;unfold txT;intro e;rw [List.map_eq_nil_iff] at e;exact D8m h e
theorem D5y {r:Ru} (hv:A1x r=true) (hl:(Y3 r).length<=20000):∃ b:Ru,P0 (Y3 r)=(b,0,0)/\b.plain=r.plain:=by
 have hp:=B7v (E2n E1y hv);have hf:Y3 r=U4 (txT (ruT r)):=by unfold Y3;rw [if_pos hv]
 rw [<- hf] at hp;have h0:=hp.scan hl;have ht:=hp.toks h0;obtain ⟨h1,h2⟩:=B7n hv 0;obtain ⟨h3,h4⟩:=C7x ht (E:=(Y3 r).length) (E':=0);refine ⟨(A0y (C0 (Y3 r)).1 (Y3 r).length).1,?_,h3.trans h2⟩;unfold P0;dsimp only;rw [if_neg (by rw [h0];decide),if_neg (by rw [h4.ok,h1];decide)]
section
variable {L:List Tok} {E:Int}
theorem B4v:∀ (f:Nat) (l:List Dc) (s:Rd) (r:List Dc × Rd),J9 L E f l s=some r->l.length<=r.1.length
 | 0,_,_,_,h=>by cases h
 | f+1,l,s,r,h=>by
  rw [J9] at h;dsimp only at h;split at h
  ·cases h;exact A0H _
  split at h
  ·have:=B4v f _ _ _ h;rw [A0C] at this;omega
  ·exact B4v f _ _ _ h
theorem B4u:∀ (f:Nat) (l:List Md) (s:Rd) (r:List Md × Rd),I9 L E f l s=some r->l.length<=r.1.length
 | 0,_,_,_,h=>by cases h
 | f+1,l,s,r,h=>by
  rw [I9] at h;split at h
  ·split at h
   ·cases h;exact A0H _
   dsimp only at h;split at h
   ·split at h
    ·cases h
    ·have:=B4u f _ _ _ h;rw [A0C] at this;omega
   ·exact B4u f _ _ _ h
  ·cases h;exact A0H _
theorem D8k {f:Nat} {r:Ru × Rd} (hL:L≠[]) (h:Y8 L E f rd0=some r) (hok:okR r.2=true):r.1≠⟨[],[]⟩:=by
 have hlen:0<L.length:=List.length_pos_iff.2 hL;unfold Y8 at h;cases h1:J9 L E f [] rd0 with
 | none=>rw [h1] at h;cases h
 | some q =>
  obtain ⟨d,s1⟩:=q;rw [h1] at h;dsimp only at h;cases h2:I9 L E f [] s1 with
  | none=>rw [h2] at h;cases h
  | some q =>
   obtain ⟨m,s2⟩:=q;rw [h2] at h;cases h;intro e;cases e;cases f with
   | zero=>cases h1
   | succ f =>
    rw [J9] at h1;dsimp only at h1;split at h1
    ·cases h1;rw [I9] at h2;split at h2
     ·split at h2
      ·cases h2;have hs:okR (P2 L E rd0)=false:=V5;rw [hs] at hok;cases hok
      dsimp only at h2;split at h2
      ·split at h2
       ·cases h2
       ·have:=B4u f _ _ _ h2;simp at this
      ·rename_i g _ g2;exact absurd rfl g2
     ·rename_i g;exact absurd ⟨rfl,hlen⟩ g
    ·split at h1
     ·have:=B4v f _ _ _ h1;simp at this
     ·rename_i g2;exact absurd rfl g2
end
theorem C8x {s:List UInt8} {r:Ru} {p e:Int} (h:P0 s=(r,p,e)) (he:e=0):(C0 s).2.2=0/\okR (A0y (C0 s).1 s.length).2=true/\r=(A0y (C0 s).1 s.length).1/\p=0:=by
 unfold P0 at h;dsimp only at h;split at h
 ·rename_i g;cases h;exact absurd he g
 ·rename_i g;have g':(C0 s).2.2=0:=Classical.byContradiction g;split at h
  ·rename_i g2;cases h;unfold okR at g2;rw [he] at g2;cases g2
  ·rename_i g2;cases h;exact ⟨g',by simpa using g2,rfl,rfl⟩
theorem D9v {s:List UInt8} {r:Ru} {p:Int} (h:P0 s=(r,p,0)) (hne:(C0 s).1≠[]):r≠⟨[],[]⟩:=by
 obtain ⟨h1,h2,h3, -⟩:=C8x h rfl;obtain ⟨f,hf⟩:=(A2s (C0 s).1 s.length).get;rw [h3];exact D8k hne hf h2
end Go.Pb
end

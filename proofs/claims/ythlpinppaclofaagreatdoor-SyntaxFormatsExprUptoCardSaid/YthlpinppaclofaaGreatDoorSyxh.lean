/-
  HELPERS of the claim: part 8 of its texts.
-/
import Derived.Test.YthlpinppaclofaaGreatDoorRows
import Derived.Test.YthlpinppaclofaaGreatDoorSyxg
noncomputable section
set_option linter.unusedVariables false
set_option linter.unusedSectionVars false
set_option linter.unusedSimpArgs false
namespace Go.Pb
variable [Go.Sym.Tab]
open Go.Sym
def A4t (t:Tok):Bool:=t.kind == 5 || t.kind == 2
def ixA:Nat->List (List UInt8)->List UInt8->Int
 | _,[],_ => -1
 | k,t :: l,x=>if x == t then (k:Int) else ixA (k+1) l x
def amT (t:Tok) (l:List (List UInt8)):Int:=if A4t t=true then ixA 0 l t.text else -1
def hd0 (E:Int) (ts:List Tok):Tok:=ts.headD ⟨0,[],0,E⟩
def A2c (t:Tok):Int:=if amT t B6<0 then 0 else A8 (12+amT t B6)
abbrev lvo (E:Int) (ts:List Tok):Int:=A2c (hd0 E ts)
section
variable {L:List Tok} {E:Int}
theorem peek_hd (s:Rd):A3 L E s=hd0 E (L.drop s.i):=by
 unfold A3 hd0;rw [List.getD_eq_getElem?_getD, <- List.head?_drop];cases L.drop s.i<;>rfl
theorem M6 {s:Rd} {t:Tok} {ts:List Tok} (h:L.drop s.i=t :: ts):A3 L E s=t:=by rw [peek_hd,h];rfl
theorem A5y {s:Rd} {t:Tok} {ts:List Tok} (h:L.drop s.i=t :: ts):L.drop (s.i+1)=ts:=by
 rw [<- List.drop_drop,h];rfl
theorem U6 {i:Nat} {a b:List Tok} (h:L.drop i=a++b):L.drop (i+a.length)=b:=by
 rw [<- List.drop_drop,h,List.drop_left]
theorem amg_A {s:Rd} (hok:okR s=true):∀ (l:List (List UInt8)) (k:Nat),P5 L E s k l=if A4t (A3 L E s)=true then ixA k l (A3 L E s).text else -1
 | [],k=>by simp [P5,ixA]
 | t :: l,k=>by
  have ih:=amg_A hok l (k+1);have hi:isR L E s t=(A4t (A3 L E s) && (A3 L E s).text == t):=by unfold isR A4t;rw [hok,Bool.true_and]
  rw [P5,ixA,ih,hi];by_cases hs:A4t (A3 L E s)=true
  ·rw [hs,if_pos rfl,Bool.true_and,if_pos rfl]
  ·have hs:A4t (A3 L E s)=false:=by simpa using hs
   rw [hs,Bool.false_and,if_neg (by decide),if_neg (by decide),if_neg (by decide)]
theorem A2i {s:Rd} (hok:okR s=true) (l:List (List UInt8)):B7 L E s l=amT (A3 L E s) l:=amg_A hok l 0
theorem is_T {s:Rd} (hok:okR s=true) (t:List UInt8):isR L E s t=(A4t (A3 L E s) && (A3 L E s).text == t):=by unfold isR A4t;rw [hok,Bool.true_and]
theorem isK_T {s:Rd} (hok:okR s=true) (k:Int):F2 L E s k=((A3 L E s).kind == k):=by unfold F2;rw [hok,Bool.true_and]
theorem exp_T {s:Rd} {t:List UInt8} (hok:okR s=true) (h1:A4t (A3 L E s)=true) (h2:(A3 L E s).text=t):C7 L E s t=B3 s:=by
 unfold C7;rw [is_T hok,h1,h2,if_neg (by simp)]
theorem take_T {s:Rd} {k:Int} (hok:okR s=true) (h1:(A3 L E s).kind=k):A9 L E s k=(A3 L E s,B3 s):=by
 unfold A9;rw [isK_T hok,if_neg (by simp [h1])]
def adv (s:Rd) (k:Nat) (o:Nat):Rd:={ s with i:=s.i+k,ops:=s.ops+(o:Int) }
theorem A1e {s:Rd} {k o:Nat} (h:okR s=true):okR (adv s k o)=true:=h
theorem U1 {n:Int} {e:Ex} {s:Rd} (hok:okR s=true) (hn:1<=n) (h:lvo E (L.drop s.i)≠n):Lop L E n e s (e,s):=by
 refine Lop.stop ?_;rw [A2i hok,peek_hd];unfold lvo A2c at h;by_cases hk:amT (hd0 E (L.drop s.i)) B6<0
 ·exact .inl hk
 ·rw [if_neg hk] at h;exact .inr h
theorem A7p {s s1:Rd} {e:Ex} (hok:okR s1=true):∀ (j:Nat) {m n:Int} {r:Ex × Rd},m-n<=j->Bin L E m s (e,s1)->1<=n->n<m->m<=6->lvo E (L.drop s1.i)<=n->Lop L E n e s1 r->Bin L E n s r
 | 0,m,n,r,hj,h,h1,h2,h3,h4,hr=>by omega
 | j+1,m,n,r,hj,h,h1,h2,h3,h4,hr=>by
  by_cases he:n+1=m
  ·exact Bin.go (by omega) (by rw [he];exact h) hr
  ·refine Bin.go (by omega) ?_ hr;exact A7p hok j (m:=m) (n:=n+1) (by omega) h (by omega) (by omega) h3 (by omega) (U1 hok (by omega) (by omega))
theorem A9p {s s1:Rd} {e:Ex} {n:Int} {r:Ex × Rd} (hok:okR s1=true) (h:Un L E s (e,s1)) (h1:1<=n) (h2:n<=5) (h4:lvo E (L.drop s1.i)<=n) (hr:Lop L E n e s1 r):Bin L E n s r :=
 A7p hok 6 (m:=6) (by omega) (Bin.un (by decide) h) h1 (by omega) (by omega) h4 hr
theorem un_bin {s s1:Rd} {e:Ex} {n:Int} (hok:okR s1=true) (h:Un L E s (e,s1)) (h1:1<=n) (h2:n<=5) (h4:lvo E (L.drop s1.i)<n):Bin L E n s (e,s1) :=
 A9p hok h h1 h2 (by omega) (U1 hok h1 (by omega))
theorem am_none {t:Tok} (l:List (List UInt8)) (h:A4t t=false):amT t l = -1:=by unfold amT;rw [if_neg (by rw [h];decide)]
theorem prim_num {s:Rd} {v:Int} {ts:List Tok} (hok:okR s=true) (h:L.drop s.i=⟨3,[],v,0⟩ :: ts) (ho:s.ops+1<=32):Un L E s (.mk 1 v [] [] 0,adv s 1 1):=by
 have hp:=M6 (E:=E) h;have ha:∀ l,B7 L E s l = -1:=fun l=>by rw [A2i hok,hp];exact am_none l rfl
 have h1:=Un.prim (L:=L) (E:=E) (s:=s) (by rw [ha];decide);have h2:E6 L E s=(.mk 1 v [] [] 0,adv s 1 1):=by
  unfold E6;dsimp only;rw [ha,hp,isK_T hok,isK_T hok,hp,if_neg (by simp),show C0 L E { s with ops:=s.ops+1 } (s.ops+1) 32 9 = { s with ops:=s.ops+1 } from if_neg (by omega),if_neg (by show ¬ okR s=false;rw [hok];decide),if_neg (by decide),if_pos rfl];rfl
 rw [h2] at h1;exact h1
theorem prim_var {s:Rd} {n:List UInt8} {ts:List Tok} (hok:okR s=true) (h:L.drop s.i=⟨1,n,0,0⟩ :: ts) (ho:s.ops+1<=32):Un L E s (.mk 2 0 n [] 0,adv s 1 1):=by
 have hp:=M6 (E:=E) h;have ha:∀ l,B7 L E s l = -1:=fun l=>by rw [A2i hok,hp];exact am_none l rfl
 have h1:=Un.prim (L:=L) (E:=E) (s:=s) (by rw [ha];decide);have h2:E6 L E s=(.mk 2 0 n [] 0,adv s 1 1):=by
  unfold E6;dsimp only;rw [ha,hp,isK_T hok,isK_T hok,hp,if_neg (by simp),show C0 L E { s with ops:=s.ops+1 } (s.ops+1) 32 9 = { s with ops:=s.ops+1 } from if_neg (by omega),if_neg (by show ¬ okR s=false;rw [hok];decide),if_neg (by decide),if_neg (by show ¬ (1:Int)=3;decide)];rfl
 rw [h2] at h1;exact h1
theorem A1g {s:Rd} {w:List UInt8} {ts:List Tok} {j:Nat} (hok:okR s=true) (h:L.drop s.i=B1 w :: ts) (ho:s.ops+1<=32) (hj:j<4) (hi:amT (B1 w) D8=(j:Int)) (hpre:amT (B1 w) J1<0) :
  Un L E s (.mk (F8.getD j 0) 0 [] [] 0,adv s 1 1):=by
 have hp:=M6 (E:=E) h;have h1:=Un.prim (L:=L) (E:=E) (s:=s) (by rw [A2i hok,hp];exact hpre);have ha:B7 L E s D8=(j:Int):=by rw [A2i hok,hp];exact hi
 have h2:E6 L E s=(.mk (F8.getD j 0) 0 [] [] 0,adv s 1 1):=by
  unfold E6;dsimp only;rw [ha,hp,if_neg (by omega),show C0 L E { s with ops:=s.ops+1 } (s.ops+1) 32 9 = { s with ops:=s.ops+1 } from if_neg (by omega),if_neg (by show ¬ okR s=false;rw [hok];decide),if_pos (by omega),if_neg (by omega)];rfl
 rw [h2] at h1;exact h1
theorem A3y {s:Rd} {w n:List UInt8} {ts:List Tok} {j:Nat} (hok:okR s=true) (h:L.drop s.i=B1 w :: ⟨1,n,0,0⟩ :: ts) (ho:s.ops+1<=32) (hj4:4<=j) (hj:j<7) (hi:amT (B1 w) D8=(j:Int)) (hpre:amT (B1 w) J1<0) :
  Un L E s (.mk (F8.getD j 0) 0 n [] 0,adv s 2 1):=by
 have hp:=M6 (E:=E) h;have hd:=A5y h;have h1:=Un.prim (L:=L) (E:=E) (s:=s) (by rw [A2i hok,hp];exact hpre);have ha:B7 L E s D8=(j:Int):=by rw [A2i hok,hp];exact hi
 have hp2:A3 L E (B3 { s with ops:=s.ops+1 })=⟨1,n,0,0⟩:=M6 hd;have ht:A9 L E (B3 { s with ops:=s.ops+1 }) 1=(⟨1,n,0,0⟩,B3 (B3 { s with ops:=s.ops+1 })):=by
  rw [take_T (show okR (B3 { s with ops:=s.ops+1 })=true from hok) (by rw [hp2]),hp2]
 have h2:E6 L E s=(.mk (F8.getD j 0) 0 n [] 0,adv s 2 1):=by
  unfold E6;dsimp only;rw [ha,hp,if_neg (by omega),show C0 L E { s with ops:=s.ops+1 } (s.ops+1) 32 9 = { s with ops:=s.ops+1 } from if_neg (by omega),if_neg (by show ¬ okR s=false;rw [hok];decide),if_pos (by omega),if_pos (by omega),ht];rfl
 rw [h2] at h1;exact h1
def CE (L:List Tok) (E:Int) (e:Ex):Prop:=∀ o d,msM e=some (o,d)->∀ (s:Rd) (post:List Tok),L.drop s.i=exT e++post->okR s=true->s.ops+(o:Int)<=32->s.par+(d:Int)<=16 ->
 ∃ e',e'.plain=e.plain/\(6<=A8 e.kind->Un L E s (e',adv s (exT e).length o)) /\
  (∀ n,1<=n->n<=5->n<=A8 e.kind->lvo E post<=n->(n=3->lvo E post≠3)->∀ r,Lop L E n e' (adv s (exT e).length o) r->Bin L E n s r)
theorem am_par:amT (B1 [40]) J1=2:=by decide +kernel
theorem am_minus:amT (B1 [45]) J1=0:=by decide +kernel
theorem am_bang:amT (B1 [33]) J1=1:=by decide +kernel
theorem lv_rpar:A2c (B1 [41])=0:=by decide +kernel
theorem sg_rpar:A4t (B1 [41])=true:=by decide +kernel
theorem lim_id {s:Rd} {n m e:Int} (h:n<=m):C0 L E s n m e=s:=if_neg (by omega)
theorem paren {x:Ex} (hx:CE L E x) {o d:Nat} (hm:msM x=some (o,d)) {s:Rd} {post:List Tok} (h:L.drop s.i=[B1 [40]]++exT x++[B1 [41]]++post) (hok:okR s=true) (ho:s.ops+(o:Int)<=32) (hp:s.par+((d+1:Nat):Int)<=16) :
  ∃ x',x'.plain=x.plain/\Un L E s (x',adv s ([B1 [40]]++exT x++[B1 [41]]).length o):=by
 have h0:L.drop s.i=B1 [40] :: (exT x++([B1 [41]]++post)):=by rw [h];simp
 have h1:=A5y h0;have hpk:=M6 (E:=E) h0;obtain ⟨x',e1, -,e3⟩:=hx o d hm { s with i:=s.i+1,par:=s.par+1 } ([B1 [41]]++post) h1 hok ho (by show s.par+1+(d:Int)<=16;omega);have hd2:L.drop (s.i+1+(exT x).length)=B1 [41] :: post:=U6 h1;have hb:=e3 1 (by decide) (by decide) (by have:=O5 x.kind;omega) (by show A2c (B1 [41])<=1;rw [lv_rpar];decide) (fun h=>absurd h (by decide)) _ (U1 (show okR s=true from hok) (by decide) (by show A2c (hd0 E (L.drop (s.i+1+(exT x).length)))≠1;rw [hd2];show A2c (B1 [41])≠1;rw [lv_rpar];decide));have hu:=Un.par (by rw [A2i hok,hpk];exact am_par) (by rw [lim_id (by omega)];exact hok) hb;refine ⟨x',e1,?_⟩;have hpk2:A3 L E (adv { s with i:=s.i+1,par:=s.par+1 } (exT x).length o)=B1 [41]:=M6 hd2;rw [exp_T (show okR (adv { s with i:=s.i+1,par:=s.par+1 } (exT x).length o)=true from hok) (by rw [hpk2];exact sg_rpar) (by rw [hpk2];rfl)] at hu;have e4:({ B3 (adv { s with i:=s.i+1,par:=s.par+1 } (exT x).length o) with par:=(B3 (adv { s with i:=s.i+1,par:=s.par+1 } (exT x).length o)).par-1 }:Rd)=adv s ([B1 [40]]++exT x++[B1 [41]]).length o:=by
  have a1:s.i+1+(exT x).length+1=s.i+([B1 [40]]++exT x++[B1 [41]]).length:=by simp;omega
  have a2:s.par+1-1=s.par:=by omega
  show Rd.mk (s.i+1+(exT x).length+1) s.e s.pos (s.ops+(o:Int)) (s.par+1-1)=Rd.mk (s.i+([B1 [40]]++exT x++[B1 [41]]).length) s.e s.pos (s.ops+(o:Int)) s.par;rw [a1,a2]
 rw [e4] at hu;exact hu
theorem B0e {x:Ex} (hx:CE L E x) {o d:Nat} {least:Int} (hm:msM x=some (o,d)) {s:Rd} {post:List Tok} (h:L.drop s.i=C6 (x.kind,exT x) least++post) (hok:okR s=true) (ho:s.ops+(o:Int)<=32) (hp:s.par+((if A8 x.kind<least then d+1 else d:Nat):Int)<=16) (h1:1<=least) (h6:least<=6) (hl:lvo E post<least) :
  ∃ x',x'.plain=x.plain/\(least<=5->Bin L E least s (x',adv s (C6 (x.kind,exT x) least).length o))/\(least=6->Un L E s (x',adv s (C6 (x.kind,exT x) least).length o)):=by
 have hdp:=U6 h;unfold C6 at h hdp ⊢;dsimp only at h hdp ⊢;by_cases hlt:A8 x.kind<least
 ·rw [if_pos hlt] at h hp hdp ⊢;obtain ⟨x',e1,e2⟩:=paren hx hm h hok ho hp;exact ⟨x',e1,fun h5=>un_bin (A1e hok) e2 h1 h5 (by show lvo E (L.drop (s.i+_))<least;rw [hdp];exact hl),fun _=>e2⟩
 ·rw [if_neg hlt] at h hp hdp ⊢;obtain ⟨x',e1,e2,e3⟩:=hx o d hm s post h hok ho hp;refine ⟨x',e1,fun h5=>?_,fun h=>e2 (by omega)⟩;refine e3 least h1 h5 (by omega) (by omega) (by omega) _ (U1 (A1e hok) h1 ?_);show lvo E (L.drop (s.i+_))≠least;rw [hdp];omega
theorem left_op {x:Ex} (hx:CE L E x) {o d:Nat} {q:Int} (hm:msM x=some (o,d)) {s:Rd} {post:List Tok} (h:L.drop s.i=C6 (x.kind,exT x) (if q=3 then 4 else q)++post) (hok:okR s=true) (ho:s.ops+(o:Int)<=32) (hp:s.par+((if A8 x.kind<(if q=3 then 4 else q) then d+1 else d:Nat):Int)<=16) (h1:1<=q) (h5:q<=5) (hl:lvo E post=q) :
  ∃ x',x'.plain=x.plain/\∀ r,Lop L E q x' (adv s (C6 (x.kind,exT x) (if q=3 then 4 else q)).length o) r->Bin L E q s r:=by
 have hdp:=U6 h;by_cases h3:q=3
 ·subst h3;rw [if_pos rfl] at h hp hdp ⊢;obtain ⟨x',e1,e2, -⟩:=B0e hx hm h hok ho hp (by decide) (by decide) (by omega);exact ⟨x',e1,fun r hr=>Bin.go (by decide) (e2 (by decide)) hr⟩
 ·rw [if_neg h3] at h hp hdp ⊢;unfold C6 at h hdp ⊢;dsimp only at h hdp ⊢;by_cases hlt:A8 x.kind<q
  ·rw [if_pos hlt] at h hp hdp ⊢;obtain ⟨x',e1,e2⟩:=paren hx hm h hok ho hp;exact ⟨x',e1,fun r hr=>A9p (A1e hok) e2 h1 h5 (by show lvo E (L.drop (s.i+_))<=q;rw [hdp];omega) hr⟩
  ·rw [if_neg hlt] at h hp hdp ⊢;obtain ⟨x',e1,e2,e3⟩:=hx o d hm s post h hok ho hp;exact ⟨x',e1,e3 q h1 h5 (by omega) (by omega) (fun h=>absurd h h3)⟩
theorem B0k {k v:Int} {n:List UInt8} {a:List Ex} {p:Int} {o d:Nat} (h:msM (.mk k v n a p)=some (o,d)) :
  kOk k=true/\a.length=G1 k/\T9 k n=true/\U8 k v=true/\(G1 k=0->o=1/\d=0)/\(G1 k≠0->∃ d',msL k 0 a=some (o,d')/\d=if G1 k=1 then d'+1 else d'):=by
 unfold msM at h;split at h
 ·cases h
 ·rename_i hc;have h1:kOk k=true:=by cases hz:kOk k with|true=>rfl|false=>exact absurd (.inl hz) hc
  have h2:a.length=G1 k:=Classical.byContradiction fun hz=>hc (.inr (.inl hz));have h3:T9 k n=true:=by cases hz:T9 k n with|true=>rfl|false=>exact absurd (.inr (.inr (.inl hz))) hc
  have h4:U8 k v=true:=by cases hz:U8 k v with|true=>rfl|false=>exact absurd (.inr (.inr (.inr hz))) hc
  refine ⟨h1,h2,h3,h4,?_,?_⟩
  ·intro h0;rw [if_pos h0] at h;cases h;exact ⟨rfl,rfl⟩
  ·intro h0;rw [if_neg h0] at h;split at h
   ·cases h
   ·rename_i o' d' hm;cases h;exact ⟨d',hm,rfl⟩
theorem sign_all:∀ j:Nat,j<13->amT (B1 (B6.getD j [])) B6=(j:Int)/\A4t (B1 (B6.getD j []))=true:=by decide +kernel
theorem nm0 {k:Int} {n:List UInt8} (h:T9 k n=true) (h2:k≠2) (h5:W6 k=false):n=[]:=by
 unfold T9 at h;rw [if_neg (by rw [h5];simp [h2])] at h;simpa using h
theorem vl0 {k v:Int} (h:U8 k v=true) (h1:k≠1):v=0:=by
 unfold U8 at h;simp only [Bool.or_eq_true,Bool.and_eq_true,beq_iff_eq,decide_eq_true_eq] at h;rcases h with h|h
 ·exact h
 ·exact absurd h.1 h1
theorem len_two {α : Type} {l:List α} (h:l.length=2):∃ x y,l=[x,y]:=by
 match l,h with
 | [x,y],_=>exact ⟨x,y,rfl⟩
theorem ex_complete:∀ (m:Nat) (e:Ex),e.sz<m->CE L E e:=by
 intro m
 induction m with
 | zero=>intro e h;omega
 | succ m ih =>
 intro e hm o d hms s post h hok ho hp;cases e with|mk k v n a p =>
 obtain ⟨h1,h2,h3,h4,h5,h6⟩:=B0k hms;have hlr:=O5 k
 have viaUn:∀ e':Ex,e'.plain=(Ex.mk k v n a p).plain->Un L E s (e',adv s (exT (.mk k v n a p)).length o) ->
   ∃ e',e'.plain=(Ex.mk k v n a p).plain/\(6<=A8 k->Un L E s (e',adv s (exT (.mk k v n a p)).length o)) /\
    (∀ n',1<=n'->n'<=5->n'<=A8 k->lvo E post<=n'->(n'=3->lvo E post≠3)->∀ r,Lop L E n' e' (adv s (exT (.mk k v n a p)).length o) r->Bin L E n' s r):=fun e' he hu =>
  ⟨e',he,fun _=>hu,fun n' q1 q2 _ q4 _ r hr=>A9p (A1e hok) hu q1 q2 (by show lvo E (L.drop (s.i+_))<=n';rw [U6 h];exact q4) hr⟩
 by_cases hc0:G1 k=0
 ·obtain ⟨rfl,rfl⟩:=h5 hc0;have ha:a=[]:=List.eq_nil_of_length_eq_zero (by omega);subst ha;have hl7:A8 k=7:=by
   unfold G1 at hc0;split at hc0
   ·omega
   ·split at hc0<;>omega
  have hk9:1<=k/\k<=9:=by
   unfold kOk at h1;simp only [Bool.or_eq_true,Bool.and_eq_true,decide_eq_true_eq] at h1;have hk24:1<=k/\k<=24:=by omega
   refine ⟨hk24.1,?_⟩;apply Classical.byContradiction;intro hc;unfold A8 at hl7;repeat' split at hl7
   all_goals omega
  refine (show ∃ e',_ from ?_);have hT:exT (.mk k v n [] p)=D9 k v n []:=by rw [exT,A4x]
  rw [hT] at h viaUn ⊢;have ho1:s.ops+1<=32:=ho;have:k=1\/k=2\/k=3\/k=4\/k=5\/k=6\/k=7\/k=8\/k=9:=by omega
  rcases this with rfl|rfl|rfl|rfl|rfl|rfl|rfl|rfl|rfl
  ·have hn:=nm0 h3 (by decide) (by decide);subst hn;have hv:¬ (v<0\/2147483647<v):=by
    unfold U8 at h4;simp only [Bool.or_eq_true,Bool.and_eq_true,beq_iff_eq,decide_eq_true_eq] at h4;omega
   have hb:D9 1 v [] []=[⟨3,[],v,0⟩]:=by unfold D9;dsimp only;rw [if_pos rfl];unfold Y0;rw [if_neg hv]
   rw [hb] at h viaUn ⊢;exact viaUn (.mk 1 v [] [] 0) rfl (prim_num hok h ho1)
  ·have hv:=vl0 h4 (by decide);subst hv;have hn:C4 n=true:=h3;have hb:D9 2 0 n []=[⟨1,n,0,0⟩]:=by unfold D9;dsimp only;rw [if_neg (by decide),if_pos rfl];unfold D5;rw [if_neg (by rw [hn];decide)]
   rw [hb] at h viaUn ⊢;exact viaUn (.mk 2 0 n [] 0) rfl (prim_var hok h ho1)
  ·have hv:=vl0 h4 (by decide);have hn:=nm0 h3 (by decide) (by decide);subst hv hn;have hb:D9 3 0 [] []=[B1 [116,114,117,101]]:=rfl;rw [hb] at h viaUn ⊢;exact viaUn (.mk 3 0 [] [] 0) rfl (A1g (j:=0) hok h ho1 (by decide) (by decide +kernel) (by decide +kernel))
  ·have hv:=vl0 h4 (by decide);have hn:=nm0 h3 (by decide) (by decide);subst hv hn;have hb:D9 4 0 [] []=[B1 [102,97,108,115,101]]:=rfl;rw [hb] at h viaUn ⊢;exact viaUn (.mk 4 0 [] [] 0) rfl (A1g (j:=1) hok h ho1 (by decide) (by decide +kernel) (by decide +kernel))
  ·have hv:=vl0 h4 (by decide);subst hv;have hn:C4 n=true:=h3;have hb:D9 5 0 n []=[B1 [99,108,111,115,101,100],⟨1,n,0,0⟩]:=by
    show [B1 [99,108,111,115,101,100]]++D5 n=_;unfold D5;rw [if_neg (by rw [hn];decide)];rfl
   rw [hb] at h viaUn ⊢;exact viaUn (.mk 5 0 n [] 0) rfl (A3y (j:=4) hok h ho1 (by decide) (by decide) (by decide +kernel) (by decide +kernel))
  ·have hv:=vl0 h4 (by decide);subst hv;have hn:C4 n=true:=h3;have hb:D9 6 0 n []=[B1 [97,99,116,105,118,101],⟨1,n,0,0⟩]:=by
    show [B1 [97,99,116,105,118,101]]++D5 n=_;unfold D5;rw [if_neg (by rw [hn];decide)];rfl
   rw [hb] at h viaUn ⊢;exact viaUn (.mk 6 0 n [] 0) rfl (A3y (j:=5) hok h ho1 (by decide) (by decide) (by decide +kernel) (by decide +kernel))
  ·have hv:=vl0 h4 (by decide);subst hv;have hn:C4 n=true:=h3;have hb:D9 7 0 n []=[B1 [108,101,102,116],⟨1,n,0,0⟩]:=by
    show [B1 [108,101,102,116]]++D5 n=_;unfold D5;rw [if_neg (by rw [hn];decide)];rfl
   rw [hb] at h viaUn ⊢;exact viaUn (.mk 7 0 n [] 0) rfl (A3y (j:=6) hok h ho1 (by decide) (by decide) (by decide +kernel) (by decide +kernel))
  ·have hv:=vl0 h4 (by decide);have hn:=nm0 h3 (by decide) (by decide);subst hv hn;have hb:D9 8 0 [] []=[B1 [112,108,97,121,101,114]]:=rfl;rw [hb] at h viaUn ⊢;exact viaUn (.mk 8 0 [] [] 0) rfl (A1g (j:=2) hok h ho1 (by decide) (by decide +kernel) (by decide +kernel))
  ·have hv:=vl0 h4 (by decide);have hn:=nm0 h3 (by decide) (by decide);subst hv hn;have hb:D9 9 0 [] []=[B1 [98,97,108,108]]:=rfl;rw [hb] at h viaUn ⊢;exact viaUn (.mk 9 0 [] [] 0) rfl (A1g (j:=3) hok h ho1 (by decide) (by decide +kernel) (by decide +kernel))
 obtain ⟨d',hl,hd'⟩:=h6 hc0;clear h5 h6;have hv:=vl0 h4 (by rintro rfl;exact hc0 rfl);have hn:=nm0 h3 (by rintro rfl;exact hc0 rfl) (by
  cases hz:W6 k with
  | false=>rfl
  | true =>
   unfold W6 at hz;simp only [Bool.or_eq_true,beq_iff_eq] at hz;rcases hz with rfl|rfl|rfl<;>exact absurd rfl hc0)
 subst hv hn;by_cases hl6:A8 k=6
 ·
  have hk:k=10\/k=11:=by
   unfold A8 at hl6;repeat' split at hl6
   all_goals omega
  have hc1:G1 k=1:=by unfold G1;rw [if_pos hl6]
  rw [hc1] at h2 hd';rw [if_pos rfl] at hd';obtain ⟨x,rfl⟩:∃ x,a=[x]:=List.length_eq_one_iff.1 h2;have hxc:=ih x (by rw [Ex.sz,Ex.szs,Ex.szs] at hm;omega);unfold msL at hl;cases hx:msM x with
  | none=>rw [hx] at hl;cases hl
  | some q =>
   obtain ⟨o1,d1⟩:=q;rw [hx] at hl;dsimp only at hl;unfold msL at hl;dsimp only at hl;simp only [Option.some.injEq,Prod.mk.injEq,Nat.add_zero,Nat.max_zero] at hl;obtain ⟨rfl,hd1⟩:=hl;have hwr:N3 k x.kind 0=decide (A8 x.kind<6):=by
    unfold N3;rw [hl6];simp
   rw [hwr] at hd1;have hT:exT (.mk k 0 [] [x] p)=[B1 (if k=10 then [45] else [33])]++C6 (x.kind,exT x) 6:=by
    rw [exT,A4x,A4x];rcases hk with rfl|rfl<;>rfl
   rw [hT] at h viaUn ⊢;have h0:L.drop s.i=B1 (if k=10 then [45] else [33]) :: (C6 (x.kind,exT x) 6++post):=by rw [h];simp
   have hdn:=A5y h0;have hpk:=M6 (E:=E) h0;have ham:B7 L E s J1=k-10:=by
    rw [A2i hok,hpk];rcases hk with rfl|rfl
    ·exact am_minus
    ·exact am_bang
   have hlt6:lvo E post<6:=by
    unfold lvo A2c;split
    ·decide
    ·rename_i hz;have:=O5 (12+amT (hd0 E post) B6);have h13:amT (hd0 E post) B6<13:=by
      have gen:∀ (l:List (List UInt8)) (j:Nat) (w:List UInt8),ixA j l w<((j+l.length:Nat):Int):=by
       intro l
       induction l with
       | nil=>intro j w;simp [ixA];omega
       | cons a l ih =>
        intro j w;have:=ih (j+1) w;simp only [ixA,List.length_cons];split<;>omega
      unfold amT;split
      ·exact gen B6 0 _
      ·decide
     exact lev_ops (by omega) h13
   obtain ⟨x',e1, -,e3⟩:=B0e (least:=6) hxc hx (s:={ s with i:=s.i+1,par:=s.par+1 }) hdn hok ho (by
    show s.par+1+_<=16;have:((if A8 x.kind<6 then d1+1 else d1:Nat):Int)=(d':Int):=by
     rw [<- hd1];by_cases hz:A8 x.kind<6
     ·rw [if_pos hz,if_pos (by simpa using hz)]
     ·rw [if_neg hz,if_neg (by simpa using hz)]
    rw [this];omega) (by decide) (by decide) hlt6
   have hu:=Un.pre (L:=L) (E:=E) (s:=s) (by rw [ham];omega) (by rw [ham];omega) (by rw [lim_id (by omega)];exact hok) (e3 rfl);rw [ham,hpk] at hu;have e4:({ adv { s with i:=s.i+1,par:=s.par+1 } (C6 (x.kind,exT x) 6).length o1 with par:=(adv { s with i:=s.i+1,par:=s.par+1 } (C6 (x.kind,exT x) 6).length o1).par-1 }:Rd)=adv s ([B1 (if k=10 then [45] else [33])]++C6 (x.kind,exT x) 6).length o1:=by
    have a1:s.i+1+(C6 (x.kind,exT x) 6).length=s.i+([B1 (if k=10 then [45] else [33])]++C6 (x.kind,exT x) 6).length:=by simp;omega
    have a2:s.par+1-1=s.par:=by omega
    show Rd.mk (s.i+1+(C6 (x.kind,exT x) 6).length) s.e s.pos (s.ops+(o1:Int)) (s.par+1-1)=Rd.mk (s.i+_) s.e s.pos (s.ops+(o1:Int)) s.par;rw [a1,a2]
   rw [e4] at hu;refine viaUn _ ?_ hu;rw [Ex.plain,Ex.plain,Ex.plains,Ex.plains,Ex.plains,Ex.plains,e1]
   congr 1
   omega
 ·
  have hl5:A8 k<=5:=by
   unfold G1 at hc0;rw [if_neg hl6] at hc0;split at hc0
   ·omega
   ·exact absurd rfl hc0
  have hc2:G1 k=2:=by unfold G1;rw [if_neg hl6,if_pos (by omega)]
  rw [hc2] at h2 hd';rw [if_neg (by decide)] at hd';subst hd';obtain ⟨x,y,rfl⟩:∃ x y,a=[x,y]:=len_two h2;have hxc:=ih x (by rw [Ex.sz,Ex.szs,Ex.szs] at hm;omega);have hyc:=ih y (by rw [Ex.sz,Ex.szs,Ex.szs,Ex.szs] at hm;omega);unfold msL at hl;cases hx:msM x with
  | none=>rw [hx] at hl;cases hl
  | some q =>
   obtain ⟨o1,d1⟩:=q;rw [hx] at hl;dsimp only at hl;unfold msL at hl;cases hy:msM y with
   | none=>rw [hy] at hl;cases hl
   | some q2 =>
    obtain ⟨o2,d2⟩:=q2;rw [hy] at hl;dsimp only at hl;unfold msL at hl;dsimp only at hl;simp only [Option.some.injEq,Prod.mk.injEq,Nat.add_zero,Nat.max_zero] at hl;obtain ⟨rfl,hdd⟩:=hl;have hlk:=A7c (k:=k) (by omega);have hk12:12<=k:=by
     apply Classical.byContradiction;intro hc;have:k=10\/k=11:=by omega
     exact hl6 (Q4 this)
    obtain ⟨j,hj⟩:∃ j:Nat,k=12+(j:Int):=⟨(k-12).toNat,by omega⟩;have hj13:j<13:=by omega
    have hjn:(k-12).toNat=j:=by omega
    obtain ⟨hs1,hs2⟩:=sign_all j hj13;have hT:exT (.mk k 0 [] [x,y] p)=C6 (x.kind,exT x) (if A8 k=3 then 4 else A8 k)++[B1 (B6.getD j [])]++C6 (y.kind,exT y) (A8 k+1):=by
     rw [exT,A4x,A4x,A4x];unfold D9;dsimp only;rw [if_neg (by omega),if_neg (by omega),if_neg (by omega),if_neg (by omega),if_neg (by omega),if_neg (by omega),if_neg (by omega),if_neg (by omega),if_neg (by omega),if_pos (by omega),hjn]
    rw [hT] at h ⊢;generalize B1 (B6.getD j [])=sg at hs1 hs2 hT h ⊢;have hsl:A2c sg=A8 k:=by unfold A2c;rw [hs1,if_neg (by omega), <- hj]
    have hdx:((if A8 x.kind<(if A8 k=3 then 4 else A8 k) then d1+1 else d1:Nat):Int)<=(d:Int):=by
     have hwr:(N3 k x.kind 0=true)↔A8 x.kind<(if A8 k=3 then 4 else A8 k):=by
      unfold N3;simp only [Bool.or_eq_true,Bool.and_eq_true,decide_eq_true_eq,beq_iff_eq];by_cases h3:A8 k=3
      ·rw [if_pos h3];omega
      ·rw [if_neg h3];omega
     by_cases hz:A8 x.kind<(if A8 k=3 then 4 else A8 k)
     ·rw [if_pos hz];rw [if_pos (hwr.2 hz)] at hdd;omega
     ·rw [if_neg hz];rw [if_neg (fun h=>hz (hwr.1 h))] at hdd;omega
    have hdy:((if A8 y.kind<A8 k+1 then d2+1 else d2:Nat):Int)<=(d:Int):=by
     have hwr:(N3 k y.kind (0+1)=true)↔A8 y.kind<A8 k+1:=by
      unfold N3;rw [show ((0+1:Nat) == 1)=true from rfl,Bool.true_or,Bool.and_true];simp only [Bool.or_eq_true,decide_eq_true_eq,beq_iff_eq];omega
     by_cases hz:A8 y.kind<A8 k+1
     ·rw [if_pos hz];rw [if_pos (hwr.2 hz)] at hdd;omega
     ·rw [if_neg hz];rw [if_neg (fun h=>hz (hwr.1 h))] at hdd;omega
    have h0:L.drop s.i=C6 (x.kind,exT x) (if A8 k=3 then 4 else A8 k)++(sg :: (C6 (y.kind,exT y) (A8 k+1)++post)):=by rw [h];simp
    obtain ⟨x',e1,e2⟩:=left_op hxc hx h0 hok (by omega) (by omega) hlr.1 hl5 (by show A2c sg=A8 k;exact hsl);have hd1:=U6 h0;have hpk:A3 L E (adv s (C6 (x.kind,exT x) (if A8 k=3 then 4 else A8 k)).length o1)=sg:=M6 hd1;have hd2:=A5y (s:=adv s (C6 (x.kind,exT x) (if A8 k=3 then 4 else A8 k)).length o1) hd1;have ham:B7 L E (adv s (C6 (x.kind,exT x) (if A8 k=3 then 4 else A8 k)).length o1) B6=(j:Int):=by rw [A2i (A1e hok),hpk];exact hs1
    have hfin:s.i+(C6 (x.kind,exT x) (if A8 k=3 then 4 else A8 k)).length+1+(C6 (y.kind,exT y) (A8 k+1)).length=s.i+(C6 (x.kind,exT x) (if A8 k=3 then 4 else A8 k)++[sg]++C6 (y.kind,exT y) (A8 k+1)).length:=by simp only [List.length_append,List.length_singleton];omega
    have hadv:adv (B3 (adv s (C6 (x.kind,exT x) (if A8 k=3 then 4 else A8 k)).length o1)) (C6 (y.kind,exT y) (A8 k+1)).length o2=adv s (C6 (x.kind,exT x) (if A8 k=3 then 4 else A8 k)++[sg]++C6 (y.kind,exT y) (A8 k+1)).length (o1+o2):=by
     have a2:s.ops+(o1:Int)+(o2:Int)=s.ops+((o1+o2:Nat):Int):=by omega
     show Rd.mk (s.i+_+1+_) s.e s.pos (s.ops+(o1:Int)+(o2:Int)) s.par=Rd.mk (s.i+_) s.e s.pos (s.ops+((o1+o2:Nat):Int)) s.par;rw [hfin,a2]
    have hdr:=U6 h;have main:lvo E post<=A8 k->∃ y',y'.plain=y.plain/\Bin L E (A8 k+1) (B3 (adv s (C6 (x.kind,exT x) (if A8 k=3 then 4 else A8 k)).length o1)) (y',adv s (C6 (x.kind,exT x) (if A8 k=3 then 4 else A8 k)++[sg]++C6 (y.kind,exT y) (A8 k+1)).length (o1+o2)):=by
     intro hlv;obtain ⟨y',f1,f2,f3⟩:=B0e (least:=A8 k+1) hyc hy (s:=B3 (adv s (C6 (x.kind,exT x) (if A8 k=3 then 4 else A8 k)).length o1)) hd2 hok (by show s.ops+(o1:Int)+(o2:Int)<=32;omega) (by show s.par+_<=16;omega) (by omega) (by omega) (by omega);rw [hadv] at f2 f3;refine ⟨y',f1,?_⟩;by_cases h5':A8 k+1<=5
     ·exact f2 h5'
     ·exact Bin.un (by omega) (f3 (by omega))
    by_cases hlv:lvo E post<=A8 k
    ·obtain ⟨y',f1,f2⟩:=main hlv;refine ⟨.mk k 0 [] [x',y'] sg.pos,?_,fun h=>absurd h (by show ¬ 6<=A8 k;omega),?_⟩
     ·rw [Ex.plain,Ex.plain,Ex.plains,Ex.plains,Ex.plains,Ex.plains,Ex.plains,Ex.plains,e1,f1]
     ·intro n' q1 q2 q3 q4 q5 r hr;have q3:n'<=A8 k:=q3;have key:∀ r',Lop L E (A8 k) (.mk k 0 [] [x',y'] sg.pos) (adv s (C6 (x.kind,exT x) (if A8 k=3 then 4 else A8 k)++[sg]++C6 (y.kind,exT y) (A8 k+1)).length (o1+o2)) r'->(A8 k=3->lvo E post≠3)->Bin L E (A8 k) s r':=by
       intro r' hr' h33;refine e2 r' ?_;by_cases h3:A8 k=3
       ·have hst:=U1 (L:=L) (E:=E) (n:=A8 k) (e:=.mk k 0 [] [x',y'] sg.pos) (s:=adv s (C6 (x.kind,exT x) (if A8 k=3 then 4 else A8 k)++[sg]++C6 (y.kind,exT y) (A8 k+1)).length (o1+o2)) (A1e hok) hlr.1 (by show lvo E (L.drop (s.i+_))≠A8 k;rw [hdr,h3];exact h33 h3);have:=Evt.uniq hr' hst;rw [this];have ht:=Lop.three (L:=L) (E:=E) (n:=A8 k) (e:=x') (x:=y') (s:=adv s (C6 (x.kind,exT x) (if A8 k=3 then 4 else A8 k)).length o1) (by rw [ham];omega) (by rw [ham, <- hj]) h3 f2;rw [ham, <- hj,hpk] at ht;exact ht
       ·refine Lop.more (by rw [ham];omega) (by rw [ham, <- hj]) h3 f2 ?_;rw [ham, <- hj,hpk];exact hr'
      by_cases hnq:n'=A8 k
      ·subst hnq;exact key r hr q5
      ·refine A7p (A1e hok) 6 (m:=A8 k) (by omega) (key _ (U1 (A1e hok) hlr.1 ?_) (by omega)) q1 (by omega) (by omega) ?_ hr
       ·show lvo E (L.drop (s.i+_))≠A8 k;rw [hdr];omega
       ·show lvo E (L.drop (s.i+_))<=n';rw [hdr];exact q4
    ·refine ⟨.mk k 0 [] [x,y] p,rfl,fun h=>absurd h (by show ¬ 6<=A8 k;omega),?_⟩;intro n' q1 q2 q3 q4 q5 r hr;have q3:n'<=A8 k:=q3;omega
theorem A2t {e:Ex} (hv:Q7 e=true) {s:Rd} {post:List Tok} (h:L.drop s.i=exT e++post) (hok:okR s=true) (hl:lvo E post=0) :
  ∃ e' s',e'.plain=e.plain/\Xpn L E s (e',s')/\s'.i=s.i+(exT e).length/\okR s'=true:=by
 unfold Q7 at hv;cases hms:msM e with
 | none=>rw [hms] at hv;cases hv
 | some q =>
  obtain ⟨o,d⟩:=q;rw [hms] at hv;simp only [Bool.and_eq_true,decide_eq_true_eq] at hv;obtain ⟨e',e1, -,e3⟩:=ex_complete (L:=L) (E:=E) (e.sz+1) e (by omega) o d hms { s with ops:=0,par:=0 } post h hok (by show (0:Int)+(o:Int)<=32;omega) (by show (0:Int)+(d:Int)<=16;omega);refine ⟨e',adv { s with ops:=0,par:=0 } (exT e).length o,e1,?_,rfl,hok⟩;refine e3 1 (by decide) (by decide) (O5 _).1 (by omega) (fun h=>absurd h (by decide)) _ (U1 (show okR s=true from hok) (by decide) ?_);show lvo E (L.drop (s.i+_))≠1;rw [U6 h];omega
end
end Go.Pb
namespace Go.Pb
variable [Go.Sym.Tab]
open Go.Sym
section
variable {L:List Tok} {E:Int}
end
mutual
theorem A8v:∀ e:Ex,msM e.plain=msM e
 | .mk k v n a p=>by
  rw [Ex.plain,msM,msM,A8w k 0 a,Ex.plains_map,List.length_map]
theorem A8w:∀ (k:Int) (i:Nat) (l:List Ex),msL k i (Ex.plains l)=msL k i l
 | k,i,[]=>rfl
 | k,i,e :: l=>by
  have hk:e.plain.kind=e.kind:=by cases e;rfl
  rw [Ex.plains,msL,msL,A8v e,A8w k (i+1) l,hk]
end
theorem A6b (e:Ex):Q7 e.plain=Q7 e:=by unfold Q7;rw [A8v]
mutual
theorem A0c:∀ a b:Ex,A4y true a b=true↔a.plain=b.plain
 | .mk k v n a q,.mk k' v' n' a' q'=>by
  have:=A4p a a';simp only [A4y,Bool.and_eq_true,beq_iff_eq,Bool.true_or,this,Ex.plain,Ex.mk.injEq,true_and,and_true]
theorem A4p:∀ a b:List Ex,O6 true a b=true↔Ex.plains a=Ex.plains b
 | [],[]=>by simp [O6,Ex.plains]
 | [],_ :: _=>by simp [O6,Ex.plains]
 | _ :: _,[]=>by simp [O6,Ex.plains]
 | e :: l,e' :: l'=>by
  have h1:=A0c e e';have h2:=A4p l l';simp only [O6,Bool.and_eq_true,h1,h2,Ex.plains,List.cons.injEq]
end
theorem vdE31_eq (e:Ex):A8i e=Q7 e:=by
 cases hv:Q7 e with
 | true =>
  obtain ⟨e',s',h1,h2,h3,h4⟩:=A2t (L:=exT e) (E:=0) hv (s:=rd0) (post:=[]) (by rw [List.append_nil];rfl) rfl rfl;have hu:=(W3 (exT e) 0).uniq h2;unfold A8i;rw [hu];dsimp only;rw [h4,h3,(A0c e' e).2 h1,Bool.true_and,Bool.and_true];simp [rd0]
 | false =>
  cases hd:A8i e with
  | false=>rfl
  | true =>
   unfold A8i at hd;simp only [Bool.and_eq_true] at hd;obtain ⟨f,hf⟩:=(W3 (exT e) 0).get;have h3:=(expn_sound (fun t ht=>(goodE e t ht).1) hf hd.1).2;have h4:=(A0c _ _).1 hd.2.2;rw [<- A6b,h4,A6b,hv] at h3;cases h3
end Go.Pb
set_option maxHeartbeats 8000000
set_option maxRecDepth 100000
namespace Go.Proofs.YthlpinppaclofaaGreatDoor
open Go.Eng (IC IOper DReg IFn B5)
open Go.Sym Go.Pb
theorem c_IF_dc {g:Dc->Bool} {f:Nat} {a cs:List DV} (xs:List (Dc)) (hx:xs.length<=9223372036854775807) (na:DV.nlL a=true) (ncs:DV.nlL cs=true) (hf:∀ x∈xs,PC Tryz.prog f (a++[Dc.v x]++cs) (.bool (g x))) :
  PC Tryz.prog 90 [A0p xs,.func f a cs] (I64 (Y2 g xs 0)):=by
 refine PC.ofT A6 rfl (Nat.le_of_ble_eq_true rfl) (by simp [DV.nlL,DV.nl,A1m,na,ncs]) rfl ?_;repeat' ((with_reducible first|refine wr ?_|refine k_cu ?_ ?_|refine wb2 ?_ ?_<;>(intro hb;try simp only [hb])|fail)<;>try simp only [go_sem,seval,List.length_map])
 refine D6 (fun k:Nat=>[(0,A0p xs),(1,.func f a cs),(7,I64 xs.length),(8,I64 k)]) (fun _=>nil) (fun k _=>k<=xs.length/\Y2 g xs 0=Y2 g (xs.drop k) k) (fun k=>xs.length-k) 0 (by simp [C5,tm,Tm.upd]) (Sub.nil _) (by simp) ?_;rintro k c ⟨hk,he⟩;by_cases hlt:k<xs.length
 ·have hd:decide ((k:Int)<xs.length)=true:=by simpa using hlt
  have hg:=List.getElem?_eq_getElem hlt;have hw:=w64 (n:=(k:Int)+1) (by omega) (by omega);have hst:=A1o (g:=g) hg;have hc:=hf xs[k] (List.getElem_mem hlt);repeat' ((with_reducible first|refine wr ?_|refine cpc hc ?_|refine k_cu ?_ ?_|refine wb2 ?_ ?_<;>(intro hb;try simp only [hb])|fail)<;>try simp only [go_sem,seval,hd,hg,hw])
  ·refine A4 ?_;rw [he,hst,hb];rfl
  ·exact ⟨k+1,rfl,Sub.refl _,inv ⟨by omega,by rw [he,hst,hb];rfl⟩,by omega⟩
 ·have hd:decide ((k:Int)<xs.length)=false:=by simpa using hlt
  repeat' ((with_reducible first|refine wr ?_|refine k_cu ?_ ?_|refine wb2 ?_ ?_<;>(intro hb;try simp only [hb])|fail)<;>try simp only [go_sem,seval,hd])
  refine A4 ?_;rw [he,A3h (by omega)]
theorem c_CF_dc {g:Dc->Bool} {f:Nat} {a cs:List DV} (xs:List (Dc)) (hx:xs.length<=9223372036854775807) (na:DV.nlL a=true) (ncs:DV.nlL cs=true) (hf:∀ x∈xs,PC Tryz.prog f (a++[Dc.v x]++cs) (.bool (g x))) :
  PC Tryz.prog 49 [A0p xs,.func f a cs] (.bool (xs.any g)):=by
 refine PC.ofT A6 rfl (Nat.le_of_ble_eq_true rfl) (by simp [DV.nlL,DV.nl,A1m,na,ncs]) rfl ?_;have hc:=c_IF_dc xs hx na ncs hf;repeat' ((with_reducible first|refine wr ?_|refine cpc hc ?_|refine k_cu ?_ ?_|refine wb2 ?_ ?_<;>(intro hb;try simp only [hb])|fail)<;>try simp only [go_sem,seval])
 refine A4 ?_;rw [A3i]
theorem c_IF_md {g:Md->Bool} {f:Nat} {a cs:List DV} (xs:List (Md)) (hx:xs.length<=9223372036854775807) (na:DV.nlL a=true) (ncs:DV.nlL cs=true) (hf:∀ x∈xs,PC Tryz.prog f (a++[Md.v x]++cs) (.bool (g x))) :
  PC Tryz.prog 92 [B0l xs,.func f a cs] (I64 (Y2 g xs 0)):=by
 refine PC.ofT A6 rfl (Nat.le_of_ble_eq_true rfl) (by simp [DV.nlL,DV.nl,A1l,na,ncs]) rfl ?_;repeat' ((with_reducible first|refine wr ?_|refine k_cu ?_ ?_|refine wb2 ?_ ?_<;>(intro hb;try simp only [hb])|fail)<;>try simp only [go_sem,seval,List.length_map])
 refine D6 (fun k:Nat=>[(0,B0l xs),(1,.func f a cs),(7,I64 xs.length),(8,I64 k)]) (fun _=>nil) (fun k _=>k<=xs.length/\Y2 g xs 0=Y2 g (xs.drop k) k) (fun k=>xs.length-k) 0 (by simp [C5,tm,Tm.upd]) (Sub.nil _) (by simp) ?_;rintro k c ⟨hk,he⟩;by_cases hlt:k<xs.length
 ·have hd:decide ((k:Int)<xs.length)=true:=by simpa using hlt
  have hg:=List.getElem?_eq_getElem hlt;have hw:=w64 (n:=(k:Int)+1) (by omega) (by omega);have hst:=A1o (g:=g) hg;have hc:=hf xs[k] (List.getElem_mem hlt);repeat' ((with_reducible first|refine wr ?_|refine cpc hc ?_|refine k_cu ?_ ?_|refine wb2 ?_ ?_<;>(intro hb;try simp only [hb])|fail)<;>try simp only [go_sem,seval,hd,hg,hw])
  ·refine A4 ?_;rw [he,hst,hb];rfl
  ·exact ⟨k+1,rfl,Sub.refl _,inv ⟨by omega,by rw [he,hst,hb];rfl⟩,by omega⟩
 ·have hd:decide ((k:Int)<xs.length)=false:=by simpa using hlt
  repeat' ((with_reducible first|refine wr ?_|refine k_cu ?_ ?_|refine wb2 ?_ ?_<;>(intro hb;try simp only [hb])|fail)<;>try simp only [go_sem,seval,hd])
  refine A4 ?_;rw [he,A3h (by omega)]
theorem c_CF_md {g:Md->Bool} {f:Nat} {a cs:List DV} (xs:List (Md)) (hx:xs.length<=9223372036854775807) (na:DV.nlL a=true) (ncs:DV.nlL cs=true) (hf:∀ x∈xs,PC Tryz.prog f (a++[Md.v x]++cs) (.bool (g x))) :
  PC Tryz.prog 52 [B0l xs,.func f a cs] (.bool (xs.any g)):=by
 refine PC.ofT A6 rfl (Nat.le_of_ble_eq_true rfl) (by simp [DV.nlL,DV.nl,A1l,na,ncs]) rfl ?_;have hc:=c_IF_md xs hx na ncs hf;repeat' ((with_reducible first|refine wr ?_|refine cpc hc ?_|refine k_cu ?_ ?_|refine wb2 ?_ ?_<;>(intro hb;try simp only [hb])|fail)<;>try simp only [go_sem,seval])
 refine A4 ?_;rw [A3i]
theorem c_IF_st {g:Pb.St->Bool} {f:Nat} {a cs:List DV} (xs:List (Pb.St)) (hx:xs.length<=9223372036854775807) (na:DV.nlL a=true) (ncs:DV.nlL cs=true) (hf:∀ x∈xs,PC Tryz.prog f (a++[Pb.St.v x]++cs) (.bool (g x))) :
  PC Tryz.prog 177 [J4 xs,.func f a cs] (I64 (Y2 g xs 0)):=by
 refine PC.ofT A6 rfl (Nat.le_of_ble_eq_true rfl) (by simp [DV.nlL,DV.nl,A1k,na,ncs]) rfl ?_;repeat' ((with_reducible first|refine wr ?_|refine k_cu ?_ ?_|refine wb2 ?_ ?_<;>(intro hb;try simp only [hb])|fail)<;>try simp only [go_sem,seval,List.length_map])
 refine D6 (fun k:Nat=>[(0,J4 xs),(1,.func f a cs),(7,I64 xs.length),(8,I64 k)]) (fun _=>nil) (fun k _=>k<=xs.length/\Y2 g xs 0=Y2 g (xs.drop k) k) (fun k=>xs.length-k) 0 (by simp [C5,tm,Tm.upd]) (Sub.nil _) (by simp) ?_;rintro k c ⟨hk,he⟩;by_cases hlt:k<xs.length
 ·have hd:decide ((k:Int)<xs.length)=true:=by simpa using hlt
  have hg:=List.getElem?_eq_getElem hlt;have hw:=w64 (n:=(k:Int)+1) (by omega) (by omega);have hst:=A1o (g:=g) hg;have hc:=hf xs[k] (List.getElem_mem hlt);rw [Pb.St.v_w] at hc;repeat' ((with_reducible first|refine wr ?_|refine cpc hc ?_|refine k_cu ?_ ?_|refine wb2 ?_ ?_<;>(intro hb;try simp only [hb])|fail)<;>try simp only [go_sem,seval,hd,hg,hw,Pb.St.v_w])
  ·refine A4 ?_;rw [he,hst,hb];rfl
  ·exact ⟨k+1,rfl,Sub.refl _,inv ⟨by omega,by rw [he,hst,hb];rfl⟩,by omega⟩
 ·have hd:decide ((k:Int)<xs.length)=false:=by simpa using hlt
  repeat' ((with_reducible first|refine wr ?_|refine k_cu ?_ ?_|refine wb2 ?_ ?_<;>(intro hb;try simp only [hb])|fail)<;>try simp only [go_sem,seval,hd])
  refine A4 ?_;rw [he,A3h (by omega)]
theorem c_CF_st {g:Pb.St->Bool} {f:Nat} {a cs:List DV} (xs:List (Pb.St)) (hx:xs.length<=9223372036854775807) (na:DV.nlL a=true) (ncs:DV.nlL cs=true) (hf:∀ x∈xs,PC Tryz.prog f (a++[Pb.St.v x]++cs) (.bool (g x))) :
  PC Tryz.prog 146 [J4 xs,.func f a cs] (.bool (xs.any g)):=by
 refine PC.ofT A6 rfl (Nat.le_of_ble_eq_true rfl) (by simp [DV.nlL,DV.nl,A1k,na,ncs]) rfl ?_;have hc:=c_IF_st xs hx na ncs hf;repeat' ((with_reducible first|refine wr ?_|refine cpc hc ?_|refine k_cu ?_ ?_|refine wb2 ?_ ?_<;>(intro hb;try simp only [hb])|fail)<;>try simp only [go_sem,seval])
 refine A4 ?_;rw [A3i]
theorem c_IF_ex {g:Ex->Bool} {f:Nat} {a cs:List DV} (xs:List (Ex)) (hx:xs.length<=9223372036854775807) (na:DV.nlL a=true) (ncs:DV.nlL cs=true) (hf:∀ x∈xs,PC Tryz.prog f (a++[Ex.v x]++cs) (.bool (g x))) :
  PC Tryz.prog 200 [H9 xs,.func f a cs] (I64 (Y2 g xs 0)):=by
 refine PC.ofT A6 rfl (Nat.le_of_ble_eq_true rfl) (by simp [DV.nlL,DV.nl,Z8,na,ncs]) rfl ?_;repeat' ((with_reducible first|refine wr ?_|refine k_cu ?_ ?_|refine wb2 ?_ ?_<;>(intro hb;try simp only [hb])|fail)<;>try simp only [go_sem,seval,List.length_map])
 refine D6 (fun k:Nat=>[(0,H9 xs),(1,.func f a cs),(7,I64 xs.length),(8,I64 k)]) (fun _=>nil) (fun k _=>k<=xs.length/\Y2 g xs 0=Y2 g (xs.drop k) k) (fun k=>xs.length-k) 0 (by simp [C5,tm,Tm.upd]) (Sub.nil _) (by simp) ?_;rintro k c ⟨hk,he⟩;by_cases hlt:k<xs.length
 ·have hd:decide ((k:Int)<xs.length)=true:=by simpa using hlt
  have hg:=List.getElem?_eq_getElem hlt;have hw:=w64 (n:=(k:Int)+1) (by omega) (by omega);have hst:=A1o (g:=g) hg;have hc:=hf xs[k] (List.getElem_mem hlt);rw [Ex.v_w] at hc;repeat' ((with_reducible first|refine wr ?_|refine cpc hc ?_|refine k_cu ?_ ?_|refine wb2 ?_ ?_<;>(intro hb;try simp only [hb])|fail)<;>try simp only [go_sem,seval,hd,hg,hw,Ex.v_w])
  ·refine A4 ?_;rw [he,hst,hb];rfl
  ·exact ⟨k+1,rfl,Sub.refl _,inv ⟨by omega,by rw [he,hst,hb];rfl⟩,by omega⟩
 ·have hd:decide ((k:Int)<xs.length)=false:=by simpa using hlt
  repeat' ((with_reducible first|refine wr ?_|refine k_cu ?_ ?_|refine wb2 ?_ ?_<;>(intro hb;try simp only [hb])|fail)<;>try simp only [go_sem,seval,hd])
  refine A4 ?_;rw [he,A3h (by omega)]
theorem c_CF_ex {g:Ex->Bool} {f:Nat} {a cs:List DV} (xs:List (Ex)) (hx:xs.length<=9223372036854775807) (na:DV.nlL a=true) (ncs:DV.nlL cs=true) (hf:∀ x∈xs,PC Tryz.prog f (a++[Ex.v x]++cs) (.bool (g x))) :
  PC Tryz.prog 178 [H9 xs,.func f a cs] (.bool (xs.any g)):=by
 refine PC.ofT A6 rfl (Nat.le_of_ble_eq_true rfl) (by simp [DV.nlL,DV.nl,Z8,na,ncs]) rfl ?_;have hc:=c_IF_ex xs hx na ncs hf;repeat' ((with_reducible first|refine wr ?_|refine cpc hc ?_|refine k_cu ?_ ?_|refine wb2 ?_ ?_<;>(intro hb;try simp only [hb])|fail)<;>try simp only [go_sem,seval])
 refine A4 ?_;rw [A3i]
end Go.Proofs.YthlpinppaclofaaGreatDoor
namespace Go.Pb
variable [Go.Sym.Tab]
open Go.Sym
mutual
theorem ms_le:∀ (e:Ex) (o d:Nat),msM e=some (o,d)->o<=e.sz/\d+1<=2 * e.sz
 | .mk k v n a p,o,d,h=>by
  have hs:(Ex.mk k v n a p).sz=1+n.length+Ex.szs a:=by rw [Ex.sz]
  obtain ⟨h1,h2,h3,h4,h5,h6⟩:=B0k h;by_cases hc:G1 k=0
  ·obtain ⟨rfl,rfl⟩:=h5 hc;omega
  ·obtain ⟨d',hl,hd⟩:=h6 hc;have:=msL_le k 0 a o d' hl;rw [hd];split<;>omega
theorem msL_le:∀ (k:Int) (i:Nat) (l:List Ex) (o d:Nat),msL k i l=some (o,d)->o<=Ex.szs l/\d<=2 * Ex.szs l
 | k,i,[],o,d,h=>by simp [msL] at h;omega
 | k,i,e :: l,o,d,h=>by
  rw [msL] at h;have hs:Ex.szs (e :: l)=e.sz+Ex.szs l:=by rw [Ex.szs]
  have hp:=e.sz_pos;cases he:msM e with
  | none=>rw [he] at h;cases h
  | some q =>
   obtain ⟨o1,d1⟩:=q;have h1:=ms_le e o1 d1 he;rw [he] at h;dsimp only at h;cases hl:msL k (i+1) l with
   | none=>rw [hl] at h;cases h
   | some q2 =>
    obtain ⟨o2,d2⟩:=q2;have h2:=msL_le k (i+1) l o2 d2 hl;rw [hl] at h;dsimp only at h;have h3:=Option.some.inj h;have h4:o1+o2=o:=congrArg Prod.fst h3;have h5:max (if N3 k e.kind i=true then d1+1 else d1) d2=d:=congrArg Prod.snd h3;rw [hs];split at h5<;>omega
end
def msV:Option (Nat × Nat)->DV
 | none=>.tup [I64 0,I64 0,.bool false]
 | some (o,d)=>.tup [I64 o,I64 d,.bool true]
theorem msV_nl (q:Option (Nat × Nat)):(msV q).nl=true:=by cases q<;>rfl
theorem msL_drop {k:Int} {a:List Ex} {i:Nat} {x:Ex} (h:a[i]? = some x):msL k i (a.drop i)=match msM x with
  | none=>none
  | some (o,d)=>match msL k (i+1) (a.drop (i+1)) with
   | none=>none
   | some (o2,d2)=>some (o+o2,max (if N3 k x.kind i=true then d+1 else d) d2):=by
 have hlt:=(List.getElem?_eq_some_iff.1 h).1;rw [List.drop_eq_getElem_cons hlt,(List.getElem?_eq_some_iff.1 h).2,msL];try rfl
end Go.Pb
namespace Go.Proofs.YthlpinppaclofaaGreatDoor
open Go.Eng (IC IOper DReg IFn B5)
open Go.Sym Go.Pb
theorem pc_bool {H:Hp} {a b:Bool} (h:a=b):∃ H2,GL H [.bool a] H2 [.bool b]:=⟨H,by rw [h];exact GL.refl _ _⟩
theorem sub_upd2 {b1 b2 b3:Blk} {cc:Nat} (u:Unit) (h:1<=cc):Sym.Sub (Sym.nil.upd 0 b1) (((Sym.nil.upd 0 b1).upd cc b2).upd cc b3):=by
 intro j b hj;simp only [Hp.upd,Sym.nil] at hj ⊢;split at hj
 ·rename_i h0;rw [if_neg (by omega),if_neg (by omega),if_pos h0];exact hj
 ·cases hj
theorem c_levS (k:Int):PC Tryz.prog 112 [I64 k] (I64 (A8 k)):=by
 refine PC.ofT A6 rfl (Nat.le_of_ble_eq_true rfl) (by simp [DV.nlL,DV.nl]) (by simp [DV.nlL,DV.nl]) ?_;repeat' ((with_reducible first|refine wr ?_|refine k_cu ?_ ?_|refine wb2 ?_ ?_<;>(intro hb;try simp only [hb])|fail)<;>try simp only [go_sem,seval])
 all_goals refine A4 (congrArg I64 ?_)
 all_goals simp_all [A8]
 all_goals omega
theorem c_namedS (k:Int):PC Tryz.prog 116 [I64 k] (.bool (W6 k)):=by
 refine PC.ofT A6 rfl (Nat.le_of_ble_eq_true rfl) (by simp [DV.nlL,DV.nl]) (by simp [DV.nlL,DV.nl]) ?_;repeat' ((with_reducible first|refine wr ?_|refine k_cu ?_ ?_|refine wb2 ?_ ?_<;>(intro hb;try simp only [hb])|fail)<;>try simp only [go_sem,seval])
 all_goals refine A4 (congrArg DV.bool ?_)
 all_goals (cases h5:k == 5<;>cases h6:k == 6<;>cases h7:k == 7<;>simp_all [W6])
theorem c_wrapped (e x:Ex) (i:Nat) (h:e.args[i]? = some x) (hi:i<=1):PC Tryz.prog 111 [e.v,I64 i] (.bool (N3 e.kind x.kind i)):=by
 refine PC.ofT A6 rfl (Nat.le_of_ble_eq_true rfl) (by simp [DV.nlL,DV.nl,Ex.nl]) rfl ?_;rw [Ex.v_w];have h1:=c_levS e.kind;have h2:=c_levS x.kind;repeat' ((with_reducible first|refine wr ?_|refine cpc h1 ?_|refine cpc h2 ?_|refine k_cu ?_ ?_|refine wb2 ?_ ?_<;>(intro hb;try simp only [hb])|fail)<;>try simp only [go_sem,seval,h,Ex.v_w])
 all_goals refine pc_bool ?_
 all_goals unfold N3
 all_goals (cases hi1:i == 1<;>cases h3:A8 e.kind == 3<;>simp_all)
 all_goals omega
theorem c_measure:∀ (m:Nat) (e:Ex),e.sz<m->e.sz<=100000000->PC Tryz.prog 66 [e.v] (msV (msM e)):=by
 intro m
 induction m with
 | zero=>intro e h;omega
 | succ m ih =>
 intro e hm hB;have hnl:=e.sz_name;have hx:∀ x∈e.args,PC Tryz.prog 66 [x.v] (msV (msM x)):=fun x hx=>ih x (by have:=Ex.sz_arg hx;omega) (by have:=Ex.sz_arg hx;omega);have hwr:∀ (x:Ex) (i:Nat),e.args[i]? = some x->i<=1->PC Tryz.prog 111 [e.w,I64 i] (.bool (N3 e.kind x.kind i)):=fun x i h hi=>by have:=c_wrapped e x i h hi;rwa [Ex.v_w] at this
 refine PC.ofT A6 rfl (Nat.le_of_ble_eq_true rfl) (by simp [DV.nlL,DV.nl,Ex.nl]) (msV_nl _) ?_;rw [Ex.v_w];obtain ⟨R,hR⟩:∃ R,R=msV (msM e):=⟨_,rfl⟩;rw [<- hR];have hle:=msL_le e.kind 0 e.args;have hal:Ex.szs e.args<e.sz:=by cases e with|mk k v n a p=>rw [Ex.sz];show Ex.szs a<_;omega
 have hargs:∀ x∈e.args,x.sz<=Ex.szs e.args:=fun x hx=>Ex.szs_mem hx;cases e with|mk k v n a p =>
 rw [msM] at hR;dsimp only [Ex.w,Ex.kind,Ex.value,Ex.name,Ex.args,Ex.pos] at hx hwr hle hal hargs hnl ⊢;have hl:=c_levS k;have hnk:=c_namedS k;have hin:=c_IsName n (by omega);have none0:kOk k=false\/a.length≠G1 k\/T9 k n=false\/U8 k v=false->R=.tup [I64 0,I64 0,.bool false]:=fun h=>by rw [hR,if_pos h];rfl
 have ci:((G1 k:Nat):Int)<=2:=by unfold G1;(repeat' split)<;>decide
 have kA:∀ nm vl:Bool,T9 k n=nm->U8 k v=vl->kOk k=true->IW Tryz.prog 113 (pz Tryz.prog 66 (.o (.i (.o (.o (.o .h)))))) ⟨tm [(1,.ptr 0 0),(2,I64 0),(3,I64 0),(5,I64 (G1 k)),(7,.bool nm),(8,.bool vl)],Sym.nil.upd 0 ⟨0,true,[I64 k,I64 v,.str n,H9 a,I64 p]⟩,1⟩ (rt [.tmp 2,.tmp 3,.tmp 4] fun v H' x => ∃ H2,GL H' [v] H2 [R]):=by
  intro nm vl hnm hvl hkk;by_cases hlen:a.length=G1 k
  ·have d0:((a.length:Int) != (G1 k:Int))=false:=by simp [hlen]
   cases nm with
   | false =>
    repeat' ((with_reducible first|refine wr ?_|refine k_cu ?_ ?_|refine wb2 ?_ ?_<;>(intro hb;try simp only [hb])|fail)<;>try simp only [go_sem,seval,d0])
    exact A4 (none0 (.inr (.inr (.inl hnm)))).symm
   | true =>
    cases vl with
    | false =>
     repeat' ((with_reducible first|refine wr ?_|refine k_cu ?_ ?_|refine wb2 ?_ ?_<;>(intro hb;try simp only [hb])|fail)<;>try simp only [go_sem,seval,d0])
     exact A4 (none0 (.inr (.inr (.inr hvl)))).symm
    | true =>
     rw [if_neg (by simp [hkk,hnm,hvl,hlen])] at hR;by_cases hc0:G1 k=0
     ·have d1:((G1 k:Int) == 0)=true:=by simp [hc0]
      rw [if_pos hc0] at hR;repeat' ((with_reducible first|refine wr ?_|refine k_cu ?_ ?_|refine wb2 ?_ ?_<;>(intro hb;try simp only [hb])|fail)<;>try simp only [go_sem,seval,d0,d1])
      exact A4 hR.symm
     ·have d1:((G1 k:Int) == 0)=false:=by simp [hc0]
      rw [if_neg hc0] at hR;repeat' ((with_reducible first|refine wr ?_|refine k_cu ?_ ?_|refine wb2 ?_ ?_<;>(intro hb;try simp only [hb])|fail)<;>try simp only [go_sem,seval,d0,d1])
      have hl2:a.length<=2:=by omega
      refine D6 (fun q:Nat × Nat × Nat=>[(1,.ptr 0 0),(5,I64 (G1 k)),(80,H9 a),(81,I64 a.length),(82,I64 q.1),(2,I64 q.2.1),(3,I64 q.2.2)]) (fun _=>Sym.nil.upd 0 ⟨0,true,[I64 k,I64 v,.str n,H9 a,I64 p]⟩)
       (fun q cc=>1<=cc/\q.1<=a.length/\q.2.1<=q.1 * 1000000000/\q.2.2<=1000000000/\msL k 0 a=(match msL k q.1 (a.drop q.1) with
        | none=>none
        | some (o2,d2)=>some (q.2.1+o2,max q.2.2 d2))) (fun q=>a.length-q.1) (0,0,0) (by simp [C5,tm,Tm.upd]) (Sub.refl _)
       ⟨Nat.le_refl _,Nat.zero_le _,Nat.zero_le _,Nat.zero_le _,by
        rw [List.drop_zero];cases msL k 0 a with
        | none=>rfl
        | some q=>obtain ⟨o2,d2⟩:=q;simp⟩ ?_
      rintro ⟨i,o,d⟩ cc ⟨h1c,hk,ho,hd3,he⟩;dsimp only at hk ho hd3 he ⊢;by_cases hlt:i<a.length
      ·have hd:decide ((i:Int)<a.length)=true:=by simpa using hlt
       have hg:=List.getElem?_eq_getElem hlt;have hw:=w64 (n:=(i:Int)+1) (by omega) (by omega);rw [msL_drop hg] at he;have hmx:=hx _ (List.getElem_mem hlt);have hax:=hargs _ (List.getElem_mem hlt);have hwx:=hwr _ i hg (by omega);have hms:=ms_le a[i];generalize a[i]=x at hg he hmx hax hwx hms;rw [Ex.v_w] at hmx;have hwx:PC Tryz.prog 111 [DV.agg [I64 k,I64 v,DV.str n,H9 a,I64 p],I64 i] (.bool (N3 k x.kind i)):=hwx;have ne0:=U0 0 cc (by omega);cases hq:msM x with
       | none =>
        rw [hq] at he hmx;dsimp only [msV] at he hmx;rw [he] at hR;repeat' ((with_reducible first|refine wr ?_|refine cpc hmx ?_|refine cpc hwx ?_|refine k_cu ?_ ?_|refine wb2 ?_ ?_<;>(intro hb;try simp only [hb])|fail)<;>try simp only [go_sem,seval,hd,hg,hw,Ex.v_w,ne0])
        exact A4 hR.symm
       | some qq =>
        obtain ⟨o1,d1'⟩:=qq;rw [hq] at he hmx;dsimp only [msV] at he hmx;have:=hms o1 d1' hq;have w1:=w64 (n:=(o:Int)+(o1:Int)) (by omega) (by omega);have w2:=w64 (n:=(d1':Int)+1) (by omega) (by omega);cases hwb:N3 k x.kind i with
        | true =>
         rw [hwb] at he;repeat' ((with_reducible first|refine wr ?_|refine cpc hmx ?_|refine cpc hwx ?_|refine k_cu ?_ ?_|refine wb2 ?_ ?_<;>(intro hb;try simp only [hb])|fail)<;>try simp only [go_sem,seval,hd,hg,hw,Ex.v_w,ne0,hwb,w1,w2])
         all_goals (refine ⟨(i+1,o+o1,max d (d1'+1)),⟨by simp,by simp,?_⟩,?_,inv ⟨by omega,by simp only;omega,by simp only;omega,by simp only;omega,?_⟩,by simp only;omega⟩)
         all_goals first
          | (refine congrArg I64 ?_;dsimp only;split<;>omega)
          | exact sub_upd2 () h1c
          | (rw [he];dsimp only;cases msL k (i+1) (a.drop (i+1)) with
           | none=>rfl
           | some q=>obtain ⟨o2,d2⟩:=q;simp [Nat.add_assoc,Nat.max_assoc])
        | false =>
         rw [hwb] at he;repeat' ((with_reducible first|refine wr ?_|refine cpc hmx ?_|refine cpc hwx ?_|refine k_cu ?_ ?_|refine wb2 ?_ ?_<;>(intro hb;try simp only [hb])|fail)<;>try simp only [go_sem,seval,hd,hg,hw,Ex.v_w,ne0,hwb,w1,w2])
         all_goals (refine ⟨(i+1,o+o1,max d (d1')),⟨by simp,by simp,?_⟩,?_,inv ⟨by omega,by simp only;omega,by simp only;omega,by simp only;omega,?_⟩,by simp only;omega⟩)
         all_goals first
          | (refine congrArg I64 ?_;dsimp only;split<;>omega)
          | exact sub_upd2 () h1c
          | (rw [he];dsimp only;cases msL k (i+1) (a.drop (i+1)) with
           | none=>rfl
           | some q=>obtain ⟨o2,d2⟩:=q;simp [Nat.add_assoc,Nat.max_assoc])
      ·have hd:decide ((i:Int)<a.length)=false:=by simpa using hlt
       rw [List.drop_of_length_le (by omega)] at he;have w1:=w64 (n:=(d:Int)+1) (by omega) (by omega);by_cases hc1:G1 k=1
       ·have e1:((G1 k:Int) == 1)=true:=by simp [hc1]
        rw [he,hc1] at hR;repeat' ((with_reducible first|refine wr ?_|refine k_cu ?_ ?_|refine wb2 ?_ ?_<;>(intro hb;try simp only [hb])|fail)<;>try simp only [go_sem,seval,hd,e1,w1])
        refine A4 ?_;rw [hR];simp [msV,msL]
       ·have e1:((G1 k:Int) == 1)=false:=by simp;omega
        rw [he] at hR;simp only [if_neg hc1] at hR;repeat' ((with_reducible first|refine wr ?_|refine k_cu ?_ ?_|refine wb2 ?_ ?_<;>(intro hb;try simp only [hb])|fail)<;>try simp only [go_sem,seval,hd,e1,w1])
        refine A4 ?_;rw [hR];simp [msV,msL]
  ·have d0:((a.length:Int) != (G1 k:Int))=true:=by simp;omega
   repeat' ((with_reducible first|refine wr ?_|refine k_cu ?_ ?_|refine wb2 ?_ ?_<;>(intro hb;try simp only [hb])|fail)<;>try simp only [go_sem,seval,d0])
   exact A4 (none0 (.inr (.inl hlen))).symm
 have kB:∀ nm:Bool,T9 k n=nm->kOk k=true->IW Tryz.prog 113 (pz Tryz.prog 66 (.o (.o (.o (.o (.o .h)))))) ⟨tm [(1,.ptr 0 0),(2,I64 0),(3,I64 0),(5,I64 (G1 k)),(7,.bool nm)],Sym.nil.upd 0 ⟨0,true,[I64 k,I64 v,.str n,H9 a,I64 p]⟩,1⟩ (rt [.tmp 2,.tmp 3,.tmp 4] fun v H' x => ∃ H2,GL H' [v] H2 [R]):=by
  intro nm hnm hkk;repeat' ((with_reducible first|refine E7 (p:=IW _ _ (pz Tryz.prog 66 (.o (.i (.o (.o (.o .h)))))) _ _) ?_|refine wr ?_|refine k_cu ?_ ?_|refine wb2 ?_ ?_<;>(intro hb;try simp only [hb])|fail)<;>try simp only [go_sem,seval])
  all_goals refine IW.stage (L:=[(1,.ptr 0 0),(2,I64 0),(3,I64 0),(5,I64 (G1 k)),(7,.bool nm),(8,.bool (U8 k v))]) ?_ (kA nm _ hnm rfl hkk)
  all_goals simp_all [C5,tm,Tm.upd,U8]
  all_goals omega
 have kC:kOk k=true->IW Tryz.prog 113 (pz Tryz.prog 66 (.o (.o (.o (.i .h))))) ⟨tm [(1,.ptr 0 0),(2,I64 0),(3,I64 0),(5,I64 (G1 k))],Sym.nil.upd 0 ⟨0,true,[I64 k,I64 v,.str n,H9 a,I64 p]⟩,1⟩ (rt [.tmp 2,.tmp 3,.tmp 4] fun v H' x => ∃ H2,GL H' [v] H2 [R]):=by
  intro hkk;repeat' ((with_reducible first|refine E7 (p:=IW _ _ (pz Tryz.prog 66 (.o (.o (.o (.o (.o .h)))))) _ _) ?_|refine wr ?_|refine cpc hnk ?_|refine cpc hin ?_|refine k_cu ?_ ?_|refine wb2 ?_ ?_<;>(intro hb;try simp only [hb])|fail)<;>try simp only [go_sem,seval])
  all_goals refine IW.stage (L:=[(1,.ptr 0 0),(2,I64 0),(3,I64 0),(5,I64 (G1 k)),(7,.bool (T9 k n))]) ?_ (kB _ rfl hkk)
  all_goals simp_all [C5,tm,Tm.upd,T9]
 by_cases l6:A8 k=6
 ·have m6:(A8 k == 6)=true:=by simpa using l6
  repeat' ((with_reducible first|refine E7 (p:=IW _ _ (pz Tryz.prog 66 (.o (.o (.o (.i .h))))) _ _) ?_|refine wr ?_|refine cpc hl ?_|refine k_cu ?_ ?_|refine wb2 ?_ ?_<;>(intro hb;try simp only [hb])|fail)<;>try simp only [go_sem,seval,m6])
  refine IW.stage ?_ (kC (by simp [kOk];left;omega));simp [C5,tm,Tm.upd,G1,l6]
 have m6:(A8 k == 6)=false:=by simpa using l6
 by_cases l5:A8 k<6
 ·have m5:decide (A8 k<6)=true:=by simpa using l5
  repeat' ((with_reducible first|refine E7 (p:=IW _ _ (pz Tryz.prog 66 (.o (.o (.o (.i .h))))) _ _) ?_|refine wr ?_|refine cpc hl ?_|refine k_cu ?_ ?_|refine wb2 ?_ ?_<;>(intro hb;try simp only [hb])|fail)<;>try simp only [go_sem,seval,m6,m5])
  refine IW.stage ?_ (kC (by simp [kOk];left;omega));simp [C5,tm,Tm.upd,G1,l6,l5]
 have m5:decide (A8 k<6)=false:=by simpa using l5
 repeat' ((with_reducible first|refine E7 (p:=IW _ _ (pz Tryz.prog 66 (.o (.o (.o (.i .h))))) _ _) ?_|refine wr ?_|refine cpc hl ?_|refine k_cu ?_ ?_|refine wb2 ?_ ?_<;>(intro hb;try simp only [hb])|fail)<;>try simp only [go_sem,seval,m6,m5])
 all_goals first
  | (refine IW.stage ?_ (kC (by simp_all [kOk]<;>omega));simp [C5,tm,Tm.upd,G1,l6,l5];done)
  | (refine A4 (none0 (.inl ?_)).symm;simp_all [kOk]<;>omega)
theorem c_ValidExpr (e:Ex) (hB:e.sz<=100000000):PC Tryz.prog 30 [e.v] (.bool (Q7 e)):=by
 refine PC.ofT A6 rfl (Nat.le_of_ble_eq_true rfl) (by simp [DV.nlL,DV.nl]) (by simp [DV.nlL,DV.nl]) ?_;have hm:=c_measure _ e (Nat.lt_succ_self _) hB;unfold Q7;rw [Ex.v_w] at hm ⊢;cases hq:msM e with
 | none =>
  rw [hq] at hm;dsimp only [msV] at hm;repeat' ((with_reducible first|refine wr ?_|refine cpc hm ?_|refine k_cu ?_ ?_|refine wb2 ?_ ?_<;>(intro hb;try simp only [hb])|fail)<;>try simp only [go_sem,seval])
  all_goals exact A4 rfl
 | some q =>
  obtain ⟨o,d⟩:=q;rw [hq] at hm;dsimp only [msV] at hm;repeat' ((with_reducible first|refine wr ?_|refine cpc hm ?_|refine k_cu ?_ ?_|refine wb2 ?_ ?_<;>(intro hb;try simp only [hb])|fail)<;>try simp only [go_sem,seval])
  all_goals (refine A4 (congrArg DV.bool ?_);by_cases h1:o<=32<;>by_cases h2:d<=16<;>simp_all<;>omega)
end Go.Proofs.YthlpinppaclofaaGreatDoor
namespace Go.Pb
open Go.Sym
def Shp.v (s:Shp):DV:=.agg [.bool s.name,.bool s.text,I64 s.args,.bool s.thn,.bool s.els]
end Go.Pb
namespace Go.Proofs.YthlpinppaclofaaGreatDoor
open Go.Eng (IC IOper DReg IFn B5)
open Go.Sym Go.Pb
def kndB (k:Int):Bool:=decide (1<=k) && decide (k<=19)
theorem c_shapeOf (k:Int):PC Tryz.prog 153 [I64 k] (.tup [(M9 k).v,.bool (kndB k)]):=by
 refine PC.ofT A6 rfl (Nat.le_of_ble_eq_true rfl) (by simp [DV.nlL,DV.nl]) rfl ?_;repeat' ((with_reducible first|refine wr ?_|refine k_cu ?_ ?_|refine wb2 ?_ ?_<;>(intro hb;try simp only [hb])|fail)<;>try simp only [go_sem,seval])
 all_goals refine A4 ?_
 all_goals simp_all [M9,kndB,Shp.v,tm,Tm.upd]
 all_goals omega
theorem c_isText (s:List UInt8) (hs:s.length<=1000000000):PC Tryz.prog 180 [.str s] (.bool (S0 s)):=by
 refine PC.ofT A6 rfl (Nat.le_of_ble_eq_true rfl) (by simp [DV.nlL,DV.nl]) (by simp [DV.nlL,DV.nl]) ?_;repeat' ((with_reducible first|refine wr ?_|refine k_cu ?_ ?_|refine wb2 ?_ ?_<;>(intro hb;try simp only [hb])|fail)<;>try simp only [go_sem,seval])
 refine D6 (fun k:Nat=>[(0,.str s),(3,I64 k)]) (fun _=>Sym.nil) (fun k _=>k<=s.length/\(s.take k).all txB=true) (fun k=>s.length-k) 0 (by simp [C5,tm,Tm.upd]) (Sub.refl _) ⟨Nat.zero_le _,rfl⟩ ?_;rintro k cc ⟨hk,he⟩;by_cases hlt:k<s.length
 ·have hd:decide ((k:Int)<s.length)=true:=by simpa using hlt
  have hg:=List.getElem?_eq_getElem hlt;have hw:=w64 (n:=(k:Int)+1) (by omega) (by omega);generalize s[k]=x at hg;have hx:txB x=(decide (32<=x.toNat) && decide (x.toNat<=126)):=rfl;repeat' ((with_reducible first|refine wr ?_|refine k_cu ?_ ?_|refine wb2 ?_ ?_<;>(intro hb;try simp only [hb])|fail)<;>try simp only [go_sem,seval,hd,hg,hw])
  ·refine A4 (congrArg DV.bool ?_);have:=A7u txB s k _ hg (by simp_all<;>omega);simp [S0,this]
  ·refine A4 (congrArg DV.bool ?_);have:=A7u txB s k _ hg (by simp_all<;>omega);simp [S0,this]
  ·exact ⟨k+1,rfl,Sub.refl _,inv ⟨by omega,by rw [A9m txB s k _ hg,he];simp_all<;>omega⟩,by omega⟩
 have hd:decide ((k:Int)<s.length)=false:=by simpa using hlt
 have hall:=all_done txB s k (by omega) he;repeat' ((with_reducible first|refine wr ?_|refine k_cu ?_ ?_|refine wb2 ?_ ?_<;>(intro hb;try simp only [hb])|fail)<;>try simp only [go_sem,seval,hd])
 refine A4 (congrArg DV.bool ?_);simp [S0,hall];omega
theorem c_validDecl (d:Dc) (hB:d.name.length<=1000000000):PC Tryz.prog 51 [d.v] (.bool (A7x d)):=by
 refine PC.ofT A6 rfl (Nat.le_of_ble_eq_true rfl) (by simp [DV.nlL,DV.nl]) (by simp [DV.nlL,DV.nl]) ?_;have hn:=c_IsName d.name hB;repeat' ((with_reducible first|refine wr ?_|refine cpc hn ?_|refine k_cu ?_ ?_|refine wb2 ?_ ?_<;>(intro hb;try simp only [hb])|fail)<;>try simp only [go_sem,seval])
 all_goals (refine A4 (congrArg DV.bool ?_);simp_all [A7x]<;>omega)
theorem c_vS1 (e:Ex) (hB:e.sz<=100000000):PC Tryz.prog 179 [e.v] (.bool (!Q7 e)):=by
 refine PC.ofT A6 rfl (Nat.le_of_ble_eq_true rfl) (by simp [DV.nlL,DV.nl]) (by simp [DV.nlL,DV.nl]) ?_;have h:=c_ValidExpr e hB;rw [Ex.v_w] at h ⊢;repeat' ((with_reducible first|refine wr ?_|refine cpc h ?_|refine k_cu ?_ ?_|refine wb2 ?_ ?_<;>(intro hb;try simp only [hb])|fail)<;>try simp only [go_sem,seval])
 exact A4 rfl
theorem vlSt_e (d:Nat) (s:Pb.St):A3s d s=(kndB s.kind && (s.args.length == (M9 s.kind).args && s.args.all Q7) &&
   ((if (M9 s.kind).name=true then C4 s.name else s.name == []) && (if (M9 s.kind).text=true then S0 s.text else s.text == [])) &&
   (((M9 s.kind).thn || s.thn.isEmpty) && ((M9 s.kind).els || s.els.isEmpty)) && (A2v s.thn (d+1) && A2v s.els (d+1))):=by
 cases s with|mk k n t a x y p=>rw [A3s];rfl
theorem B0z {α : Type} (g : α -> Bool) (l:List α):l.any (fun x => !g x) = !l.all g:=by
 induction l with
 | nil=>rfl
 | cons x l ih=>rw [List.any_cons,List.all_cons,ih,Bool.not_and]
theorem c_vSt (s:Pb.St) (d:Nat) (hd:d<=1000000000) (hB:s.sz<=100000000) (hX:PC Tryz.prog 93 [J4 s.thn,I64 (d+1:Nat)] (.bool (A2v s.thn (d+1)))) (hY:PC Tryz.prog 93 [J4 s.els,I64 (d+1:Nat)] (.bool (A2v s.els (d+1)))) :
  PC Tryz.prog 148 [s.v,I64 d] (.bool (A3s d s)):=by
 rw [vlSt_e];have hsa:Ex.szs s.args<s.sz:=by cases s with|mk k n t a x y p=>rw [Pb.St.sz];show Ex.szs a<_;omega
 have hal:=Ex.szs_len s.args;have hxl:=Pb.St.szs_len s.thn;have hyl:=Pb.St.szs_len s.els;have hxs:=s.sz_thn;have hys:=s.sz_els;have hnl:=s.sz_name;have htl:=s.sz_text;have hn:=c_IsName s.name (by omega);have ht:=c_isText s.text (by omega);have hsh:=c_shapeOf s.kind;have hca:=c_CF_ex (f:=179) (a:=[]) (cs:=[]) (g:=fun e => !Q7 e) s.args (by omega) rfl rfl (fun x hx=>c_vS1 x (by have:=Ex.szs_mem hx;omega));rw [B0z] at hca;have hw:=w64 (n:=(d:Int)+1) (by omega) (by omega);refine PC.ofT A6 rfl (Nat.le_of_ble_eq_true rfl) (by rw [Pb.St.v_w];simp [DV.nlL,DV.nl,Z8,A1k]) rfl ?_;cases s with|mk k n t a x y p =>
 dsimp only [Pb.St.kind,Pb.St.name,Pb.St.text,Pb.St.args,Pb.St.thn,Pb.St.els,Pb.St.pos] at *;have hX:PC Tryz.prog 93 [J4 x,I64 ((d:Int)+1)] (.bool (A2v x (d+1))):=hX;have hY:PC Tryz.prog 93 [J4 y,I64 ((d:Int)+1)] (.bool (A2v y (d+1))):=hY;have ev:(Pb.St.mk k n t a x y p).v=.agg [I64 k,.str n,.str t,H9 a,J4 x,J4 y,I64 p]:=Pb.St.v_w _;rw [ev];generalize A2v x (d+1)=bx at *;generalize A2v y (d+1)=bY at *;generalize kndB k=kb at *;obtain ⟨nb,tb,ar,xb,yb,hs⟩:∃ nb tb ar xb yb,M9 k=⟨nb,tb,ar,xb,yb⟩:=⟨_,_,_,_,_,rfl⟩;simp only [hs,Shp.v] at hsh ⊢;have kA:∀ (cc:Nat) (nm tx:Bool),IW Tryz.prog 86 (pz Tryz.prog 148 (.i (.i (.o (.i .h))))) ⟨tm [(1,I64 d),(2,.ptr 0 0),(5,.ptr 1 0),(7,.bool nm),(8,.bool tx)],(Sym.nil.upd 0 ⟨0,true,[I64 k,.str n,.str t,H9 a,J4 x,J4 y,I64 p]⟩).upd 1 ⟨0,true,[.bool nb,.bool tb,I64 ar,.bool xb,.bool yb]⟩,cc⟩ (rt [.tmp 4] fun v H' c => ∃ H2,GL H' [v] H2 [.bool ((nm && tx) && ((xb || x.isEmpty) && (yb || y.isEmpty)) && (bx && bY))]):=by
  intro cc nm tx;have ex:x.isEmpty = !decide ((x.length:Int)>0):=by cases x<;>simp
  have ey:y.isEmpty = !decide ((y.length:Int)>0):=by cases y<;>simp
  rw [ex,ey];cases nm with
  | false =>
   repeat' ((with_reducible first|refine wr ?_|refine k_cu ?_ ?_|refine wb2 ?_ ?_<;>(intro hb;try simp only [hb])|fail)<;>try simp only [go_sem,seval])
   exact A4 (by simp)
  | true =>
  cases tx with
  | false =>
   repeat' ((with_reducible first|refine wr ?_|refine k_cu ?_ ?_|refine wb2 ?_ ?_<;>(intro hb;try simp only [hb])|fail)<;>try simp only [go_sem,seval])
   exact A4 (by simp)
  | true =>
  generalize hlx:decide ((x.length:Int)>0)=lx at *;generalize hly:decide ((y.length:Int)>0)=ly at *;cases bx<;>cases bY<;>cases xb<;>cases lx<;>cases yb<;>cases ly;all_goals (repeat' ((with_reducible first|refine wr ?_|refine cpc hX ?_|refine cpc hY ?_|refine k_cu ?_ ?_|refine wb2 ?_ ?_<;>(intro hb;try simp only [hb])|fail)<;>try simp only [go_sem,seval,hlx,hly,hw,List.length_map]))
  all_goals exact A4 rfl
 have kB:∀ cc:Nat,IW Tryz.prog 86 (pz Tryz.prog 148 (.i (.i (.i .h)))) ⟨tm [(1,I64 d),(2,.ptr 0 0),(5,.ptr 1 0),(7,.bool (n == [])),(8,.bool (t == []))],(Sym.nil.upd 0 ⟨0,true,[I64 k,.str n,.str t,H9 a,J4 x,J4 y,I64 p]⟩).upd 1 ⟨0,true,[.bool nb,.bool tb,I64 ar,.bool xb,.bool yb]⟩,cc⟩ (rt [.tmp 4] fun v H' c => ∃ H2,GL H' [v] H2 [.bool (((if nb=true then C4 n else n == []) && (if tb=true then S0 t else t == [])) && ((xb || x.isEmpty) && (yb || y.isEmpty)) && (bx && bY))]):=by
  intro cc;cases nb<;>cases tb;all_goals (repeat' ((with_reducible first|refine E7 (p:=IW _ _ (pz Tryz.prog 148 (.i (.i (.o (.i .h))))) _ _) ?_|refine wr ?_|refine cpc hn ?_|refine cpc ht ?_|refine k_cu ?_ ?_|refine wb2 ?_ ?_<;>(intro hb;try simp only [hb])|fail)<;>try simp only [go_sem,seval]))
  all_goals (refine IW.stage ?_ (kA _ _ _);simp [C5,tm,Tm.upd])
 cases kb with
 | false =>
  repeat' ((with_reducible first|refine wr ?_|refine cpc hsh ?_|refine k_cu ?_ ?_|refine wb2 ?_ ?_<;>(intro hb;try simp only [hb])|fail)<;>try simp only [go_sem,seval])
  exact A4 (by simp)
 | true =>
 by_cases hal2:a.length=ar
 ·have d0:((a.length:Int) != (ar:Int))=false:=by simp [hal2]
  cases hall:a.all Q7 with
  | false =>
   rw [hall] at hca;repeat' ((with_reducible first|refine wr ?_|refine cpc hsh ?_|refine cpc hca ?_|refine k_cu ?_ ?_|refine wb2 ?_ ?_<;>(intro hb;try simp only [hb])|fail)<;>try simp only [go_sem,seval,d0,List.length_map])
   exact A4 (by simp)
  | true =>
   rw [hall] at hca;have e1:(a.length == ar)=true:=by simpa using hal2
   rw [e1];simp only [Bool.true_and];repeat' ((with_reducible first|refine E7 (p:=IW _ _ (pz Tryz.prog 148 (.i (.i (.i .h)))) _ _) ?_|refine wr ?_|refine cpc hsh ?_|refine cpc hca ?_|refine k_cu ?_ ?_|refine wb2 ?_ ?_<;>(intro hb;try simp only [hb])|fail)<;>try simp only [go_sem,seval,d0,List.length_map,A1])
   refine IW.stage (L:=[(1,I64 d),(2,.ptr 0 0),(5,.ptr 1 0),(7,.bool (n == [])),(8,.bool (t == []))]) ?_ (kB _);simp [C5,tm,Tm.upd]
 ·have d0:((a.length:Int) != (ar:Int))=true:=by simp;omega
  repeat' ((with_reducible first|refine wr ?_|refine cpc hsh ?_|refine k_cu ?_ ?_|refine wb2 ?_ ?_<;>(intro hb;try simp only [hb])|fail)<;>try simp only [go_sem,seval,d0,List.length_map])
  exact A4 (by simp;omega)
theorem c_vB1 (s:Pb.St) (d:Nat) (h:PC Tryz.prog 148 [s.v,I64 d] (.bool (A3s d s))):PC Tryz.prog 147 [s.v,.fptr [I64 d]] (.bool (!A3s d s)):=by
 rw [Pb.St.v_w] at h ⊢;refine PC.ofT A6 rfl (Nat.le_of_ble_eq_true rfl) (by simp [DV.nlL,DV.nl]) (by simp [DV.nlL,DV.nl]) ?_;repeat' ((with_reducible first|refine wr ?_|refine cpc h ?_|refine k_cu ?_ ?_|refine wb2 ?_ ?_<;>(intro hb;try simp only [hb])|fail)<;>try simp only [go_sem,seval])
 exact A4 rfl
theorem A8h (d:Nat):∀ l:List Pb.St,A2u d l=l.all (A3s d)
 | []=>by rw [A2u];rfl
 | s :: l=>by rw [A2u,A8h d l];rfl
theorem c_validBlock:∀ (m:Nat) (l:List Pb.St) (d:Nat),Pb.St.szs l<m->Pb.St.szs l<=100000000->d+Pb.St.szs l<=1000000000->PC Tryz.prog 93 [J4 l,I64 d] (.bool (A2v l d)):=by
 intro m
 induction m with
 | zero=>intro l d h;omega
 | succ m ih =>
 intro l d hm hB hd;have hl:=Pb.St.szs_len l;have hcf:=c_CF_st (f:=147) (a:=[]) (cs:=[.fptr [I64 d]]) (g:=fun s => !A3s d s) l (by omega) rfl rfl (fun s hs=>by
  have h1:=Pb.St.szs_mem hs;have h2:=s.sz_thn;have h3:=s.sz_els;exact c_vB1 s d (c_vSt s d (by omega) (by omega) (ih _ _ (by omega) (by omega) (by omega)) (ih _ _ (by omega) (by omega) (by omega))))
 rw [B0z, <- A8h] at hcf;refine PC.ofT A6 rfl (Nat.le_of_ble_eq_true rfl) (by simp [DV.nlL,DV.nl,A1k]) rfl ?_;have el:l.isEmpty = !decide ((l.length:Int)>0):=by cases l<;>simp
 have e64:decide (l.length<=64) = !decide ((l.length:Int)>64):=by rw [<- decide_not];exact decide_eq_decide.2 (by omega)
 have e8:decide (d<=8) = !decide ((d:Int)>8):=by rw [<- decide_not];exact decide_eq_decide.2 (by omega)
 unfold A2v;rw [el,e64,e8];repeat' ((first|(with_reducible first|refine wr ?_|refine k_cu ?_ ?_)|(with_reducible refine wb2 ?_ ?_<;>(intro hb;try simp only [hb]))|(refine AC.call (hcf.lend rfl (GL.one (id:=0) (b:=⟨0,true,[I64 d]⟩) rfl rfl (.cons _ _ _ _ (.same _) (.cons _ _ _ _ (.func _ _ _ _ _ .nil (.cons _ _ _ _ (.ptr 0 _ (Nat.zero_le _) rfl) .nil)) .nil)))) ?_<;>rintro v H' c' ⟨rfl,rfl,rfl⟩ hcc)|fail)<;>try simp only [go_sem,seval,List.length_map])
 all_goals (refine A4 (congrArg DV.bool ?_);simp_all)
theorem c_validHd (h:Hd) (hB:Pb.St.szs h.body<=100000000):PC Tryz.prog 93 [J4 h.body,I64 1] (.bool (A2v h.body 1)) :=
 c_validBlock _ h.body 1 (Nat.lt_succ_self _) hB (by omega)
theorem hd_w (h:Hd):h.v=.agg [I64 h.trig,.str h.name,J4 h.body,I64 h.pos]:=rfl
theorem c_validMode (d:Md) (hB:d.sz<=100000000):PC Tryz.prog 54 [d.v] (.bool (A1v d)):=by
 have hsz:d.sz=1+d.name.length+(d.hds.map Hd.sz).sum:=rfl;have hhl:d.hds.length<=(d.hds.map Hd.sz).sum:=Z5 fun x _=>by show 1<=1+_+_;omega
 have hn:=c_IsName d.name (by omega);refine PC.ofT A6 rfl (Nat.le_of_ble_eq_true rfl) (by simp [Md.v,DV.nlL,DV.nl,nlL_hds]) rfl ?_;have ev:d.v=.agg [.str d.name,I64 d.prio,A8e d.hds,I64 d.pos]:=rfl;rw [ev];cases hnm:C4 d.name with
 | false =>
  rw [hnm] at hn;repeat' ((with_reducible first|refine wr ?_|refine cpc hn ?_|refine k_cu ?_ ?_|refine wb2 ?_ ?_<;>(intro hb;try simp only [hb])|fail)<;>try simp only [go_sem,seval])
  exact A4 (by simp [A1v,hnm])
 | true =>
 rw [hnm] at hn;by_cases p0:d.prio<0
 ·have q0:decide (d.prio<0)=true:=by simpa using p0
  repeat' ((with_reducible first|refine wr ?_|refine cpc hn ?_|refine k_cu ?_ ?_|refine wb2 ?_ ?_<;>(intro hb;try simp only [hb])|fail)<;>try simp only [go_sem,seval,q0])
  exact A4 (by simp [A1v,hnm];omega)
 have q0:decide (d.prio<0)=false:=by simpa using p0
 by_cases p1:d.prio>2147483647
 ·have q1:decide (d.prio>2147483647)=true:=by simpa using p1
  repeat' ((with_reducible first|refine wr ?_|refine cpc hn ?_|refine k_cu ?_ ?_|refine wb2 ?_ ?_<;>(intro hb;try simp only [hb])|fail)<;>try simp only [go_sem,seval,q0,q1])
  exact A4 (by simp [A1v,hnm];omega)
 have q1:decide (d.prio>2147483647)=false:=by simpa using p1
 by_cases p2:d.hds.length>32
 ·have q2:decide ((d.hds.length:Int)>32)=true:=by simp;omega
  repeat' ((with_reducible first|refine wr ?_|refine cpc hn ?_|refine k_cu ?_ ?_|refine wb2 ?_ ?_<;>(intro hb;try simp only [hb])|fail)<;>try simp only [go_sem,seval,q0,q1,q2,List.length_map])
  exact A4 (by simp [A1v,hnm];omega)
 have q2:decide ((d.hds.length:Int)>32)=false:=by simp;omega
 have er:A1v d=d.hds.all A3t:=by
  unfold A1v;rw [hnm,show decide (0<=d.prio)=true by simp;omega,show decide (d.prio<=2147483647)=true by simp;omega,show decide (d.hds.length<=32)=true by simp;omega];rfl
 rw [er];repeat' ((with_reducible first|refine wr ?_|refine cpc hn ?_|refine k_cu ?_ ?_|refine wb2 ?_ ?_<;>(intro hb;try simp only [hb])|fail)<;>try simp only [go_sem,seval,q0,q1,q2,List.length_map])
 refine D6 (fun k:Nat=>[(27,A8e d.hds),(28,I64 d.hds.length),(29,I64 k)]) (fun _=>Sym.nil) (fun k _=>k<=d.hds.length/\(d.hds.take k).all A3t=true) (fun k=>d.hds.length-k) 0 (by simp [C5,tm,Tm.upd]) (Sub.nil _) ⟨Nat.zero_le _,rfl⟩ ?_;rintro k cc ⟨hk,he⟩;by_cases hlt:k<d.hds.length
 ·have hd:decide ((k:Int)<d.hds.length)=true:=by simpa using hlt
  have hg:=List.getElem?_eq_getElem hlt;have hw:=w64 (n:=(k:Int)+1) (by omega) (by omega);have hs:d.hds[k].sz<=(d.hds.map Hd.sz).sum:=S2 (List.getElem_mem hlt);generalize d.hds[k]=h at hg hs;have hhs:h.sz=1+h.name.length+Pb.St.szs h.body:=rfl;have hn2:=c_IsName h.name (by omega);have hb2:=c_validHd h (by omega);have hf:=A7u A3t d.hds k _ hg;have ht:=A9m A3t d.hds k _ hg;have eh:A3t h=(decide (1<=h.trig) && decide (h.trig<=6) && (if 3<=h.trig then C4 h.name else h.name == []) && A2v h.body 1):=rfl;by_cases t3:3<=h.trig
  ·have u3:decide (h.trig≥3)=true:=by simpa using t3
   rw [if_pos t3] at eh;repeat' ((with_reducible first|refine wr ?_|refine cpc hn2 ?_|refine cpc hb2 ?_|refine k_cu ?_ ?_|refine wb2 ?_ ?_<;>(intro hb;try simp only [hb])|fail)<;>try simp only [go_sem,seval,hd,hg,hw,u3,hd_w,A0,A1])
   all_goals first
    | (refine A4 (congrArg DV.bool (hf ?_).symm);rw [eh];clear hf ht eh er;simp_all<;>omega)
    | (refine ⟨k+1,rfl,Sub.nil _,inv ⟨by omega,?_⟩,by omega⟩;rw [ht,he,eh];clear hf ht eh er;simp_all<;>omega)
  ·have u3:decide (h.trig≥3)=false:=by simpa using t3
   rw [if_neg t3] at eh;repeat' ((with_reducible first|refine wr ?_|refine cpc hn2 ?_|refine cpc hb2 ?_|refine k_cu ?_ ?_|refine wb2 ?_ ?_<;>(intro hb;try simp only [hb])|fail)<;>try simp only [go_sem,seval,hd,hg,hw,u3,hd_w,A0,A1])
   all_goals first
    | (refine A4 (congrArg DV.bool (hf ?_).symm);rw [eh];clear hf ht eh er;simp_all<;>omega)
    | (refine ⟨k+1,rfl,Sub.nil _,inv ⟨by omega,?_⟩,by omega⟩;rw [ht,he,eh];clear hf ht eh er;simp_all<;>omega)
 have hd:decide ((k:Int)<d.hds.length)=false:=by simpa using hlt
 have hall:=all_done A3t d.hds k (by omega) he;repeat' ((with_reducible first|refine wr ?_|refine k_cu ?_ ?_|refine wb2 ?_ ?_<;>(intro hb;try simp only [hb])|fail)<;>try simp only [go_sem,seval,hd])
 exact A4 (by rw [hall])
theorem c_V1 (d:Dc) (hB:d.name.length<=1000000000):PC Tryz.prog 50 [d.v] (.bool (!A7x d)):=by
 have h:=c_validDecl d hB;have ev:d.v=.agg [I64 d.kind,.str d.name,I64 d.value,I64 d.pos]:=rfl;rw [ev] at h ⊢;refine PC.ofT A6 rfl (Nat.le_of_ble_eq_true rfl) (by simp [DV.nlL,DV.nl]) (by simp [DV.nlL,DV.nl]) ?_;repeat' ((with_reducible first|refine wr ?_|refine cpc h ?_|refine k_cu ?_ ?_|refine wb2 ?_ ?_<;>(intro hb;try simp only [hb])|fail)<;>try simp only [go_sem,seval])
 exact A4 rfl
theorem c_V2 (d:Md) (hB:d.sz<=100000000):PC Tryz.prog 53 [d.v] (.bool (!A1v d)):=by
 have h:=c_validMode d hB;have ev:d.v=.agg [.str d.name,I64 d.prio,A8e d.hds,I64 d.pos]:=rfl;rw [ev] at h ⊢;refine PC.ofT A6 rfl (Nat.le_of_ble_eq_true rfl) (by simp [DV.nlL,DV.nl]) (by simp [DV.nlL,DV.nl]) ?_;repeat' ((with_reducible first|refine wr ?_|refine cpc h ?_|refine k_cu ?_ ?_|refine wb2 ?_ ?_<;>(intro hb;try simp only [hb])|fail)<;>try simp only [go_sem,seval])
 exact A4 rfl
theorem c_Valid (r:Ru) (hB:r.sz<=100000000):PC Tryz.prog 23 [r.v] (.bool (A9o r)):=by
 obtain ⟨D,M⟩:=r;have hDs:(D.map Dc.sz).sum+(M.map Md.sz).sum<=100000000:=hB;have hDl:D.length<=(D.map Dc.sz).sum:=Z5 fun x _=>by show 1<=1+_;omega
 have hMl:M.length<=(M.map Md.sz).sum:=Z5 fun x _=>by show 1<=1+_+_;omega
 have h1:=c_CF_dc (f:=50) (a:=[]) (cs:=[]) (g:=fun e => !A7x e) D (by omega) rfl rfl (fun x hx=>c_V1 x (by
  have:x.sz<=(D.map Dc.sz).sum:=S2 hx;have e:x.sz=1+x.name.length:=rfl;omega))
 have h2:=c_CF_md (f:=53) (a:=[]) (cs:=[]) (g:=fun e => !A1v e) M (by omega) rfl rfl (fun x hx=>c_V2 x (by
  have:x.sz<=(M.map Md.sz).sum:=S2 hx;omega))
 rw [B0z] at h1 h2;refine PC.ofT A6 rfl (Nat.le_of_ble_eq_true rfl) (by simp [Ru.v,DV.nlL,DV.nl,A1m,A1l]) rfl ?_;dsimp only [Ru.v];unfold A9o;dsimp only;have e1:decide (D.length<=128) = !decide ((D.length:Int)>128):=by rw [<- decide_not];exact decide_eq_decide.2 (by omega)
 have e2:decide (M.length<=16) = !decide ((M.length:Int)>16):=by rw [<- decide_not];exact decide_eq_decide.2 (by omega)
 rw [e1,e2];generalize D.all A7x=bD at *;generalize M.all A1v=bM at *;repeat' ((with_reducible first|refine wr ?_|refine cpc h1 ?_|refine cpc h2 ?_|refine k_cu ?_ ?_|refine wb2 ?_ ?_<;>(intro hb;try simp only [hb])|fail)<;>try simp only [go_sem,seval,List.length_map])
 all_goals (refine A4 (congrArg DV.bool ?_);simp_all)
open Go.Sym Go.Pb Go.RowKit
section
variable {H:Type} {enc:TypeId × Value->H} {W:World} {hT:TabOk W}
theorem A6c:∀ l:List (DataW H),Rows.uptoBulkAll l=(l.map Rows.uptoBulk).sum
 | []=>by simp [Rows.uptoBulkAll]
 | d :: l=>by rw [Rows.uptoBulkAll,A6c l];simp
theorem T4:Bulky (Rows.uptoBulk (H:=H)) where
 pos:=fun d=>by
  cases d with
  | lit l=>cases l<;>simp [Rows.uptoBulk]
  | nil=>simp [Rows.uptoBulk]
  | ptr d=>simp [Rows.uptoBulk]
  | slice elems spare=>simp [Rows.uptoBulk]
  | agg parts=>simp [Rows.uptoBulk]
  | iface t d=>simp [Rows.uptoBulk]
  | map entries=>simp [Rows.uptoBulk]
  | held h=>simp [Rows.uptoBulk]
 str:=fun l=>by simp [Rows.uptoBulk]
 slc:=fun xs ys=>by simp only [Rows.uptoBulk,A6c];omega
 agg:=fun xs=>by simp only [Rows.uptoBulk,A6c]
abbrev RB (enc:TypeId × Value->H) (W:World) (hT:TabOk W) (t:TypeId) (N:Nat) {α : Type} (G : α -> DV) (sz : α -> Nat):Prop:=ReadsB enc Tryz.prog W hT (Rows.uptoBulk (H:=H)) t N G sz
theorem rbI (N:Nat):RB enc W hT 3 N I64 (fun _=>1):=rb_int T4 Tryz.underlying3
theorem rbS (N:Nat):RB enc W hT 9 N DV.str (fun s=>s.length+1):=rb_str T4 Tryz.underlying9
theorem off5 {fs:Array Field} {k:Nat} (hk:fs.size=k) (h0:((fs.toList.map (·.offset)) == List.range k && fs.toList.all fun f=>Tryz.prog.cellsOf f.type == 1)=true):∀ (j:Nat) f,fs[j]? = some f->f.offset=j/\Tryz.prog.cellsOf f.type=1:=by
 have h:(fs.toList.map (·.offset))=List.range k/\∀ f∈fs.toList,Tryz.prog.cellsOf f.type=1:=by
  rw [Bool.and_eq_true] at h0;exact ⟨by simpa using h0.1,fun f hf=>by simpa using List.all_eq_true.1 h0.2 f hf⟩
 intro j f hf;have hf':fs.toList[j]? = some f:=by simpa using hf
 refine ⟨?_,h.2 f (List.mem_of_getElem? hf')⟩;have e:(fs.toList.map (·.offset))[j]? = some f.offset:=by simp [hf']
 rw [h.1] at e;have:=(List.getElem?_eq_some_iff.1 e);obtain ⟨h1,h2⟩:=this;rw [List.getElem_range] at h2;exact h2.symm
theorem len5 {α : Type} {l:List α} (h:l.length=5):∃ a b c d e,l=[a,b,c,d,e]:=by
 match l,h with
 | [a,b,c,d,e],_=>exact ⟨a,b,c,d,e,rfl⟩
theorem RB.val {t:TypeId} {N n:Nat} {α : Type} {G : α -> DV} {sz : α -> Nat} {y:Value × DataW H × List MemPlace} (h:RB enc W hT t N G sz) (hn:DataW.trod enc Tryz.prog W 0 (fun _=>true) true n t [y.1]=some y.2) (hb:Rows.uptoBulk y.2.1<=N) (hG:∀ a,(G a).cells=[G a]) :
  ∃ a,sz a<=Rows.uptoBulk y.2.1/\VRel (topR W hT) (G a) y.1:=by
 obtain ⟨a,r,q⟩:=h n _ _ hn hb;rw [hG] at q;exact ⟨a,r,q.2 0 _ _ rfl rfl⟩
theorem rbExs {N:Nat} (h:RB enc W hT 55 N Ex.v Ex.sz):RB enc W hT 50 (N+1) (fun l:List Ex=>H9 l) (fun l=>(l.map Ex.sz).sum) :=
 rb_slice T4 (u:=5) (by omega) Tryz.underlying50 (by kernel_rfl) (fun a=>by rw [Ex.v_w];rfl) (fun a d hd=>by
  rw [Ex.v_w] at hd;have hd:d∈[I64 a.kind,I64 a.value,.str a.name,H9 a.args,I64 a.pos]:=hd;simp at hd;rcases hd with rfl|rfl|rfl|rfl|rfl<;>rfl) h
theorem rbEx:∀ N,RB enc W hT 55 N Ex.v Ex.sz
 | 0=>fun n cs x h hx=>by have:=T4.pos x.1;omega
 | N+1=>fun n cs x h hx=>by
  obtain ⟨m,ys,rfl,hl,hb,hp⟩:=rb_parts T4 Tryz.underlying55 rfl (off5 rfl (by kernel_rfl)) (by kernel_rfl) h;obtain ⟨y0,y1,y2,y3,y4,rfl⟩:=len5 hl;simp only [List.map_cons,List.map_nil,List.sum_cons,List.sum_nil] at hb;obtain ⟨a0, -,r0⟩:=(rbI _).val (hp 0 _ y0 rfl rfl) (Nat.le_refl _) (fun _=>rfl);obtain ⟨a1, -,r1⟩:=(rbI _).val (hp 1 _ y1 rfl rfl) (Nat.le_refl _) (fun _=>rfl);obtain ⟨a2,s2,r2⟩:=(rbS _).val (hp 2 _ y2 rfl rfl) (Nat.le_refl _) (fun _=>rfl);obtain ⟨a3,s3,r3⟩:=(rbExs (rbEx N)).val (hp 3 _ y3 rfl rfl) (by omega) (fun _=>rfl);obtain ⟨a4, -,r4⟩:=(rbI _).val (hp 4 _ y4 rfl rfl) (Nat.le_refl _) (fun _=>rfl);refine ⟨.mk a0 a1 a2 a3 a4,?_,?_⟩
  ·rw [Ex.sz,Ex.szs_map];omega
  ·rw [Ex.v_w];exact .cons r0 (.cons r1 (.cons r2 (.cons r3 (.cons r4 .nil))))
theorem upto_mem {l:List (DataW H)} (hk:Rows.uptoSmall H l=true) {d:DataW H} (h:d∈l):Rows.uptoBulk d<=1048576:=by
 have hk:Rows.uptoBulkAll l<=1048576:=by simpa [Rows.uptoSmall] using hk
 have:∀ {l:List (DataW H)},d∈l->Rows.uptoBulk d<=Rows.uptoBulkAll l:=by
  intro l h
  induction l with
  | nil=>cases h
  | cons x r ih =>
   simp only [Rows.uptoBulkAll];rcases List.mem_cons.1 h with rfl|e
   ·omega
   ·have:=ih e;omega
 exact Nat.le_trans (this h) hk
end
end Go.Proofs.YthlpinppaclofaaGreatDoor
set_option maxHeartbeats 4000000
namespace Go.Proofs.YthlpinppaclofaaGreatDoor
open Go.Eng (IC IOper DReg IFn B5)
open Go.Sym
abbrev x167:XT Tryz.prog 167:=mkF (by unfold B5;conv=>lhs;reduce;simp only [seval,u8n]) (fun h=>by conv=>lhs;cbv)
instance t167:FT Tryz.prog 167 x167.d:=x167.ft
abbrev x124:XT Tryz.prog 124:=mkF (by unfold B5;conv=>lhs;reduce;simp only [seval,u8n]) (fun h=>by conv=>lhs;cbv)
instance t124:FT Tryz.prog 124 x124.d:=x124.ft
abbrev x71:XT Tryz.prog 71:=mkF (by unfold B5;conv=>lhs;reduce;simp only [seval,u8n]) (fun h=>by conv=>lhs;cbv)
instance t71:FT Tryz.prog 71 x71.d:=x71.ft
abbrev x125:XT Tryz.prog 125:=mkF (by unfold B5;conv=>lhs;reduce;simp only [seval,u8n]) (fun h=>by conv=>lhs;cbv)
instance t125:FT Tryz.prog 125 x125.d:=x125.ft
abbrev x171:XT Tryz.prog 171:=mkF (by unfold B5;conv=>lhs;reduce;simp only [seval,u8n]) (fun h=>by conv=>lhs;cbv)
instance t171:FT Tryz.prog 171 x171.d:=x171.ft
abbrev x169:XT Tryz.prog 169:=mkF (by unfold B5;conv=>lhs;reduce;simp only [seval,u8n]) (fun h=>by conv=>lhs;cbv)
instance t169:FT Tryz.prog 169 x169.d:=x169.ft
abbrev x168:XT Tryz.prog 168:=mkF (by unfold B5;conv=>lhs;reduce;simp only [seval,u8n]) (fun h=>by conv=>lhs;cbv)
instance t168:FT Tryz.prog 168 x168.d:=x168.ft
abbrev x170:XT Tryz.prog 170:=mkF (by unfold B5;conv=>lhs;reduce;simp only [seval,u8n]) (fun h=>by conv=>lhs;cbv)
instance t170:FT Tryz.prog 170 x170.d:=x170.ft
abbrev x70:XT Tryz.prog 70:=mkF (by unfold B5;conv=>lhs;reduce;simp only [seval,u8n]) (fun h=>by conv=>lhs;cbv)
instance t70:FT Tryz.prog 70 x70.d:=x70.ft
abbrev x56:XT Tryz.prog 56:=mkF (by unfold B5;conv=>lhs;reduce;simp only [seval,u8n]) (fun h=>by conv=>lhs;cbv)
instance t56:FT Tryz.prog 56 x56.d:=x56.ft
abbrev x58:XT Tryz.prog 58:=mkF (by unfold B5;conv=>lhs;reduce;simp only [seval,u8n]) (fun h=>by conv=>lhs;cbv)
instance t58:FT Tryz.prog 58 x58.d:=x58.ft
abbrev x188:XT Tryz.prog 188:=mkF (by unfold B5;conv=>lhs;reduce;simp only [seval,u8n]) (fun h=>by conv=>lhs;cbv)
instance t188:FT Tryz.prog 188 x188.d:=x188.ft
abbrev x159:XT Tryz.prog 159:=mkF (by unfold B5;conv=>lhs;reduce;simp only [seval,u8n]) (fun h=>by conv=>lhs;cbv)
instance t159:FT Tryz.prog 159 x159.d:=x159.ft
abbrev x115:XT Tryz.prog 115:=mkF (by unfold B5;conv=>lhs;reduce;simp only [seval,u8n]) (fun h=>by conv=>lhs;cbv)
instance t115:FT Tryz.prog 115 x115.d:=x115.ft
abbrev x69:XT Tryz.prog 69:=mkF (by unfold B5;conv=>lhs;reduce;simp only [seval,u8n]) (fun h=>by conv=>lhs;cbv)
instance t69:FT Tryz.prog 69 x69.d:=x69.ft
abbrev x123:XT Tryz.prog 123:=mkF (by unfold B5;conv=>lhs;reduce;simp only [seval,u8n]) (fun h=>by conv=>lhs;cbv)
instance t123:FT Tryz.prog 123 x123.d:=x123.ft
abbrev x166:XT Tryz.prog 166:=mkF (by unfold B5;conv=>lhs;reduce;simp only [seval,u8n]) (fun h=>by conv=>lhs;cbv)
instance t166:FT Tryz.prog 166 x166.d:=x166.ft
abbrev x197:XT Tryz.prog 197:=mkF (by unfold B5;conv=>lhs;reduce;simp only [seval,u8n]) (fun h=>by conv=>lhs;cbv)
instance t197:FT Tryz.prog 197 x197.d:=x197.ft
abbrev x196:XT Tryz.prog 196:=mkF (by unfold B5;conv=>lhs;reduce;simp only [seval,u8n]) (fun h=>by conv=>lhs;cbv)
instance t196:FT Tryz.prog 196 x196.d:=x196.ft
abbrev x210:XT Tryz.prog 210:=mkF (by unfold B5;conv=>lhs;reduce;simp only [seval,u8n]) (fun h=>by conv=>lhs;cbv)
instance t210:FT Tryz.prog 210 x210.d:=x210.ft
abbrev x198:XT Tryz.prog 198:=mkF (by unfold B5;conv=>lhs;reduce;simp only [seval,u8n]) (fun h=>by conv=>lhs;cbv)
instance t198:FT Tryz.prog 198 x198.d:=x198.ft
abbrev x211:XT Tryz.prog 211:=mkF (by unfold B5;conv=>lhs;reduce;simp only [seval,u8n]) (fun h=>by conv=>lhs;cbv)
instance t211:FT Tryz.prog 211 x211.d:=x211.ft
abbrev x222:XT Tryz.prog 222:=mkF (by unfold B5;conv=>lhs;reduce;simp only [seval,u8n]) (fun h=>by conv=>lhs;cbv)
instance t222:FT Tryz.prog 222 x222.d:=x222.ft
abbrev x126:XT Tryz.prog 126:=mkF (by unfold B5;conv=>lhs;reduce;simp only [seval,u8n]) (fun h=>by conv=>lhs;cbv)
instance t126:FT Tryz.prog 126 x126.d:=x126.ft
abbrev x172:XT Tryz.prog 172:=mkF (by unfold B5;conv=>lhs;reduce;simp only [seval,u8n]) (fun h=>by conv=>lhs;cbv)
instance t172:FT Tryz.prog 172 x172.d:=x172.ft
abbrev x127:XT Tryz.prog 127:=mkF (by unfold B5;conv=>lhs;reduce;simp only [seval,u8n]) (fun h=>by conv=>lhs;cbv)
instance t127:FT Tryz.prog 127 x127.d:=x127.ft
abbrev x73:XT Tryz.prog 73:=mkF (by unfold B5;conv=>lhs;reduce;simp only [seval,u8n]) (fun h=>by conv=>lhs;cbv)
instance t73:FT Tryz.prog 73 x73.d:=x73.ft
abbrev x36:XT Tryz.prog 36:=mkF (by unfold B5;conv=>lhs;reduce;simp only [seval,u8n]) (fun h=>by conv=>lhs;cbv)
instance t36:FT Tryz.prog 36 x36.d:=x36.ft
abbrev x33:XT Tryz.prog 33:=mkF (by unfold B5;conv=>lhs;reduce;simp only [seval,u8n]) (fun h=>by conv=>lhs;cbv)
instance t33:FT Tryz.prog 33 x33.d:=x33.ft
end Go.Proofs.YthlpinppaclofaaGreatDoor
namespace Go.Pb
variable [Go.Sym.Tab]
open Go.Sym
def G4 (t:Tok):Prop:=(t.kind=2->C9 t.text=true)/\(t.kind=5->C9 t.text=false)
theorem word_hd {s:List UInt8} (h:C9 s=true):∃ c r,s=c :: r/\ltB c=true:=by
 have key:∀ w∈D0,(match w with|c :: _=>ltB c | []=>false)=true:=by decide +kernel
 have hm:s∈D0:=by simpa [C9] using h
 have:=key s hm;cases s with
 | nil=>simp at this
 | cons c r=>exact ⟨c,r,rfl,this⟩
theorem nextM_kind {s:List UInt8} {p:Int} (h:(A5 s).err=0):G4 (nxT (A5 s) p):=by
 unfold G4;cases s with
 | nil=>simp [A5,nxE] at h
 | cons c q =>
  by_cases hl:ltB c=true
  ·by_cases h12:12<B8 ptB (c :: q)
   ·rw [A5,if_pos hl,if_pos h12] at h;simp [nxE] at h
   ·rw [A5,if_pos hl,if_neg h12,nxT];cases hz:C9 ((c :: q).take (B8 ptB (c :: q))) with
    | true=>exact ⟨fun _=>rfl,fun hk=>by simp at hk⟩
    | false=>exact ⟨fun hk=>by simp at hk,fun _=>rfl⟩
  ·by_cases hd:dgB c=true
   ·by_cases h3:1<B8 dgB (c :: q)/\c.toNat=48
    ·rw [A5,if_neg hl,if_pos hd,if_pos h3] at h;simp [nxE] at h
    ·by_cases h2:2147483647<J7 ((c :: q).take (B8 dgB (c :: q)))
     ·rw [A5,if_neg hl,if_pos hd,if_neg h3,if_pos h2] at h;simp [nxE] at h
     ·rw [A5,if_neg hl,if_pos hd,if_neg h3,if_neg h2,nxT];exact ⟨fun hk=>by simp at hk,fun hk=>by simp at hk⟩
   ·by_cases h34:c.toNat=34
    ·cases hq:quM q with
     | none=>rw [A5,if_neg hl,if_neg hd,if_pos h34,hq] at h;simp [nxE] at h
     | some x =>
      obtain ⟨t,m⟩:=x;by_cases h32:32<t.length
      ·rw [A5,if_neg hl,if_neg hd,if_pos h34,hq] at h;simp only at h;rw [if_pos h32] at h;simp [nxE] at h
      ·rw [A5,if_neg hl,if_neg hd,if_pos h34,hq];simp only;rw [if_neg h32,nxT];exact ⟨fun hk=>by simp at hk,fun hk=>by simp at hk⟩
    ·by_cases hs:D2 (c :: q)=0
     ·rw [A5,if_neg hl,if_neg hd,if_neg h34,if_pos hs] at h;simp [nxE] at h
     ·rw [A5,if_neg hl,if_neg hd,if_neg h34,if_neg hs,nxT];refine ⟨fun hk=>by simp at hk,fun _=>?_⟩;simp only;cases hz:C9 ((c :: q).take (D2 (c :: q))) with
      | false=>rfl
      | true =>
       obtain ⟨d,r,h1,h2⟩:=word_hd hz;obtain ⟨k,hk⟩:∃ k,D2 (c :: q)=k+1:=⟨D2 (c :: q)-1,by omega⟩;rw [hk] at h1;simp only [List.take_succ_cons,List.cons.injEq] at h1;rw [<- h1.1] at h2;exact absurd h2 hl
theorem A8m {s:List UInt8} (h:(B4 s).2.2=0):∀ t∈(B4 s).1,G4 t:=fun t ht=>by
 obtain ⟨s,p,h1,rfl⟩:=A9u h t ht;exact nextM_kind h1
def N1 (x:List UInt8):Nat->List (List UInt8)->Int
 | _,[] => -1
 | k,w :: l=>if (x == w)=true then (k:Int) else N1 x (k+1) l
theorem A7g (x:List UInt8):∀ (l:List (List UInt8)) (k:Nat),(N1 x k l = -1/\l.contains x=false)\/((k:Int)<=N1 x k l/\N1 x k l<((k+l.length:Nat):Int)/\l.contains x=true)
 | [],k=>.inl ⟨rfl,rfl⟩
 | w :: l,k=>by
  have:=A7g x l (k+1);unfold N1;cases h:(x == w) with
  | true=>exact .inr ⟨by simp,by simp only [if_true,List.length_cons];omega,by simp at h;simp [h]⟩
  | false =>
   simp only [Bool.false_eq_true,if_false,List.length_cons,List.contains_cons,h,Bool.false_or];rcases this with ⟨h1,h2⟩|⟨h1,h2,h3⟩
   ·exact .inl ⟨h1,h2⟩
   ·exact .inr ⟨by omega,by omega,h3⟩
section
variable {L:List Tok} {E:Int}
def isP (L:List Tok) (E:Int) (s:Rd) (k:Int) (l:List (List UInt8)):Bool:=okR s && (A3 L E s).kind == k && l.contains (A3 L E s).text
theorem A8s (hK:∀ t∈L,G4 t) (s:Rd):G4 (A3 L E s):=by
 by_cases h:(A3 L E s).kind=0
 ·unfold G4;rw [h];exact ⟨fun h=>(by cases h),fun h=>(by cases h)⟩
 ·exact hK _ (G9 h rfl).1
theorem R1 (hK:∀ t∈L,G4 t) {s:Rd} {w:List UInt8} (hw:C9 w=true):isR L E s w=isP L E s 2 [w]:=by
 have:=A8s (E:=E) hK s;unfold isR isP;generalize A3 L E s=t at *;cases okR s<;>simp only [Bool.true_and,Bool.false_and];by_cases ht:t.text=w
 ·subst ht;have h5:t.kind≠5:=fun h=>by rw [this.2 h] at hw;cases hw
  simp [h5]
 ·simp [ht]
theorem E8 (hK:∀ t∈L,G4 t) {s:Rd} {w:List UInt8} (hw:C9 w=false):isR L E s w=isP L E s 5 [w]:=by
 have:=A8s (E:=E) hK s;unfold isR isP;generalize A3 L E s=t at *;cases okR s<;>simp only [Bool.true_and,Bool.false_and];by_cases ht:t.text=w
 ·subst ht;have h5:t.kind≠2:=fun h=>by rw [this.1 h] at hw;cases hw
  simp [h5]
 ·simp [ht]
theorem A7t {s:Rd} {k:Int}:∀ {l:List (List UInt8)},(∀ w∈l,isR L E s w=isP L E s k [w])->(okR s && (A3 L E s).kind == k)=false->∀ j,P5 L E s j l = -1
 | [],_,_,_=>rfl
 | w :: l,h,h0,j=>by
  have h1:=h w (List.mem_cons_self);have:isP L E s k [w]=false:=by unfold isP;rw [h0];rfl
  rw [P5,h1,this,if_neg (by decide)];exact A7t (fun w hw=>h w (List.mem_cons_of_mem _ hw)) h0 (j+1)
theorem V9 {s:Rd} {k:Int}:∀ {l:List (List UInt8)},(∀ w∈l,isR L E s w=isP L E s k [w])->(okR s && (A3 L E s).kind == k)=true->∀ j,P5 L E s j l=N1 (A3 L E s).text j l
 | [],_,_,_=>rfl
 | w :: l,h,h0,j=>by
  have h1:=h w (List.mem_cons_self);have:isP L E s k [w]=((A3 L E s).text == w):=by unfold isP;rw [h0];simp only [List.contains_cons,List.contains_nil,Bool.or_false,Bool.true_and]
  rw [P5,N1,h1,this,V9 (fun w hw=>h w (List.mem_cons_of_mem _ hw)) h0 (j+1)]
theorem A5u {s:Rd} {k:Int} {l:List (List UInt8)} (h:∀ w∈l,isR L E s w=isP L E s k [w]):isP L E s k l=decide (0<=B7 L E s l):=by
 unfold B7 isP;cases h0:(okR s && (A3 L E s).kind == k) with
 | false=>rw [A7t h h0];rfl
 | true =>
  rw [V9 h h0];rcases A7g (A3 L E s).text l 0 with ⟨h1,h2⟩|⟨h1,h2,h3⟩
  ·rw [h1,h2];rfl
  ·rw [h3];simp only [Bool.and_true];exact (decide_eq_true (by simpa using h1)).symm
theorem A2j (hK:∀ t∈L,G4 t) (s:Rd) {l:List (List UInt8)} (h:l.all C9=true):∀ w∈l,isR L E s w=isP L E s 2 [w]:=fun w hw=>R1 hK (List.all_eq_true.1 h w hw)
theorem signsR (hK:∀ t∈L,G4 t) (s:Rd) {l:List (List UInt8)} (h:l.all (fun w => !C9 w)=true):∀ w∈l,isR L E s w=isP L E s 5 [w]:=fun w hw=>E8 hK (by simpa using List.all_eq_true.1 h w hw)
def pfl (L:List Tok) (E:Int) (s:Rd) (e:Int):Rd:=G3 s (A3 L E s).pos e
theorem S7 {s:Rd} {n m e:Int}:C0 L E s n m e=if m<n then pfl L E s e else s:=rfl
def E0 (L:List Tok) (E:Int) (s:Rd) (k:Int) (w:List UInt8):Rd:=if isP L E s k [w]=false then pfl L E s 4 else B3 s
structure Eqv (s m:Rd):Prop where
 e:s.e=m.e
 p:s.pos=m.pos
 s:okR m=true->s=m
theorem Eqv.refl (s:Rd):Eqv s s:=⟨rfl,rfl,fun _=>rfl⟩
theorem Eqv.ok {s m:Rd} (h:Eqv s m):okR s=okR m:=by unfold okR;rw [h.e]
theorem Eqv.cas {s m:Rd} (h:Eqv s m):(s=m/\okR m=true)\/(okR s=false/\okR m=false):=by
 cases k:okR m with
 | true=>exact .inl ⟨h.s k,rfl⟩
 | false=>exact .inr ⟨by rw [h.ok,k],rfl⟩
theorem S4 {s:Rd} {e:Int} (h:okR s=false):pfl L E s e=s:=by unfold pfl G3;rw [h];rfl
theorem B0p {s:Rd} {k:Int} {l:List (List UInt8)} (h:okR s=false):isP L E s k l=false:=by unfold isP;rw [h];rfl
theorem isR_nok {s:Rd} {w:List UInt8} (h:okR s=false):isR L E s w=false:=by unfold isR;rw [h];rfl
theorem B0q {s:Rd} {k:Int} (h:okR s=false):F2 L E s k=false:=by unfold F2;rw [h];rfl
theorem A5z {s:Rd} {k:Int} {w:List UInt8} (h:okR s=false):E0 L E s k w=s:=by unfold E0;rw [B0p h,if_pos rfl,S4 h]
theorem A5i {s:Rd} (h:okR s=false):K8 L E s=s:=S4 h
theorem lim_nok {s:Rd} {n m e:Int} (h:okR s=false):C0 L E s n m e=s:=by rw [S7,S4 h];split<;>rfl
theorem A3k {s:Rd} {w:List UInt8} (h:okR s=false):C7 L E s w=s:=by unfold C7;rw [isR_nok h,if_pos rfl,A5i h]
theorem take_nok {s:Rd} {k:Int} (h:okR s=false):A9 L E s k=(M1,s):=by unfold A9;rw [B0q h,if_pos rfl,A5i h]
theorem Eqv.want {s m:Rd} {k:Int} {w:List UInt8} (h:Eqv s m) (hw:∀ s:Rd,isR L E s w=isP L E s k [w]):Eqv (E0 L E s k w) (C7 L E m w):=by
 rcases h.cas with ⟨rfl,_⟩|⟨h1,h2⟩
 ·unfold E0 C7;rw [hw];exact .refl _
 ·rw [A5z h1,A3k h2];exact h
theorem Eqv.take {s m:Rd} {k:Int} (h:Eqv s m):Eqv (A9 L E s k).2 (A9 L E m k).2/\(A9 L E s k).1=(A9 L E m k).1:=by
 rcases h.cas with ⟨rfl,_⟩|⟨h1,h2⟩
 ·exact ⟨.refl _,rfl⟩
 ·rw [take_nok h1,take_nok h2];exact ⟨h,rfl⟩
theorem Eqv.bad {s m:Rd} (e:s.e=m.e) (p:s.pos=m.pos) (h:okR m=false):Eqv s m:=⟨e,p,fun k=>by rw [h] at k;cases k⟩
structure PI (L:List Tok) (s:Rd):Prop where
 i:s.i<=L.length
 o0:0<=s.ops
 o1:s.ops<=32
 p0:0<=s.par
 p1:s.par<=16
theorem A6r {s:Rd} {e:Int}:(pfl L E s e).i=s.i/\(pfl L E s e).ops=s.ops/\(pfl L E s e).par=s.par:=by unfold pfl G3;split<;>exact ⟨rfl,rfl,rfl⟩
theorem PI.fl {s:Rd} {e:Int} (h:PI L s):PI L (pfl L E s e):=by
 obtain ⟨h1,h2,h3⟩:=A6r (L:=L) (E:=E) (s:=s) (e:=e);exact ⟨by rw [h1];exact h.i,by rw [h2];exact h.o0,by rw [h2];exact h.o1,by rw [h3];exact h.p0,by rw [h3];exact h.p1⟩
theorem P3 {s:Rd} {k:Int} {l:List (List UInt8)} (hk:k≠0) (h:isP L E s k l=true):okR s=true/\s.i<L.length/\(A3 L E s).kind=k:=by
 unfold isP at h;simp only [Bool.and_eq_true,beq_iff_eq] at h;exact ⟨h.1.1,(G9 hk h.1.2).2,h.1.2⟩
theorem PI.nxt {s:Rd} (h:PI L s) (hi:s.i<L.length):PI L (B3 s):=⟨hi,h.o0,h.o1,h.p0,h.p1⟩
theorem PI.want {s:Rd} {k:Int} {w:List UInt8} (hk:k≠0) (h:PI L s):PI L (E0 L E s k w)/\(E0 L E s k w).par=s.par:=by
 unfold E0;cases q:isP L E s k [w] with
 | false=>rw [if_pos rfl];exact ⟨h.fl,A6r.2.2⟩
 | true=>rw [if_neg (by decide)];exact ⟨h.nxt (P3 hk q).2.1,rfl⟩
theorem PI.take {s:Rd} {x:Int} (hx:x≠0) (h:PI L s):PI L (A9 L E s x).2/\(A9 L E s x).2.par=s.par:=by
 unfold A9;cases k:F2 L E s x with
 | false=>rw [if_pos rfl];exact ⟨h.fl,A6r.2.2⟩
 | true=>rw [if_neg (by simp)];exact ⟨h.nxt (G9 hx (J2 k).2).2,rfl⟩
theorem A6q {s:Rd} (h:okR s=false):E6 L E s=(Ex0,s):=by
 unfold E6;dsimp only;rw [B7,A0f h,B0q h,B0q h,A5i h,if_pos ⟨by decide,rfl,rfl⟩]
theorem EN.all:∀ f:Nat,(∀ n s r,D3 L E f n s=some r->okR s=false->r=(Ex0,s))/\(∀ n e s r,F9 L E f n e s=some r->okR s=false->r=(e,s))/\(∀ s r,G8 L E f s=some r->okR s=false->r=(Ex0,s))
 | 0=>⟨fun n s r h=>(by simp [D3] at h),fun n e s r h=>(by simp [F9] at h),fun s r h=>(by simp [G8] at h)⟩
 | f+1=>by
  obtain ⟨ib,il,iu⟩:=EN.all f;refine ⟨fun n s r h ho=>?_,fun n e s r h ho=>?_,fun s r h ho=>?_⟩
  ·unfold D3 at h;split at h
   ·exact iu _ _ h ho
   ·cases hb:D3 L E f (n+1) s with
    | none=>rw [hb] at h;cases h
    | some q =>
     obtain rfl:=ib _ _ _ hb ho;rw [hb] at h;exact il _ _ _ _ h ho
  ·unfold F9 at h;dsimp only at h;rw [B7,A0f ho,if_pos (.inl (by decide))] at h;cases h;rfl
  ·unfold G8 at h;dsimp only at h;rw [B7,A0f ho,if_pos (by decide),A6q ho] at h;cases h;rfl
theorem expn_nok {f:Nat} {s:Rd} {r:Ex × Rd} (h:F4 L E f s=some r) (ho:okR s=false):r=(Ex0, { s with ops:=0,par:=0 }):=(EN.all f).1 _ _ _ h ho
theorem st_nok2 {f:Nat} {d:Int} {s:Rd} {r:St × Rd} (h:O8 L E f d s=some r) (ho:okR s=false):r=(St0,s):=by
 cases f with
 | zero=>simp [O8] at h
 | succ f =>
  unfold O8 at h;simp only [lim_nok ho,ho] at h;cases h;rfl
theorem blp_nok {f:Nat} {d:Int} {l:List St} {s:Rd} {r:List St × Rd} (h:S1 L E f d l s=some r) (ho:okR s=false):r=(l,s):=by
 cases f with
 | zero=>simp [S1] at h
 | succ f =>
  unfold S1 at h;rw [ho,if_neg (by simp),A3k ho] at h;cases h;rfl
theorem blk_nok {f:Nat} {d:Int} {s:Rd} {r:List St × Rd} (h:I8 L E f d s=some r) (ho:okR s=false):r=([],s):=by
 cases f with
 | zero=>simp [I8] at h
 | succ f =>
  unfold I8 at h;rw [A3k ho] at h;exact blp_nok h ho
theorem Eqv.isP {s m:Rd} {k:Int} {l:List (List UInt8)} (h:Eqv s m):isP L E s k l=isP L E m k l:=by
 rcases h.cas with ⟨rfl,_⟩|⟨h1,h2⟩
 ·rfl
 ·rw [B0p h1,B0p h2]
theorem Eqv.par {s m:Rd} {a b:Int} (h:Eqv s m) (hab:okR m=true->a=b):Eqv { s with par:=a } { m with par:=b }:=by
 refine ⟨h.e,h.p,fun k=>?_⟩;have:=h.s k;subst this;rw [hab k]
theorem amg_tx (hK:∀ t∈L,G4 t) {m:Rd} {w:List UInt8} (hp:isP L E m 5 [w]=true) (l:List (List UInt8)) (hl:l.all (fun w => !C9 w)=true):B7 L E m l=N1 w 0 l:=by
 have ho:(okR m && (A3 L E m).kind == 5)=true:=by unfold Go.Pb.isP at hp;simp only [Bool.and_eq_true] at hp ⊢;exact hp.1
 have ht:(A3 L E m).text=w:=by
  unfold Go.Pb.isP at hp;simp only [Bool.and_eq_true,List.contains_cons,List.contains_nil,Bool.or_false,beq_iff_eq] at hp;exact hp.2
 rw [B7,V9 (signsR hK m hl) ho,ht]
theorem pre_no (hK:∀ t∈L,G4 t) {m:Rd} (h1:isP L E m 5 [[45],[33]]=false) (h2:isP L E m 5 [[40]]=false):B7 L E m J1<0:=by
 have:=A5u (E:=E) (signsR hK m (l:=J1) (by decide +kernel));have h3:isP L E m 5 J1=false:=by
  unfold Go.Pb.isP at h1 h2 ⊢;unfold J1;cases ho:(okR m && (A3 L E m).kind == 5) with
  | false=>rfl
  | true=>rw [ho] at h1 h2;simp only [List.contains_cons,List.contains_nil,Bool.true_and,Bool.or_false,Bool.or_eq_false_iff] at h1 h2 ⊢;exact ⟨h1.1,h1.2,h2⟩
 rw [h3] at this;have:=of_decide_eq_false this.symm;omega
theorem isP_two {m:Rd} {a b:List UInt8} (h:isP L E m 5 [a,b]=true):isP L E m 5 [a]=true\/isP L E m 5 [b]=true:=by
 unfold Go.Pb.isP at h ⊢;simp only [Bool.and_eq_true,List.contains_cons,List.contains_nil,Bool.or_false,Bool.or_eq_true] at h ⊢;rcases h with ⟨h1,h2|h2⟩
 ·exact .inl ⟨h1,h2⟩
 ·exact .inr ⟨h1,h2⟩
theorem isP_tx {m:Rd} {k:Int} {w:List UInt8} (hp:isP L E m k [w]=true):(A3 L E m).text=w:=by
 unfold Go.Pb.isP at hp;simp only [Bool.and_eq_true,List.contains_cons,List.contains_nil,Bool.or_false,beq_iff_eq] at hp;exact hp.2
def lkI (ks:List (List UInt8)) (vs:List Int) (x:List UInt8):Int:=if N1 x 0 ks = -1 then 0 else vs.getD (N1 x 0 ks).toNat 0
def nmdB (k:Int):Bool:=k == 5 || k == 6 || k == 7
def lfK (t:Tok):Int × Int × List UInt8:=if t.kind=3 then (1,t.value,[]) else if t.kind=1 then (2,0,t.text) else if t.kind=2 then (lkI D8 F8 t.text,0,[]) else (0,0,[])
def leafR (L:List Tok) (E:Int) (s:Rd):Ex × Rd :=
 let q:=lfK (A3 L E s)
 if q.1=0 then (Ex0,pfl L E s 4)
 else if 32<s.ops+1 then (Ex0,C0 L E { s with ops:=s.ops+1 } (s.ops+1) 32 9)
 else
  let s3:Rd:={ s with i:=s.i+1,ops:=s.ops+1 }
  if nmdB q.1=true then (.mk q.1 0 (A9 L E s3 1).1.text [] (A3 L E s).pos,(A9 L E s3 1).2) else (.mk q.1 q.2.1 q.2.2 [] (A3 L E s).pos,s3)
theorem W7 {s:Rd} {n m e:Int} (h:¬ m<n):C0 L E s n m e=s:=by unfold C0;rw [if_neg h]
theorem A5s {s:Rd} {n m e:Int} (h:m<n) (he:e≠0):okR (C0 L E s n m e)=false:=by unfold C0;rw [if_pos h];exact M8 he
theorem lim_at {s:Rd} {b n m e:Int} (h:m<n) (ho:okR s=true):C0 L E ({ s with ops:=b }:Rd) n m e=({ s with ops:=b,e:=e,pos:=(A3 L E s).pos }:Rd):=by
 unfold C0 G3;rw [if_pos h,if_pos (show okR ({ s with ops:=b }:Rd)=true from ho)];rfl
theorem pfl_at {s:Rd} {e:Int} (ho:okR s=true):pfl L E s e=({ s with e:=e,pos:=(A3 L E s).pos }:Rd):=by unfold pfl G3;rw [if_pos ho]
theorem A8r (hK:∀ t∈L,G4 t) {s:Rd} (ho:okR s=true):E6 L E s=leafR L E s:=by
 have hw:=A2j (E:=E) hK s (l:=D8) (by decide +kernel);have hki:∀ k,F2 L E s k=((A3 L E s).kind == k):=fun k=>by unfold F2;rw [ho];rfl
 unfold E6 leafR lfK;dsimp only;have hok2:okR ({ s with ops:=s.ops+1 }:Rd)=true:=ho;have pos2:∀ b:Int,A3 L E ({ s with ops:=b }:Rd)=A3 L E s:=fun _=>rfl;by_cases h2:(A3 L E s).kind=2
 ·have ha:B7 L E s D8=N1 (A3 L E s).text 0 D8:=V9 hw (by rw [ho,h2];rfl) 0;rw [ha,hki,hki,h2];have hl:=A7g (A3 L E s).text D8 0;generalize (A3 L E s).text=x at *;simp only [show ((2:Int) == 3)=false from rfl,show ((2:Int) == 1)=false from rfl,show ¬ (2:Int)=3 by decide,show ¬ (2:Int)=1 by decide,if_false,if_true,and_true];unfold lkI;rcases hl with ⟨h3, -⟩|⟨h3,h4, -⟩
  ·rw [h3];rfl
  ·have h5:N1 x 0 D8<7:=by have:D8.length=7:=rfl;omega
   have h6:(0:Int)<=N1 x 0 D8:=h3;generalize N1 x 0 D8=k at *;have hv:F8.getD k.toNat 0≠0/\(nmdB (F8.getD k.toNat 0)=true↔4<=k):=by
    have:k=0\/k=1\/k=2\/k=3\/k=4\/k=5\/k=6:=by omega
    rcases this with rfl|rfl|rfl|rfl|rfl|rfl|rfl<;>decide
   have g1:¬ k<0:=by omega
   have g2:¬ k = -1:=by omega
   simp only [g1,g2,h6,hv.1,false_and,if_false,if_true];by_cases ho:32<s.ops+1
   ·rw [if_pos ho,if_pos (A5s ho (by decide))]
   ·simp only [ho,if_false,W7 ho,hok2,reduceCtorEq];by_cases h4:4<=k
    ·simp only [h4,hv.2.2 h4,if_true];rfl
    ·have h7:¬ nmdB (F8.getD k.toNat 0)=true:=fun h=>h4 (hv.2.1 h);simp only [h4,h7,if_false];rfl
 ·have ha:B7 L E s D8 = -1:=A7t hw (by simp [h2]) 0;rw [ha,hki,hki];by_cases h3:(A3 L E s).kind=3
  ·simp only [h3,if_true,show ((3:Int) == 3)=true from rfl,reduceCtorEq,false_and,and_false,if_false,show ¬ (0:Int) <= -1 by decide,show ¬ (1:Int)=0 by decide];by_cases ho:32<s.ops+1
   ·rw [if_pos ho,if_pos (A5s ho (by decide))]
   ·rw [if_neg ho,W7 ho,if_neg (by rw [hok2];decide)];rfl
  ·by_cases h1:(A3 L E s).kind=1
   ·simp only [h1,show ¬ (1:Int)=3 by decide,if_true,show ((1:Int) == 1)=true from rfl,reduceCtorEq,and_false,if_false,show ¬ (0:Int) <= -1 by decide,show ¬ (2:Int)=0 by decide];by_cases ho:32<s.ops+1
    ·rw [if_pos ho,if_pos (A5s ho (by decide))]
    ·rw [if_neg ho,W7 ho,if_neg (by rw [hok2];decide)];rfl
   ·have e3:((A3 L E s).kind == 3)=false:=by simpa using h3
    have e1:((A3 L E s).kind == 1)=false:=by simpa using h1
    rw [e3,e1,if_pos ⟨by decide,rfl,rfl⟩,if_neg h3,if_neg h1,if_neg h2,if_pos rfl];rfl
def A8b:List Int:=[12,13,14,15,16,17,18,19,20,21,22,23,24]
def U9:List Int:=[2,3,4,5,6,7,8,9,10,11,12,13,14,15,16,17,18,19]
theorem lkI_at {ks:List (List UInt8)} {vs:List Int} {b:Int} (hv:∀ j:Nat,j<ks.length->vs.getD j 0=b+j) (x:List UInt8):(N1 x 0 ks = -1/\lkI ks vs x=0)\/(0<=N1 x 0 ks/\N1 x 0 ks<ks.length/\lkI ks vs x=b+N1 x 0 ks):=by
 unfold lkI;rcases A7g x ks 0 with ⟨h1, -⟩|⟨h1,h2, -⟩
 ·rw [h1];exact .inl ⟨rfl,rfl⟩
 ·have h3:(0:Int)<=N1 x 0 ks:=h1;have h4:=hv (N1 x 0 ks).toNat (by omega);rw [if_neg (by omega),h4];exact .inr ⟨h3,by omega,by omega⟩
theorem lop_lk (hK:∀ t∈L,G4 t) {s:Rd} {n:Int} (ho:okR s=true) (h1:1<=n) (h5:n<=5) :
  ((B7 L E s B6<0\/A8 (12+B7 L E s B6)≠n)↔((A3 L E s).kind≠5\/A8 (lkI B6 A8b (A3 L E s).text)≠n)) /\
  (0<=B7 L E s B6->lkI B6 A8b (A3 L E s).text=12+B7 L E s B6/\(A3 L E s).kind=5/\B7 L E s B6<13):=by
 have hs:=signsR (E:=E) hK s (l:=B6) (by decide +kernel);by_cases hk:(A3 L E s).kind=5
 ·have ha:B7 L E s B6=N1 (A3 L E s).text 0 B6:=V9 hs (by rw [ho,hk];rfl) 0;rw [ha];have h7:A8 0=7:=rfl;have hlen:B6.length=13:=rfl;rcases lkI_at (vs:=A8b) (b:=12) (by decide +kernel) (ks:=B6) (A3 L E s).text with ⟨h2,h3⟩|⟨h2,h3,h4⟩
  ·rw [h2,h3,h7];exact ⟨⟨fun _=>.inr (by omega),fun _=>.inl (by decide)⟩,fun h=>absurd h (by decide)⟩
  ·rw [h4];refine ⟨⟨fun h=>?_,fun h=>?_⟩,fun _=>⟨rfl,hk,by omega⟩⟩
   ·rcases h with h|h
    ·omega
    ·exact .inr h
   ·rcases h with h|h
    ·exact absurd hk h
    ·exact .inr h
 ·have ha:B7 L E s B6 = -1:=A7t hs (by simp [hk]) 0;rw [ha];exact ⟨⟨fun _=>.inl hk,fun _=>.inl (by decide)⟩,fun h=>absurd h (by decide)⟩
def A7q (L:List Tok) (E:Int) (s:Rd):Bool:=okR s && ((A3 L E s).kind == 1 || ((A3 L E s).kind == 2 && lkI C1 U9 (A3 L E s).text != 0))
theorem stm_lk (hK:∀ t∈L,G4 t) {s:Rd} (ho:okR s=true) :
  (0<=B7 L E s C1->(A3 L E s).kind=2/\lkI C1 U9 (A3 L E s).text=2+B7 L E s C1/\B7 L E s C1<18) /\
  (B7 L E s C1<0->(A3 L E s).kind=2->lkI C1 U9 (A3 L E s).text=0):=by
 have hs:=A2j (E:=E) hK s (l:=C1) (by decide +kernel);by_cases hk:(A3 L E s).kind=2
 ·have ha:B7 L E s C1=N1 (A3 L E s).text 0 C1:=V9 hs (by rw [ho,hk];rfl) 0;rw [ha];have hlen:C1.length=18:=rfl;rcases lkI_at (vs:=U9) (b:=2) (by decide +kernel) (ks:=C1) (A3 L E s).text with ⟨h2,h3⟩|⟨h2,h3,h4⟩
  ·rw [h2,h3];exact ⟨fun h=>absurd h (by decide),fun _ _=>rfl⟩
  ·exact ⟨fun _=>⟨hk,h4,by omega⟩,fun h=>absurd h (by omega)⟩
 ·have ha:B7 L E s C1 = -1:=A7t hs (by simp [hk]) 0;rw [ha];exact ⟨fun h=>absurd h (by decide),fun _ h=>absurd h hk⟩
theorem beg_amg (hK:∀ t∈L,G4 t) {s:Rd}:A7q L E s=true↔okR s=true/\(0<=B7 L E s C1\/F2 L E s 1=true):=by
 unfold A7q F2;cases ho:okR s with
 | false=>simp
 | true =>
  obtain ⟨h1,h2⟩:=stm_lk (E:=E) hK ho;simp only [Bool.true_and,Bool.or_eq_true,Bool.and_eq_true,beq_iff_eq,bne_iff_ne,ne_eq,true_and];constructor
  ·rintro (h|⟨h,h'⟩)
   ·exact .inr h
   ·by_cases hk:0<=B7 L E s C1
    ·exact .inl hk
    ·exact absurd (h2 (by omega) h) h'
  ·rintro (h|h)
   ·obtain ⟨g1,g2, -⟩:=h1 h;exact .inr ⟨g1,by omega⟩
   ·exact .inl h
end
end Go.Pb
namespace Go.Proofs.YthlpinppaclofaaGreatDoor
open Go.Eng (IC IOper DReg IFn B5)
open Go.Sym Go.Pb
abbrev paB (L:List Tok) (E:Int) (s:Rd):Blk:=⟨0,true,[G6 L,I64 s.i,I64 E,I64 s.e,I64 s.pos,I64 s.ops,I64 s.par]⟩
theorem c_here (L:List Tok) (E:Int) (s:Rd) (H:Hp) (cc t:Nat) (ht:H t=some (paB L E s)) (htc:t<cc):AC Tryz.prog 167 [.ptr t 0] H cc (fun v H' c'=>v=(A3 L E s).v/\H'=H):=by
 refine AC.bodyT A6 rfl (Nat.le_of_ble_eq_true rfl) fun hfr=>?_;have ne0:=U0 t cc (by omega);by_cases hlt:s.i<L.length
 ·have hd:decide ((s.i:Int)<L.length)=true:=by simpa using hlt
  have hg:=List.getElem?_eq_getElem hlt;have e:A3 L E s=L[s.i]:=by unfold A3;rw [List.getD_eq_getElem?_getD,hg];rfl
  rw [e];generalize L[s.i]=a at hg;repeat' ((with_reducible first|refine wr ?_|refine k_cu ?_ ?_|refine wb2 ?_ ?_<;>(intro hb;try simp only [hb])|fail)<;>try simp only [go_sem,seval,ht,hd,hg,ne0,A0,A1])
  rw [C3 (v:=a.v) (rv4 rfl A0)];exact ⟨_,_,W8 hfr,rfl,rfl⟩
 ·have hd:decide ((s.i:Int)<L.length)=false:=by simpa using hlt
  have e:A3 L E s=⟨0,[],0,E⟩:=by unfold A3;rw [List.getD_eq_getElem?_getD,List.getElem?_eq_none (by omega)];rfl
  rw [e];repeat' ((with_reducible first|refine wr ?_|refine k_cu ?_ ?_|refine wb2 ?_ ?_<;>(intro hb;try simp only [hb])|fail)<;>try simp only [go_sem,seval,ht,hd,ne0,A0,A1])
  rw [C3 (v:=Tok.v ⟨0,[],0,E⟩) (rv4 rfl A0)];exact ⟨_,_,W8 hfr,rfl,rfl⟩
theorem c_pok (L:List Tok) (E:Int) (s:Rd) (H:Hp) (cc t:Nat) (ht:H t=some (paB L E s)) (htc:t<cc):AC Tryz.prog 71 [.ptr t 0] H cc (fun v H' c'=>v=.bool (okR s)/\H'=H):=by
 refine AC.bodyT A6 rfl (Nat.le_of_ble_eq_true rfl) fun hfr=>?_;repeat' ((with_reducible first|refine wr ?_|refine k_cu ?_ ?_|refine wb2 ?_ ?_<;>(intro hb;try simp only [hb])|fail)<;>try simp only [go_sem,seval,ht])
 exact ⟨_,_,GL.refl _ _,rfl,rfl⟩
theorem c_pfail (L:List Tok) (E:Int) (s:Rd) (H:Hp) (cc t:Nat) (ht:H t=some (paB L E s)) (htc:t<cc) (e:Int):AC Tryz.prog 124 [.ptr t 0,I64 e] H cc (fun v H' c'=>v=.tup []/\H'=H.upd t (paB L E (pfl L E s e))):=by
 refine AC.bodyT A6 rfl (Nat.le_of_ble_eq_true rfl) fun hfr=>?_;cases h:okR s with
 | true =>
  have e0:pfl L E s e = { s with e:=e,pos:=(A3 L E s).pos }:=by rw [pfl,G3,if_pos h]
  have h':(s.e == 0)=true:=h;rw [e0];repeat' ((with_reducible first|refine wr ?_|refine k_cu ?_ ?_|refine wb2 ?_ ?_<;>(intro hb;try simp only [hb])|fail)<;>try simp only [go_sem,seval,ht,h',h,A0,A1])
  refine AC.call (c_here L E s _ _ t ht (by omega)) ?_;rintro v H' c1 ⟨rfl,rfl⟩ hc;simp only [go_sem,seval,ht,A0,A1];repeat' ((with_reducible first|refine wr ?_|refine k_cu ?_ ?_|refine wb2 ?_ ?_<;>(intro hb;try simp only [hb])|fail)<;>try simp only [go_sem,seval,ht,A0,A1])
  exact ⟨_,_,GL.refl _ _,rfl,rfl⟩
 | false =>
  have e0:pfl L E s e=s:=S4 h;have h':(s.e == 0)=false:=h;rw [e0];repeat' ((with_reducible first|refine wr ?_|refine k_cu ?_ ?_|refine wb2 ?_ ?_<;>(intro hb;try simp only [hb])|fail)<;>try simp only [go_sem,seval,ht,h',h,A0,A1])
  exact ⟨_,_,GL.refl _ _,rfl,(upd_same ht).symm⟩
theorem c_Idx (x:List UInt8) (l:List (List UInt8)) (hl:l.length<=1000000):PC Tryz.prog 170 [X5 l,.str x] (I64 (N1 x 0 l)):=by
 refine PC.ofT A6 rfl (Nat.le_of_ble_eq_true rfl) (by simp [DV.nlL,DV.nl]) (by simp [DV.nlL,DV.nl]) ?_;repeat' ((with_reducible first|refine wr ?_|refine k_cu ?_ ?_|refine wb2 ?_ ?_<;>(intro hb;try simp only [hb])|fail)<;>try simp only [go_sem,seval])
 refine D6 (fun k:Nat=>[(0,X5 l),(1,.str x),(7,I64 l.length),(8,I64 k)]) (fun _=>Sym.nil) (fun k c=>k<=l.length/\N1 x 0 l=N1 x k (l.drop k)) (fun k=>l.length-k) 0 (by simp [C5,tm,Tm.upd]) (Sub.refl _) ⟨by omega,rfl⟩ ?_;rintro k c ⟨hk,hv⟩;by_cases hlt:k<l.length
 ·have hd:decide ((k:Int)<l.length)=true:=by simpa using hlt
  have hg:=List.getElem?_eq_getElem hlt;have hw:IntKind.i64.wrap ((k:Int)+1)=((k+1:Nat):Int):=by rw [w64 (by omega) (by omega)];omega
  rw [List.drop_eq_getElem_cons hlt,N1] at hv;generalize l[k]=a at hg hv;cases h:(x == a) with
  | true =>
   rw [if_pos h] at hv;rw [hv];repeat' ((with_reducible first|refine wr ?_|refine k_cu ?_ ?_|refine wb2 ?_ ?_<;>(intro hb;try simp only [hb])|fail)<;>try simp only [go_sem,seval,hd,hg,h])
   exact A4 rfl
  | false =>
   rw [if_neg (by simp [h])] at hv;repeat' ((with_reducible first|refine wr ?_|refine k_cu ?_ ?_|refine wb2 ?_ ?_<;>(intro hb;try simp only [hb])|fail)<;>try simp only [go_sem,seval,hd,hg,h,hw])
   exact ⟨k+1,rfl,Sub.refl _,inv ⟨hlt,hv⟩,by omega⟩
 ·have hd:decide ((k:Int)<l.length)=false:=by simpa using hlt
  have hk:k=l.length:=by omega
  rw [hk,List.drop_length,N1] at hv;rw [hv];repeat' ((with_reducible first|refine wr ?_|refine k_cu ?_ ?_|refine wb2 ?_ ?_<;>(intro hb;try simp only [hb])|fail)<;>try simp only [go_sem,seval,hd])
  exact A4 rfl
theorem c_Cont (x:List UInt8) (l:List (List UInt8)) (hl:l.length<=1000000):PC Tryz.prog 168 [X5 l,.str x] (.bool (l.contains x)):=by
 have e:decide (N1 x 0 l≥0)=l.contains x:=by
  rcases A7g x l 0 with ⟨h1,h2⟩|⟨h1,h2,h3⟩
  ·rw [h1,h2];rfl
  ·rw [h3];exact decide_eq_true (by simpa using h1)
 refine PC.ofT A6 rfl (Nat.le_of_ble_eq_true rfl) (by simp [DV.nlL,DV.nl]) (by simp [DV.nlL,DV.nl]) ?_;repeat' ((with_reducible first|refine wr ?_|refine cpc (c_Idx x l hl) ?_|refine k_cu ?_ ?_|refine wb2 ?_ ?_<;>(intro hb;try simp only [hb])|fail)<;>try simp only [go_sem,seval,e])
 exact A4 rfl
theorem c_pis (L:List Tok) (E:Int) (s:Rd) (H:Hp) (cc t:Nat) (ht:H t=some (paB L E s)) (htc:t<cc) (k:Int) (l:List (List UInt8)) (hl:l.length<=1000000):AC Tryz.prog 125 [.ptr t 0,I64 k,X5 l] H cc (fun v H' c'=>v=.bool (isP L E s k l)/\H'=H):=by
 refine AC.bodyT A6 rfl (Nat.le_of_ble_eq_true rfl) fun hfr=>?_;repeat' ((with_reducible first|refine wr ?_|refine k_cu ?_ ?_|refine wb2 ?_ ?_<;>(intro hb;try simp only [hb])|fail)<;>try simp only [go_sem,seval])
 refine AC.call (c_here L E s _ _ t ht (by omega)) ?_;rintro v H' c1 ⟨rfl,rfl⟩ hc;have ne0:=U0 t c1 (by omega);simp only [go_sem,seval,ne0,A0,A1];repeat' ((with_reducible first|refine wr ?_|refine k_cu ?_ ?_|refine wb2 ?_ ?_<;>(intro hb;try simp only [hb])|fail)<;>try simp only [go_sem,seval,ne0,A0,A1])
 refine AC.call (c_pok L E s _ _ t (by rw [A2 (by omega)];exact ht) (by omega)) ?_;rintro v H' c2 ⟨rfl,rfl⟩ hc2;simp only [go_sem,seval,ne0,A0,A1];repeat' ((with_reducible first|refine wr ?_|refine cpc (c_Cont _ l hl) ?_|refine k_cu ?_ ?_|refine wb2 ?_ ?_<;>(intro hb;try simp only [hb])|fail)<;>try simp only [go_sem,seval,ne0,A0,A1])
 all_goals exact ⟨_,_,W8 (fun i hi=>hfr i (by omega)),by simp_all [isP],rfl⟩
theorem c_pisO (L:List Tok) (E:Int) (s:Rd) (K:Hp) (cc t b:Nat) (hK:K b=none) (ht:K t=some (paB L E s)) (htc:t<cc) (k:Int) (l:List (List UInt8)) (hl:l.length<=1000000) :
  AC Tryz.prog 125 [.ptr t 0,I64 k,.slc b 0 l.length] (K.upd b ⟨1,true,l.map DV.str⟩) cc (fun v H' c'=>v=.bool (isP L E s k l)/\H'=K) :=
 AC.ghost (GL.frzS (id:=b) A0 rfl (fun j=>by
  by_cases e:j=b
  ·subst e;exact .inl hK
  ·exact .inr ⟨e,(A2 e).symm⟩) (.cons _ _ _ _ (.same _) (.cons _ _ _ _ (.same _) (.cons _ _ _ _ (J8 (u:=1) (by simp) (K3 _) ⟨[],by rw [List.append_nil,A7m]⟩) .nil)))) (c_pis L E s K cc t ht htc k l hl)
theorem c_want (L:List Tok) (E:Int) (s:Rd) (H:Hp) (cc t:Nat) (ht:H t=some (paB L E s)) (htc:t<cc) (hi:s.i<=10000000000) (k:Int) (w:List UInt8):AC Tryz.prog 171 [.ptr t 0,I64 k,.str w] H cc (fun v H' c'=>v=.tup []/\H'=H.upd t (paB L E (E0 L E s k w))):=by
 refine AC.bodyT A6 rfl (Nat.le_of_ble_eq_true rfl) fun hfr=>?_;have hio:=c_pisO L E s H (cc+1) t cc (hfr _ (Nat.le_refl _)) ht (by omega) k [w] (by simp);repeat' ((with_reducible first|refine wr ?_|refine k_cu ?_ ?_|refine wb2 ?_ ?_<;>(intro hb;try simp only [hb])|fail)<;>try simp only [go_sem,seval])
 refine AC.call hio ?_;rintro v H' c1 ⟨rfl,rfl⟩ hc;cases h:isP L E s k [w] with
 | false =>
  have e0:E0 L E s k w=pfl L E s 4:=by rw [E0,if_pos h]
  rw [e0];simp only [go_sem,seval,h];repeat' ((with_reducible first|refine wr ?_|refine k_cu ?_ ?_|refine wb2 ?_ ?_<;>(intro hb;try simp only [hb])|fail)<;>try simp only [go_sem,seval,h])
  refine AC.call (c_pfail L E s _ _ t ht (by omega) 4) ?_;rintro v H' c2 ⟨rfl,rfl⟩ hc2;simp only [go_sem,seval];repeat' ((with_reducible first|refine wr ?_|refine k_cu ?_ ?_|refine wb2 ?_ ?_<;>(intro hb;try simp only [hb])|fail)<;>try simp only [go_sem,seval])
  exact ⟨_,_,GL.refl _ _,rfl,rfl⟩
 | true =>
  have hw:IntKind.i64.wrap ((s.i:Int)+1)=((s.i+1:Nat):Int):=by rw [w64 (by omega) (by omega)];omega
  have e0:E0 L E s k w=B3 s:=by rw [E0,if_neg (by simp [h])]
  rw [e0];simp only [go_sem,seval,h];repeat' ((with_reducible first|refine wr ?_|refine k_cu ?_ ?_|refine wb2 ?_ ?_<;>(intro hb;try simp only [hb])|fail)<;>try simp only [go_sem,seval,h,ht,hw,A0,A1])
  exact ⟨_,_,GL.refl _ _,rfl,rfl⟩
theorem c_ptake (L:List Tok) (E:Int) (s:Rd) (H:Hp) (cc t:Nat) (ht:H t=some (paB L E s)) (htc:t<cc) (hi:s.i<=10000000000) (k:Int):AC Tryz.prog 169 [.ptr t 0,I64 k] H cc (fun v H' c'=>v=(A9 L E s k).1.v/\H'=H.upd t (paB L E (A9 L E s k).2)):=by
 refine AC.bodyT A6 rfl (Nat.le_of_ble_eq_true rfl) fun hfr=>?_;repeat' ((with_reducible first|refine wr ?_|refine k_cu ?_ ?_|refine wb2 ?_ ?_<;>(intro hb;try simp only [hb])|fail)<;>try simp only [go_sem,seval])
 refine AC.call (c_here L E s _ _ t (by rw [A2 (by omega)];exact ht) (by omega)) ?_;rintro v H' c1 ⟨rfl,rfl⟩ hc;have ne0:=O0 t cc c1 (by omega);have hGt:((H.upd cc ⟨0,true,[I64 0,.str [],I64 0,I64 0]⟩).upd c1 (tkB (A3 L E s))) t=some (paB L E s):=by rw [A2 (by omega),A2 (by omega)];exact ht
 simp only [go_sem,seval,ne0,A0,A1];repeat' ((with_reducible first|refine wr ?_|refine k_cu ?_ ?_|refine wb2 ?_ ?_<;>(intro hb;try simp only [hb])|fail)<;>try simp only [go_sem,seval,ne0,A0,A1])
 refine AC.call (c_pok L E s _ _ t hGt (by omega)) ?_;rintro v H' c2 ⟨rfl,rfl⟩ hc2;have hks:F2 L E s k=(okR s && (A3 L E s).kind == k):=rfl;cases h1:okR s with
 | false =>
  have e0:A9 L E s k=(M1,pfl L E s 4):=by rw [A9,hks,h1];rfl
  rw [e0];simp only [go_sem,seval,ne0,h1,A0,A1];repeat' ((with_reducible first|refine wr ?_|refine k_cu ?_ ?_|refine wb2 ?_ ?_<;>(intro hb;try simp only [hb])|fail)<;>try simp only [go_sem,seval,ne0,h1,A0,A1])
  refine AC.call (c_pfail L E s _ _ t hGt (by omega) 4) ?_;rintro v H' c3 ⟨rfl,rfl⟩ hc3;simp only [go_sem,seval,ne0,A0,A1];repeat' ((with_reducible first|refine wr ?_|refine k_cu ?_ ?_|refine wb2 ?_ ?_<;>(intro hb;try simp only [hb])|fail)<;>try simp only [go_sem,seval,ne0,A0,A1])
  rw [C3 (v:=M1.v) (rv4 rfl A0)];exact ⟨_,_,H6 (B9 hfr htc) (fun j hj=>by simp [Hp.upd,show ¬j=cc by omega,show ¬j=c1 by omega]),rfl,rfl⟩
 | true =>
  cases h2:((A3 L E s).kind == k) with
  | false =>
   have h3:((A3 L E s).kind != k)=true:=by rw [bne,h2];rfl
   have e0:A9 L E s k=(M1,pfl L E s 4):=by rw [A9,hks,h1,h2];rfl
   rw [e0];simp only [go_sem,seval,ne0,h1,A0,A1];repeat' ((with_reducible first|refine wr ?_|refine k_cu ?_ ?_|refine wb2 ?_ ?_<;>(intro hb;try simp only [hb])|fail)<;>try simp only [go_sem,seval,ne0,h1,h3,A0,A1])
   refine AC.call (c_pfail L E s _ _ t hGt (by omega) 4) ?_;rintro v H' c3 ⟨rfl,rfl⟩ hc3;simp only [go_sem,seval,ne0,A0,A1];repeat' ((with_reducible first|refine wr ?_|refine k_cu ?_ ?_|refine wb2 ?_ ?_<;>(intro hb;try simp only [hb])|fail)<;>try simp only [go_sem,seval,ne0,A0,A1])
   rw [C3 (v:=M1.v) (rv4 rfl A0)];exact ⟨_,_,H6 (B9 hfr htc) (fun j hj=>by simp [Hp.upd,show ¬j=cc by omega,show ¬j=c1 by omega]),rfl,rfl⟩
  | true =>
   have h3:((A3 L E s).kind != k)=false:=by rw [bne,h2];rfl
   have hw:IntKind.i64.wrap ((s.i:Int)+1)=((s.i+1:Nat):Int):=by rw [w64 (by omega) (by omega)];omega
   have e0:A9 L E s k=(A3 L E s,B3 s):=by rw [A9,hks,h1,h2];rfl
   rw [e0];simp only [go_sem,seval,ne0,h1,A0,A1];repeat' ((with_reducible first|refine wr ?_|refine k_cu ?_ ?_|refine wb2 ?_ ?_<;>(intro hb;try simp only [hb])|fail)<;>try simp only [go_sem,seval,ne0,h1,h3,hGt,ht,hw,A0,A1])
   rw [C3 (v:=(A3 L E s).v) (rv4 rfl A0)];exact ⟨_,_,H6 (B9 hfr htc) (fun j hj=>by simp [Hp.upd,show ¬j=cc by omega,show ¬j=c1 by omega];rfl),rfl,rfl⟩
theorem c_pend (L:List Tok) (E:Int) (s:Rd) (H:Hp) (cc t:Nat) (ht:H t=some (paB L E s)) (htc:t<cc):AC Tryz.prog 70 [.ptr t 0] H cc (fun v H' c'=>v=.tup []/\H'=H.upd t (paB L E (if s.i<L.length then pfl L E s 4 else s))):=by
 refine AC.bodyT A6 rfl (Nat.le_of_ble_eq_true rfl) fun hfr=>?_;by_cases h:s.i<L.length
 ·have hd:decide ((s.i:Int)<L.length)=true:=by simpa using h
  rw [if_pos h];repeat' ((with_reducible first|refine wr ?_|refine k_cu ?_ ?_|refine wb2 ?_ ?_<;>(intro hb;try simp only [hb])|fail)<;>try simp only [go_sem,seval,ht,hd])
  refine AC.call (c_pfail L E s _ _ t ht (by omega) 4) ?_;rintro v H' c1 ⟨rfl,rfl⟩ hc;simp only [go_sem,seval];repeat' ((with_reducible first|refine wr ?_|refine k_cu ?_ ?_|refine wb2 ?_ ?_<;>(intro hb;try simp only [hb])|fail)<;>try simp only [go_sem,seval])
  exact ⟨_,_,GL.refl _ _,rfl,rfl⟩
 ·have hd:decide ((s.i:Int)<L.length)=false:=by simpa using h
  rw [if_neg h];repeat' ((with_reducible first|refine wr ?_|refine k_cu ?_ ?_|refine wb2 ?_ ?_<;>(intro hb;try simp only [hb])|fail)<;>try simp only [go_sem,seval,ht,hd])
  exact ⟨_,_,GL.refl _ _,rfl,(upd_same ht).symm⟩
theorem nlL_i64:∀ l:List Int,DV.nlL (l.map fun k=>I64 k)=true:=fun l=>L8 (fun _=>rfl) l
abbrev tabV (ks:List (List UInt8)) (vs:List Int):DV:=.mp .s (ks.map DV.str) (vs.map fun k=>I64 k)
theorem tab_nl (ks:List (List UInt8)) (vs:List Int):(tabV ks vs).nl=true:=by simp only [DV.nl,K5,nlL_i64,Bool.and_true]
theorem A8x (x:List UInt8):∀ (l:List (List UInt8)) (k:Nat),(N1 x k l = -1/\J5 (.str x) (l.map DV.str) k=none)\/∃ j:Nat,N1 x k l=j/\J5 (.str x) (l.map DV.str) k=some j/\j<k+l.length
 | [],k=>.inl ⟨rfl,rfl⟩
 | w :: l,k=>by
  simp only [List.map_cons,J5,Y1,N1];cases h:(x == w) with
  | true=>exact .inr ⟨k,by simp,by simp,by simp⟩
  | false =>
   simp only [Bool.false_eq_true,if_false];rcases A8x x l (k+1) with h|⟨j,h1,h2,h3⟩
   ·exact .inl h
   ·exact .inr ⟨j,h1,h2,by simp only [List.length_cons];omega⟩
theorem B0m (ks:List (List UInt8)) (vs:List Int) (hl:ks.length=vs.length) (x:List UInt8):lkV (I64 0) false (vs.map fun k=>I64 k) (J5 (.str x) (ks.map DV.str) 0)=some (I64 (lkI ks vs x)):=by
 unfold lkI;rcases A8x x ks 0 with ⟨h1,h2⟩|⟨j,h1,h2,h3⟩
 ·rw [h1,h2,if_pos rfl];rfl
 ·have hj:j<vs.length:=by omega
  rw [h1,h2,if_neg (by omega),l_some,List.getElem?_map,List.getElem?_eq_getElem hj,Int.toNat_natCast,List.getD_eq_getElem?_getD,List.getElem?_eq_getElem hj];rfl
theorem c_ops:PC Tryz.prog 159 [] (tabV B6 A8b):=by
 refine PC.ofT A6 rfl (Nat.le_of_ble_eq_true rfl) rfl (tab_nl _ _) ?_;repeat' ((with_reducible first|refine wr ?_|refine k_cu ?_ ?_|refine wb2 ?_ ?_<;>(intro hb;try simp only [hb])|fail)<;>try simp only [go_sem,seval,J5,Y1,List.cons_beq_cons,List.nil_beq_eq,List.beq_nil_eq,List.isEmpty_cons,List.isEmpty_nil,Bool.false_and,Bool.true_and,Bool.and_true,Bool.and_false,A1])
 exact B0c A0
theorem c_stms:PC Tryz.prog 188 [] (tabV C1 U9):=by
 refine PC.ofT A6 rfl (Nat.le_of_ble_eq_true rfl) rfl (tab_nl _ _) ?_;repeat' ((with_reducible first|refine wr ?_|refine k_cu ?_ ?_|refine wb2 ?_ ?_<;>(intro hb;try simp only [hb])|fail)<;>try simp only [go_sem,seval,J5,Y1,List.cons_beq_cons,List.nil_beq_eq,List.beq_nil_eq,List.isEmpty_cons,List.isEmpty_nil,Bool.false_and,Bool.true_and,Bool.and_true,Bool.and_false,A1])
 exact B0c A0
theorem c_lvs:PC Tryz.prog 115 [] (tabV D8 F8):=by
 refine PC.ofT A6 rfl (Nat.le_of_ble_eq_true rfl) rfl (tab_nl _ _) ?_;repeat' ((with_reducible first|refine wr ?_|refine k_cu ?_ ?_|refine wb2 ?_ ?_<;>(intro hb;try simp only [hb])|fail)<;>try simp only [go_sem,seval,J5,Y1,List.cons_beq_cons,List.nil_beq_eq,List.beq_nil_eq,List.isEmpty_cons,List.isEmpty_nil,Bool.false_and,Bool.true_and,Bool.and_true,Bool.and_false,A1])
 exact B0c A0
theorem c_pdecls:PC Tryz.prog 56 [] (X5 D7):=by
 refine PC.ofT A6 rfl (Nat.le_of_ble_eq_true rfl) rfl (K5 _) ?_;repeat' ((with_reducible first|refine wr ?_|refine k_cu ?_ ?_|refine wb2 ?_ ?_<;>(intro hb;try simp only [hb])|fail)<;>try simp only [go_sem,seval])
 exact A0t (xs:=D7.map DV.str) (u:=1) A0 rfl rfl (K3 _) ⟨[],rfl⟩
theorem c_ptrigs:PC Tryz.prog 58 [] (X5 E1):=by
 refine PC.ofT A6 rfl (Nat.le_of_ble_eq_true rfl) rfl (K5 _) ?_;repeat' ((with_reducible first|refine wr ?_|refine k_cu ?_ ?_|refine wb2 ?_ ?_<;>(intro hb;try simp only [hb])|fail)<;>try simp only [go_sem,seval])
 exact A0t (xs:=E1.map DV.str) (u:=1) A0 rfl rfl (K3 _) ⟨[],rfl⟩
theorem c_levP (k:Int):PC Tryz.prog 112 [I64 k] (I64 (A8 k)):=by
 refine PC.ofT A6 rfl (Nat.le_of_ble_eq_true rfl) (by simp [DV.nlL,DV.nl]) (by simp [DV.nlL,DV.nl]) ?_;repeat' ((with_reducible first|refine wr ?_|refine k_cu ?_ ?_|refine wb2 ?_ ?_<;>(intro hb;try simp only [hb])|fail)<;>try simp only [go_sem,seval])
 all_goals
  refine A4 (congrArg I64 ?_);simp only [beq_iff_eq,beq_eq_false_iff_ne,decide_eq_true_eq,decide_eq_false_iff_not,Bool.and_eq_true,Bool.or_eq_true,Bool.and_eq_false_iff,Bool.or_eq_false_iff] at *;unfold A8;repeat' split
  all_goals omega
theorem c_nmdP (k:Int):PC Tryz.prog 116 [I64 k] (.bool (nmdB k)):=by
 refine PC.ofT A6 rfl (Nat.le_of_ble_eq_true rfl) (by simp [DV.nlL,DV.nl]) (by simp [DV.nlL,DV.nl]) ?_;repeat' ((with_reducible first|refine wr ?_|refine k_cu ?_ ?_|refine wb2 ?_ ?_<;>(intro hb;try simp only [hb])|fail)<;>try simp only [go_sem,seval])
 all_goals exact A4 (by simp_all [nmdB])
theorem c_deeper (L:List Tok) (E:Int) (s:Rd) (H:Hp) (cc t:Nat) (ht:H t=some (paB L E s)) (htc:t<cc) (hi:s.i<=10000000000) (h0:0<=s.par) (h1:s.par<=16):AC Tryz.prog 197 [.ptr t 0] H cc (fun v H' c'=>v=.bool (!(s.par == 16))/\H'=H.upd t (paB L E (if s.par=16 then pfl L E s 50 else { s with i:=s.i+1,par:=s.par+1 }))):=by
 refine AC.bodyT A6 rfl (Nat.le_of_ble_eq_true rfl) fun hfr=>?_;by_cases h:s.par=16
 ·have hd:(s.par == 16)=true:=by simpa using h
  rw [if_pos h,hd];repeat' ((with_reducible first|refine wr ?_|refine k_cu ?_ ?_|refine wb2 ?_ ?_<;>(intro hb;try simp only [hb])|fail)<;>try simp only [go_sem,seval,ht,hd])
  refine AC.call (c_pfail L E s _ _ t ht (by omega) 50) ?_;rintro v H' c1 ⟨rfl,rfl⟩ hc;simp only [go_sem,seval];repeat' ((with_reducible first|refine wr ?_|refine k_cu ?_ ?_|refine wb2 ?_ ?_<;>(intro hb;try simp only [hb])|fail)<;>try simp only [go_sem,seval])
  exact ⟨_,_,GL.refl _ _,rfl,rfl⟩
 ·have hd:(s.par == 16)=false:=by simpa using h
  have hw:IntKind.i64.wrap ((s.i:Int)+1)=((s.i+1:Nat):Int):=by rw [w64 (by omega) (by omega)];omega
  have hw2:IntKind.i64.wrap (s.par+1)=s.par+1:=w64 (by omega) (by omega);rw [if_neg h,hd];repeat' ((with_reducible first|refine wr ?_|refine k_cu ?_ ?_|refine wb2 ?_ ?_<;>(intro hb;try simp only [hb])|fail)<;>try simp only [go_sem,seval,ht,hd,hw,hw2,A0,A1])
  exact ⟨_,_,GL.refl _ _,rfl,rfl⟩
structure PaE (L:List Tok) (s:Rd) (q:Ex × Rd) (x:Ex) (s':Rd):Prop where
 eq:Eqv s' q.2
 vl:okR q.2=true->x=q.1
 bd:PI L s'
 pr:s'.par=s.par
abbrev PeC (L:List Tok) (E:Int) (f:Nat) (vs:List DV) (s:Rd) (q:Ex × Rd):Prop :=
 ∀ (H:Hp) (cc t:Nat),H t=some (paB L E s)->t<cc->AC Tryz.prog f (.ptr t 0 :: vs) H cc (fun v H' c' => ∃ x s',v=x.v/\H'=H.upd t (paB L E s')/\PaE L s q x s')
abbrev exBk (k v:Int) (n:List UInt8) (p:Int):Blk:=⟨0,true,[I64 k,I64 v,.str n,.snil,I64 p]⟩
theorem c_pleaf (L:List Tok) (E:Int) (hL:L.length<=1000000000) (hK:∀ t∈L,G4 t) (s m:Rd) (hq:Eqv s m) (hP:PI L s) (hp:isP L E s 5 [[40]]=false):PeC L E 196 [] s (E6 L E m):=by
 intro H cc t ht htc;have hri:=hP.i;have hro:=hP.o0;have hro1:=hP.o1;refine AC.bodyT A6 rfl (Nat.le_of_ble_eq_true rfl) fun hfr=>?_;have hio:=c_pisO L E s (H.upd cc A2o) (cc+2) t (cc+1) (by rw [A2 (by omega)];exact hfr _ (by omega)) (by rw [A2 (by omega)];exact ht) (by omega) 5 [[40]] (by simp);repeat' ((with_reducible first|refine wr ?_|refine k_cu ?_ ?_|refine wb2 ?_ ?_<;>(intro hb;try simp only [hb])|fail)<;>try simp only [go_sem,seval])
 refine AC.call hio ?_;rintro v H' c1 ⟨rfl,rfl⟩ hc1;simp only [go_sem,seval,hp];repeat' ((with_reducible first|refine wr ?_|refine k_cu ?_ ?_|refine wb2 ?_ ?_<;>(intro hb;try simp only [hb])|fail)<;>try simp only [go_sem,seval,hp])
 refine AC.call (c_here L E s _ _ t (by rw [A2 (by omega)];exact ht) (by omega)) ?_;rintro v H' c2 ⟨rfl,rfl⟩ hc2;have ne0:=A1y t cc c2 (c2+1) (by omega);have tail:∀ (kd vl:Int) (nm:List UInt8) (c3:Nat),c2+2<=c3->(kd,vl,nm)=lfK (A3 L E s)->IW Tryz.prog 96 (pz Tryz.prog 196 (.o (.o (.i (.i (.o .h)))))) ⟨tm [(0,.ptr t 0),(2,.ptr cc 0),(5,.ptr (c2+1) 0)],((H.upd cc A2o).upd c2 (tkB (A3 L E s))).upd (c2+1) (exBk kd vl nm (A3 L E s).pos),c3⟩ (rt [.cell 2 5 true] fun v H' c' => ∃ v2 H2,GL H' [v] H2 [v2]/\∃ x s',v2=x.v/\H2=H.upd t (paB L E s')/\PaE L s (E6 L E m) x s'):=by
  intro kd vl nm c3 hc3 hlf;have hGt:(((H.upd cc A2o).upd c2 (tkB (A3 L E s))).upd (c2+1) (exBk kd vl nm (A3 L E s).pos)) t=some (paB L E s):=by rw [A2 (by omega),A2 (by omega),A2 (by omega)];exact ht
  have hbad:∀ (e:Int) (c4:Nat),PaE L s (E6 L E m) Ex0 (pfl L E s e)->GL (((((H.upd cc A2o).upd c2 (tkB (A3 L E s))).upd (c2+1) (exBk kd vl nm (A3 L E s).pos)).upd t (paB L E (pfl L E s e))).upd cc A2o) [.agg [I64 0,I64 0,.str [],.snil,I64 0]] (H.upd t (paB L E (pfl L E s e))) [.agg [I64 0,I64 0,.str [],.lst [],I64 0]]:=fun e c4 _ =>
   A0i (cc:=cc) (B9 hfr htc) (fun j hj=>by simp [Hp.upd,show ¬j=cc by omega,show ¬j=c2 by omega,show ¬j=c2+1 by omega])
  by_cases hk0:kd=0
  ·have hd:(kd == 0)=true:=by simpa using hk0
   have hr:PaE L s (E6 L E m) Ex0 (pfl L E s 4):=by
    rcases hq.cas with ⟨rfl,ho⟩|⟨h1,h2⟩
    ·rw [A8r hK ho];unfold leafR;dsimp only;rw [<- hlf,if_pos hk0];exact ⟨.refl _,fun _=>rfl,hP.fl,A6r.2.2⟩
    ·rw [A6q h2,S4 h1];exact ⟨hq,fun h=>(by simp [h2] at h),hP,rfl⟩
   repeat' ((with_reducible first|refine wr ?_|refine k_cu ?_ ?_|refine wb2 ?_ ?_<;>(intro hb;try simp only [hb])|fail)<;>try simp only [go_sem,seval,hd,ne0,A0,A1])
   refine AC.call (c_pfail L E s _ _ t hGt (by omega) 4) ?_;rintro v H' c4 ⟨rfl,rfl⟩ hc4;simp only [go_sem,seval,ne0,A0,A1];repeat' ((with_reducible first|refine wr ?_|refine k_cu ?_ ?_|refine wb2 ?_ ?_<;>(intro hb;try simp only [hb])|fail)<;>try simp only [go_sem,seval,ne0,A0,A1])
   rw [C3 (rv5 rfl A0)];exact ⟨_,_,hbad 4 c4 hr,Ex0,_,rfl,rfl,hr⟩
  have hd:(kd == 0)=false:=by simpa using hk0
  repeat' ((with_reducible first|refine wr ?_|refine k_cu ?_ ?_|refine wb2 ?_ ?_<;>(intro hb;try simp only [hb])|fail)<;>try simp only [go_sem,seval,hd,ne0,A0,A1])
  refine AC.call (c_pok L E s _ _ t hGt (by omega)) ?_;rintro v H' c4 ⟨rfl,rfl⟩ hc4;cases ho:okR s with
  | false =>
   have hm:okR m=false:=by rw [<- hq.ok,ho]
   have hr:PaE L s (E6 L E m) Ex0 (pfl L E s 4):=by
    rw [A6q hm,S4 ho];exact ⟨hq,fun h=>(by simp [hm] at h),hP,rfl⟩
   simp only [go_sem,seval,ho];repeat' ((with_reducible first|refine wr ?_|refine k_cu ?_ ?_|refine wb2 ?_ ?_<;>(intro hb;try simp only [hb])|fail)<;>try simp only [go_sem,seval,ho,ne0,A0,A1])
   refine AC.call (c_pfail L E s _ _ t hGt (by omega) 4) ?_;rintro v H' c5 ⟨rfl,rfl⟩ hc5;simp only [go_sem,seval,ne0,A0,A1];repeat' ((with_reducible first|refine wr ?_|refine k_cu ?_ ?_|refine wb2 ?_ ?_<;>(intro hb;try simp only [hb])|fail)<;>try simp only [go_sem,seval,ne0,A0,A1])
   rw [C3 (rv5 rfl A0)];exact ⟨_,_,hbad 4 c4 hr,Ex0,_,rfl,rfl,hr⟩
  | true =>
   obtain rfl:s=m:=hq.s (by rw [<- hq.ok,ho]);have hpr:E6 L E s=leafR L E s:=A8r hK ho;unfold leafR at hpr;dsimp only at hpr;rw [<- hlf] at hpr;dsimp only at hpr;rw [if_neg hk0] at hpr;by_cases h32:s.ops=32
   ·have hd2:(s.ops == 32)=true:=by simpa using h32
    rw [if_pos (by omega)] at hpr;have hr:PaE L s (E6 L E s) Ex0 (pfl L E s 9):=by
     rw [hpr];refine ⟨.bad ?_ ?_ (A5s (by omega) (by decide)),fun _=>rfl,hP.fl,A6r.2.2⟩
     ·dsimp only;rw [lim_at (by omega) ho,pfl_at ho]
     ·dsimp only;rw [lim_at (by omega) ho,pfl_at ho]
    simp only [go_sem,seval,ho];repeat' ((with_reducible first|refine wr ?_|refine k_cu ?_ ?_|refine wb2 ?_ ?_<;>(intro hb;try simp only [hb])|fail)<;>try simp only [go_sem,seval,ho,hd2,hGt,ne0,A0,A1])
    refine AC.call (c_pfail L E s _ _ t hGt (by omega) 9) ?_;rintro v H' c5 ⟨rfl,rfl⟩ hc5;simp only [go_sem,seval,ne0,A0,A1];repeat' ((with_reducible first|refine wr ?_|refine k_cu ?_ ?_|refine wb2 ?_ ?_<;>(intro hb;try simp only [hb])|fail)<;>try simp only [go_sem,seval,ne0,A0,A1])
    rw [C3 (rv5 rfl A0)];exact ⟨_,_,hbad 9 c4 hr,Ex0,_,rfl,rfl,hr⟩
   ·have hd2:(s.ops == 32)=false:=by simpa using h32
    have hlt:s.i<L.length:=by
     have hk:(A3 L E s).kind≠0:=fun h=>by
      rw [lfK,if_neg (by omega),if_neg (by omega),if_neg (by omega)] at hlf;exact hk0 (congrArg (·.1) hlf)
     exact (G9 hk rfl).2
    have hw1:IntKind.i64.wrap (s.ops+1)=s.ops+1:=w64 (by omega) (by omega);have hw2:IntKind.i64.wrap ((s.i:Int)+1)=((s.i+1:Nat):Int):=by rw [w64 (by omega) (by omega)];omega
    rw [if_neg (by omega)] at hpr;have hP3:PI L ({ s with i:=s.i+1,ops:=s.ops+1 }:Rd):=⟨hlt,by show 0<=s.ops+1;omega,by show s.ops+1<=32;omega,hP.p0,hP.p1⟩;have hcn:=c_nmdP kd;cases hn:nmdB kd with
    | true =>
     rw [hn] at hcn;simp only [go_sem,seval,ho];repeat' ((with_reducible first|refine wr ?_|refine cpc hcn ?_|refine k_cu ?_ ?_|refine wb2 ?_ ?_<;>(intro hb;try simp only [hb])|fail)<;>try simp only [go_sem,seval,ho,hd2,hGt,hw1,hw2,ne0,A0,A1])
     rw [if_pos hn] at hpr;obtain ⟨g1,g2⟩:=hP3.take (E:=E) (x:=1) (by decide);have hnm:vl=0/\nm=[]:=by
      unfold lfK at hlf;split at hlf
      ·cases hlf;cases hn
      ·split at hlf
       ·cases hlf;cases hn
       ·split at hlf<;>cases hlf<;>exact ⟨rfl,rfl⟩
     obtain ⟨rfl,rfl⟩:=hnm;refine AC.call (c_ptake L E { s with i:=s.i+1,ops:=s.ops+1 } _ _ t A0 (by omega) (by show s.i+1<=10000000000;omega) 1) ?_;rintro v H' c5 ⟨rfl,rfl⟩ hc5;simp only [go_sem,seval,ne0,A0,A1];repeat' ((with_reducible first|refine wr ?_|refine k_cu ?_ ?_|refine wb2 ?_ ?_<;>(intro hb;try simp only [hb])|fail)<;>try simp only [go_sem,seval,ne0,A0,A1])
     rw [C3 (rv5 rfl A0)];refine ⟨_,_,A0i (cc:=cc) (K:=H.upd t (paB L E (A9 L E ({ s with i:=s.i+1,ops:=s.ops+1 }:Rd) 1).2)) (B9 hfr htc) (fun j hj=>?_),.mk kd 0 (A9 L E ({ s with i:=s.i+1,ops:=s.ops+1 }:Rd) 1).1.text [] (A3 L E s).pos,_,rfl,rfl,?_⟩
     ·simp [Hp.upd,show ¬j=cc by omega,show ¬j=c2 by omega,show ¬j=c2+1 by omega];try (split<;>rfl)
     ·rw [hpr];exact ⟨.refl _,fun _=>rfl,g1,g2⟩
    | false =>
     rw [if_neg (by simp [hn])] at hpr;rw [hn] at hcn;simp only [go_sem,seval,ho];repeat' ((with_reducible first|refine wr ?_|refine cpc hcn ?_|refine k_cu ?_ ?_|refine wb2 ?_ ?_<;>(intro hb;try simp only [hb])|fail)<;>try simp only [go_sem,seval,ho,hd2,hGt,hw1,hw2,ne0,A0,A1])
     rw [C3 (rv5 rfl A0)];refine ⟨_,_,A0i (cc:=cc) (K:=H.upd t (paB L E ({ s with i:=s.i+1,ops:=s.ops+1 }:Rd))) (B9 hfr htc) (fun j hj=>?_),.mk kd vl nm [] (A3 L E s).pos,_,rfl,rfl,?_⟩
     ·simp [Hp.upd,show ¬j=cc by omega,show ¬j=c2 by omega,show ¬j=c2+1 by omega];try (split<;>rfl)
     ·rw [hpr];exact ⟨.refl _,fun _=>rfl,hP3,rfl⟩
 have hlk:=B0m D8 F8 rfl (A3 L E s).text;by_cases h3:(A3 L E s).kind=3
 ·have e3:((A3 L E s).kind == 3)=true:=by simpa using h3
  simp only [go_sem,seval,ne0,A0,A1];repeat' ((with_reducible first|refine E7 (p:=IW _ _ (pz Tryz.prog 196 (.o (.o (.i (.i (.o .h)))))) _ _) ?_|refine wr ?_|refine k_cu ?_ ?_|refine wb2 ?_ ?_<;>(intro hb;try simp only [hb])|fail)<;>try simp only [go_sem,seval,e3,ne0,A0,A1])
  and_intros
  all_goals try ((repeat rw [A2 (by omega)]);exact hfr _ (by omega))
  repeat' ((with_reducible first|refine E7 (p:=IW _ _ (pz Tryz.prog 196 (.o (.o (.i (.i (.o .h)))))) _ _) ?_|refine wr ?_|refine k_cu ?_ ?_|refine wb2 ?_ ?_<;>(intro hb;try simp only [hb])|fail)<;>try simp only [go_sem,seval,e3,ne0,A0,A1])
  exact IW.stage (by simp [C5,tm,Tm.upd]) (tail 1 (A3 L E s).value [] _ (by omega) (by rw [lfK,if_pos h3]))
 have e3:((A3 L E s).kind == 3)=false:=by simpa using h3
 by_cases h1:(A3 L E s).kind=1
 ·have e1:((A3 L E s).kind == 1)=true:=by simpa using h1
  simp only [go_sem,seval,ne0,A0,A1];repeat' ((with_reducible first|refine E7 (p:=IW _ _ (pz Tryz.prog 196 (.o (.o (.i (.i (.o .h)))))) _ _) ?_|refine wr ?_|refine k_cu ?_ ?_|refine wb2 ?_ ?_<;>(intro hb;try simp only [hb])|fail)<;>try simp only [go_sem,seval,e3,e1,ne0,A0,A1])
  and_intros
  all_goals try ((repeat rw [A2 (by omega)]);exact hfr _ (by omega))
  repeat' ((with_reducible first|refine E7 (p:=IW _ _ (pz Tryz.prog 196 (.o (.o (.i (.i (.o .h)))))) _ _) ?_|refine wr ?_|refine k_cu ?_ ?_|refine wb2 ?_ ?_<;>(intro hb;try simp only [hb])|fail)<;>try simp only [go_sem,seval,e3,e1,ne0,A0,A1])
  exact IW.stage (by simp [C5,tm,Tm.upd]) (tail 2 0 (A3 L E s).text _ (by omega) (by rw [lfK,if_neg h3,if_pos h1]))
 have e1:((A3 L E s).kind == 1)=false:=by simpa using h1
 by_cases h2:(A3 L E s).kind=2
 ·have e2:((A3 L E s).kind == 2)=true:=by simpa using h2
  simp only [go_sem,seval,ne0,A0,A1];repeat' ((with_reducible first|refine E7 (p:=IW _ _ (pz Tryz.prog 196 (.o (.o (.i (.i (.o .h)))))) _ _) ?_|refine wr ?_|refine cpc c_lvs ?_|refine k_cu ?_ ?_|refine wb2 ?_ ?_<;>(intro hb;try simp only [hb])|fail)<;>try simp only [go_sem,seval,e3,e1,e2,hlk,ne0,A0,A1])
  and_intros
  all_goals try ((repeat rw [A2 (by omega)]);exact hfr _ (by omega))
  repeat' ((with_reducible first|refine E7 (p:=IW _ _ (pz Tryz.prog 196 (.o (.o (.i (.i (.o .h)))))) _ _) ?_|refine wr ?_|refine cpc c_lvs ?_|refine k_cu ?_ ?_|refine wb2 ?_ ?_<;>(intro hb;try simp only [hb])|fail)<;>try simp only [go_sem,seval,e3,e1,e2,hlk,ne0,A0,A1])
  exact IW.stage (by simp [C5,tm,Tm.upd]) (tail (lkI D8 F8 (A3 L E s).text) 0 [] _ (by omega) (by rw [lfK,if_neg h3,if_neg h1,if_pos h2]))
 have e2:((A3 L E s).kind == 2)=false:=by simpa using h2
 simp only [go_sem,seval,ne0,A0,A1];repeat' ((with_reducible first|refine E7 (p:=IW _ _ (pz Tryz.prog 196 (.o (.o (.i (.i (.o .h)))))) _ _) ?_|refine wr ?_|refine k_cu ?_ ?_|refine wb2 ?_ ?_<;>(intro hb;try simp only [hb])|fail)<;>try simp only [go_sem,seval,e3,e1,e2,ne0,A0,A1])
 exact IW.stage (by simp [C5,tm,Tm.upd]) (tail 0 0 [] _ (by omega) (by rw [lfK,if_neg h3,if_neg h1,if_neg h2]))
theorem hideP {G:Hp} {k t:Nat} {b:Blk} (h:¬ t=k):N2 (G.upd k b) [k] t=G t:=by
 simp only [N2];rw [if_neg (by simpa using h),A2 h]
theorem mgP {X:Hp} {k t:Nat} {B:Blk} (h:¬ t=k):H4 [k] X ((N2 X [k]).upd t B)=X.upd t B:=by
 funext j
 simp only [H4];by_cases e:j=k
 ·subst e;rw [if_pos (by simp),A2 (fun e=>h e.symm)]
 ·rw [if_neg (by simpa using e)];by_cases e2:j=t
  ·subst e2;rw [A0,A0]
  ·rw [A2 e2,A2 e2];simp only [N2];rw [if_neg (by simpa using e)]
theorem c_pprim (L:List Tok) (E:Int) (hL:L.length<=1000000000) (hK:∀ t∈L,G4 t) (f:Nat)
  (ib:∀ n s m r,1<=n->n<=6->Eqv s m->D3 L E f n m=some r->PI L s->PeC L E 123 [I64 n] s r)
  (s m:Rd) (r:Ex × Rd) (hq:Eqv s m) (h:G8 L E (f+1) m=some r) (hP:PI L s) (hp0:isP L E s 5 [[45],[33]]=false):PeC L E 196 [] s r:=by
 unfold G8 at h;dsimp only at h;cases hp:isP L E s 5 [[40]] with
 | false =>
  rw [if_pos (pre_no hK (by rw [<- hq.isP];exact hp0) (by rw [<- hq.isP];exact hp))] at h;cases h;exact c_pleaf L E hL hK s m hq hP hp
 | true =>
  obtain ⟨ho,hlt, -⟩:=P3 (by decide) hp;obtain rfl:s=m:=hq.s (by rw [<- hq.ok,ho]);have hk:B7 L E s J1=2:=amg_tx hK hp J1 (by decide +kernel);rw [hk,if_neg (by decide)] at h;have hri:=hP.i;have hp0':=hP.p0;have hp1:=hP.p1;intro H cc t ht htc;refine AC.bodyT A6 rfl (Nat.le_of_ble_eq_true rfl) fun hfr=>?_;have hio:=c_pisO L E s (H.upd cc A2o) (cc+2) t (cc+1) (by rw [A2 (by omega)];exact hfr _ (by omega)) (by rw [A2 (by omega)];exact ht) (by omega) 5 [[40]] (by simp);repeat' ((with_reducible first|refine wr ?_|refine k_cu ?_ ?_|refine wb2 ?_ ?_<;>(intro hb;try simp only [hb])|fail)<;>try simp only [go_sem,seval])
  refine AC.call hio ?_;rintro v H' c1 ⟨rfl,rfl⟩ hc1;simp only [go_sem,seval,hp];repeat' ((with_reducible first|refine wr ?_|refine k_cu ?_ ?_|refine wb2 ?_ ?_<;>(intro hb;try simp only [hb])|fail)<;>try simp only [go_sem,seval,hp])
  refine AC.call (c_deeper L E s _ _ t (by rw [A2 (by omega)];exact ht) (by omega) (by omega) hp0' hp1) ?_;rintro v H' c2 ⟨rfl,rfl⟩ hc2;have ne0:=O0 t cc c2 (by omega);by_cases h16:s.par=16
  ·have hd:(s.par == 16)=true:=by simpa using h16
   have hl:C0 L E s (s.par+1) 16 50=pfl L E s 50:=by rw [S7,if_pos (by omega)]
   rw [hl,if_pos (by unfold pfl;exact M8 (by decide))] at h;cases h;rw [if_pos h16];simp only [go_sem,seval,hd,ne0,A0,A1];repeat' ((with_reducible first|refine wr ?_|refine k_cu ?_ ?_|refine wb2 ?_ ?_<;>(intro hb;try simp only [hb])|fail)<;>try simp only [go_sem,seval,hd,ne0,A0,A1])
   rw [C3 (rv5 rfl A0)];refine ⟨_,_,A0i (cc:=cc) (K:=H.upd t (paB L E (pfl L E s 50))) (B9 hfr htc) (fun j hj=>by simp [Hp.upd,show ¬j=cc by omega]),Ex0,_,rfl,rfl,.refl _,fun _=>rfl,hP.fl,A6r.2.2⟩
  ·have hd:(s.par == 16)=false:=by simpa using h16
   rw [W7 (by omega),if_neg (by rw [ho];decide),if_pos rfl] at h;rw [if_neg h16];have hP2:PI L ({ s with i:=s.i+1,par:=s.par+1 }:Rd):=⟨hlt,hP.o0,hP.o1,by show 0<=s.par+1;omega,by show s.par+1<=16;omega⟩;cases hb:D3 L E f 1 { s with i:=s.i+1,par:=s.par+1 } with
   | none=>rw [hb] at h;cases h
   | some q =>
    obtain ⟨e,m3⟩:=q;rw [hb] at h;dsimp only at h;cases h;simp only [go_sem,seval,hd,ne0,A0,A1];repeat' ((with_reducible first|refine wr ?_|refine k_cu ?_ ?_|refine wb2 ?_ ?_<;>(intro hb;try simp only [hb])|fail)<;>try simp only [go_sem,seval,hd,ne0,A0,A1])
    refine AC.call (ib 1 _ _ _ (by decide) (by decide) (.refl _) hb hP2 _ _ t A0 (by omega)) ?_;rintro v H' c3 ⟨x,s3,rfl,rfl,hx⟩ hc3;have hi3:=hx.bd.i;have ne0:=O0 t cc c3 (by omega);simp only [go_sem,seval,ne0,A0,A1,Ex.v_w];repeat' ((with_reducible first|refine wr ?_|refine k_cu ?_ ?_|refine wb2 ?_ ?_<;>(intro hb;try simp only [hb])|fail)<;>try simp only [go_sem,seval,ne0,A0,A1])
    refine AC.call (c_want L E s3 _ _ t (by repeat (first|exact A0|rw [A2 (by omega)])) (by omega) (by omega) 5 [41]) ?_;rintro v H' c4 ⟨rfl,rfl⟩ hc4;obtain ⟨w1,w2⟩:=hx.bd.want (E:=E) (k:=5) (w:=[41]) (by decide);have hpr3:=hx.pr;dsimp only at hpr3;have hw5:IntKind.i64.wrap ((E0 L E s3 5 [41]).par-1)=(E0 L E s3 5 [41]).par-1:=w64 (by omega) (by omega);have heq:=hx.eq.want (L:=L) (E:=E) (k:=5) (w:=[41]) (fun s=>E8 hK (by decide +kernel));have hres:PaE L s (e, { C7 L E m3 [41] with par:=(C7 L E m3 [41]).par-1 }) x ({ E0 L E s3 5 [41] with par:=(E0 L E s3 5 [41]).par-1 }:Rd):=by
     refine ⟨heq.par (fun k=>by rw [heq.s k]),fun k=>?_,⟨w1.i,w1.o0,w1.o1,by show 0<=(E0 L E s3 5 [41]).par-1;omega,by show (E0 L E s3 5 [41]).par-1<=16;omega⟩,by show (E0 L E s3 5 [41]).par-1=s.par;omega⟩;have k2:okR (C7 L E m3 [41])=true:=k;exact hx.vl (A3g (B0u k2).1).1
    generalize E0 L E s3 5 [41]=s4 at *;simp only [go_sem,seval,ne0,A0,A1];repeat' ((with_reducible first|refine wr ?_|refine k_cu ?_ ?_|refine wb2 ?_ ?_<;>(intro hb;try simp only [hb])|fail)<;>try simp only [go_sem,seval,hw5,ne0,A0,A1])
    rw [C3 (rv5 rfl A0)];refine ⟨_,_,H6 (cc:=cc) (K:=H.upd t (paB L E { s4 with par:=s4.par-1 })) (B9 hfr htc) (fun j hj=>?_),x,_,rfl,rfl,hres⟩;simp [Hp.upd,show ¬j=cc by omega,show ¬j=c3 by omega];try (split<;>rfl)
theorem c_punary (L:List Tok) (E:Int) (hL:L.length<=1000000000) (hK:∀ t∈L,G4 t) (f:Nat)
  (ib:∀ n s m r,1<=n->n<=6->Eqv s m->D3 L E f n m=some r->PI L s->PeC L E 123 [I64 n] s r)
  (iu:∀ s m r,Eqv s m->G8 L E f m=some r->PI L s->PeC L E 166 [] s r)
  (s m:Rd) (r:Ex × Rd) (hq:Eqv s m) (h:G8 L E (f+1) m=some r) (hP:PI L s):PeC L E 166 [] s r:=by
 intro H cc t ht htc;have hri:=hP.i;have hp0':=hP.p0;have hp1:=hP.p1;refine AC.bodyT A6 rfl (Nat.le_of_ble_eq_true rfl) fun hfr=>?_;repeat' ((with_reducible first|refine wr ?_|refine k_cu ?_ ?_|refine wb2 ?_ ?_<;>(intro hb;try simp only [hb])|fail)<;>try simp only [go_sem,seval])
 refine AC.call (c_here L E s _ _ t (by rw [A2 (by omega)];exact ht) (by omega)) ?_;rintro v H' c1 ⟨rfl,rfl⟩ hc;have ne0:=A1y t cc c1 (c1+1) (by omega);have hio:=c_pisO L E s ((H.upd cc A2o).upd c1 (tkB (A3 L E s))) (c1+1+1) t (c1+1) (by rw [A2 (by omega),A2 (by omega)];exact hfr _ (by omega)) (by rw [A2 (by omega),A2 (by omega)];exact ht) (by omega) 5 [[45],[33]] (by simp);simp only [go_sem,seval,ne0,A0,A1];repeat' ((with_reducible first|refine wr ?_|refine k_cu ?_ ?_|refine wb2 ?_ ?_<;>(intro hb;try simp only [hb])|fail)<;>try simp only [go_sem,seval,ne0,A0,A1])
 refine AC.call hio ?_;rintro v H' c2 ⟨rfl,rfl⟩ hc2;have hGt:((H.upd cc A2o).upd c1 (tkB (A3 L E s))) t=some (paB L E s):=by rw [A2 (by omega),A2 (by omega)];exact ht
 cases hp:isP L E s 5 [[45],[33]] with
 | false =>
  simp only [go_sem,seval,hp];repeat' ((with_reducible first|refine wr ?_|refine k_cu ?_ ?_|refine wb2 ?_ ?_<;>(intro hb;try simp only [hb])|fail)<;>try simp only [go_sem,seval,hp])
  refine AC.call (c_pprim L E hL hK f ib s m r hq h hP hp _ _ t hGt (by omega)) ?_;rintro v H' c3 ⟨x,s3,rfl,rfl,hx⟩ hc3;simp only [go_sem,seval,ne0,A0,A1,Ex.v_w];repeat' ((with_reducible first|refine wr ?_|refine k_cu ?_ ?_|refine wb2 ?_ ?_<;>(intro hb;try simp only [hb])|fail)<;>try simp only [go_sem,seval,ne0,A0,A1])
  rw [C3 (rv5 rfl A0)];refine ⟨_,_,H6 (cc:=cc) (K:=H.upd t (paB L E s3)) (B9 hfr htc) (fun j hj=>?_),x,s3,rfl,rfl,hx⟩;simp [Hp.upd,show ¬j=cc by omega,show ¬j=c1 by omega]
 | true =>
  obtain ⟨ho,hlt, -⟩:=P3 (by decide) hp;obtain rfl:s=m:=hq.s (by rw [<- hq.ok,ho]);obtain ⟨b,hb33,hk⟩:∃ b:Bool,((A3 L E s).text == [33])=b/\B7 L E s J1=if b=true then 1 else 0:=by
   rcases isP_two hp with h1|h1
   ·exact ⟨false,by rw [isP_tx h1];rfl,amg_tx hK h1 J1 (by decide +kernel)⟩
   ·exact ⟨true,by rw [isP_tx h1];rfl,amg_tx hK h1 J1 (by decide +kernel)⟩
  unfold G8 at h;dsimp only at h;rw [hk,if_neg (by cases b<;>decide)] at h;simp only [go_sem,seval,hp];repeat' ((with_reducible first|refine wr ?_|refine k_cu ?_ ?_|refine wb2 ?_ ?_<;>(intro hb;try simp only [hb])|fail)<;>try simp only [go_sem,seval,hp])
  refine AC.call (c_deeper L E s _ _ t hGt (by omega) (by omega) hp0' hp1) ?_;rintro v H' c3 ⟨rfl,rfl⟩ hc3;by_cases h16:s.par=16
  ·have hd:(s.par == 16)=true:=by simpa using h16
   have hl:C0 L E s (s.par+1) 16 50=pfl L E s 50:=by rw [S7,if_pos (by omega)]
   rw [hl,if_pos (by unfold pfl;exact M8 (by decide))] at h;cases h;rw [if_pos h16];simp only [go_sem,seval,hd,ne0,A0,A1];repeat' ((with_reducible first|refine wr ?_|refine k_cu ?_ ?_|refine wb2 ?_ ?_<;>(intro hb;try simp only [hb])|fail)<;>try simp only [go_sem,seval,hd,ne0,A0,A1])
   rw [C3 (rv5 rfl A0)];refine ⟨_,_,A0i (cc:=cc) (K:=H.upd t (paB L E (pfl L E s 50))) (B9 hfr htc) (fun j hj=>by simp [Hp.upd,show ¬j=cc by omega,show ¬j=c1 by omega]),Ex0,_,rfl,rfl,.refl _,fun _=>rfl,hP.fl,A6r.2.2⟩
  have hd:(s.par == 16)=false:=by simpa using h16
  rw [W7 (by omega),if_neg (by rw [ho];decide),if_neg (by cases b<;>decide)] at h;rw [if_neg h16];have hP2:PI L ({ s with i:=s.i+1,par:=s.par+1 }:Rd):=⟨hlt,hP.o0,hP.o1,by show 0<=s.par+1;omega,by show s.par+1<=16;omega⟩;cases hu:G8 L E f { s with i:=s.i+1,par:=s.par+1 } with
  | none=>rw [hu] at h;cases h
  | some q =>
   obtain ⟨e,m3⟩:=q;rw [hu] at h;dsimp only at h;cases h;have ne0:=R7 t cc c1 (c3+2) (c3+6) (by omega);simp only [go_sem,seval,hd,ne0,A0,A1];repeat' ((with_reducible first|refine wr ?_|refine k_cu ?_ ?_|refine wb2 ?_ ?_<;>(intro hb;try simp only [hb])|fail)<;>try simp only [go_sem,seval,hd,ne0,A0,A1])
   refine AC.call (iu _ _ _ (.refl _) hu hP2 _ _ t (by rw [hideP (by omega)];exact A0) (by omega)) ?_;rintro v H' c4 ⟨x,s3,rfl,rfl,hx⟩ hc4;have hi3:=hx.bd.i;have hpr3:=hx.pr;have hb3:=hx.bd;have hxe:=hx.eq;have hxv:=hx.vl;dsimp only at hpr3 hxe hxv;have hw5:IntKind.i64.wrap (s3.par-1)=s3.par-1:=w64 (by omega) (by omega);have hres:PaE L s (.mk (10+if b=true then 1 else 0) 0 [] [e] (A3 L E s).pos, { m3 with par:=m3.par-1 }) (.mk (if b=true then 11 else 10) 0 [] [x] (A3 L E s).pos) ({ s3 with par:=s3.par-1 }:Rd):=by
    refine ⟨hxe.par (fun k=>by rw [hxe.s k]),fun k=>?_,⟨hb3.i,hb3.o0,hb3.o1,by show 0<=s3.par-1;omega,by show s3.par-1<=16;omega⟩,by show s3.par-1=s.par;omega⟩;have k2:okR m3=true:=k;rw [hxv k2];cases b<;>rfl
   have hmg:∀ (X:Hp) (B:Blk),H4 [c3+6] X ((N2 X [c3+6]).upd t B)=X.upd t B:=fun X B=>mgP (by omega);cases b with
   | true =>
    simp only [go_sem,seval,ne0,A0,A1,hmg,Ex.v_w];repeat' ((with_reducible first|refine wr ?_|refine k_cu ?_ ?_|refine wb2 ?_ ?_<;>(intro hb;try simp only [hb])|fail)<;>try simp only [go_sem,seval,ne0,A0,A1,hb33])
    and_intros
    all_goals try ((repeat rw [A2 (by omega)]);exact hfr _ (by omega))
    repeat' ((with_reducible first|refine wr ?_|refine k_cu ?_ ?_|refine wb2 ?_ ?_<;>(intro hb;try simp only [hb])|fail)<;>try simp only [go_sem,seval,hw5,ne0,A0,A1,hb33])
    rw [C3 (rv5 rfl A0)];refine ⟨_,_,gl_fr (cc:=cc) (b:=c3+2) (K:=H.upd t (paB L E { s3 with par:=s3.par-1 })) [x] (B9 hfr htc) (by omega) ?_ (fun j hj=>?_),.mk 11 0 [] [x] (A3 L E s).pos,_,rfl,rfl,hres⟩
    ·rw [A2g];dsimp only
     repeat (first|exact A0|rw [A2 (by omega)])
    simp [Hp.upd,show ¬j=cc by omega,show ¬j=c1 by omega,show ¬j=c3+2 by omega,show ¬j=c3+6 by omega];try (split<;>rfl)
   | false =>
    simp only [go_sem,seval,ne0,A0,A1,hmg,Ex.v_w];repeat' ((with_reducible first|refine wr ?_|refine k_cu ?_ ?_|refine wb2 ?_ ?_<;>(intro hb;try simp only [hb])|fail)<;>try simp only [go_sem,seval,ne0,A0,A1,hb33])
    and_intros
    all_goals try ((repeat rw [A2 (by omega)]);exact hfr _ (by omega))
    repeat' ((with_reducible first|refine wr ?_|refine k_cu ?_ ?_|refine wb2 ?_ ?_<;>(intro hb;try simp only [hb])|fail)<;>try simp only [go_sem,seval,hw5,ne0,A0,A1,hb33])
    rw [C3 (rv5 rfl A0)];refine ⟨_,_,gl_fr (cc:=cc) (b:=c3+2) (K:=H.upd t (paB L E { s3 with par:=s3.par-1 })) [x] (B9 hfr htc) (by omega) ?_ (fun j hj=>?_),.mk 10 0 [] [x] (A3 L E s).pos,_,rfl,rfl,hres⟩
    ·rw [A2g];dsimp only
     repeat (first|exact A0|rw [A2 (by omega)])
    simp [Hp.upd,show ¬j=cc by omega,show ¬j=c1 by omega,show ¬j=c3+2 by omega,show ¬j=c3+6 by omega];try (split<;>rfl)
theorem c_plevel (L:List Tok) (E:Int) (hL:L.length<=1000000000) (hK:∀ t∈L,G4 t) (f:Nat)
  (ib:∀ g,g<=f->∀ n s m r,1<=n->n<=6->Eqv s m->D3 L E g n m=some r->PI L s->PeC L E 123 [I64 n] s r)
  (iu:∀ s m r,Eqv s m->G8 L E f m=some r->PI L s->PeC L E 166 [] s r)
  (n:Int) (s m:Rd) (r:Ex × Rd) (hn1:1<=n) (hn6:n<=6) (hq:Eqv s m) (h:D3 L E (f+1) n m=some r) (hP:PI L s):PeC L E 123 [I64 n] s r:=by
 intro H cc t ht htc;refine AC.bodyT A6 rfl (Nat.le_of_ble_eq_true rfl) fun hfr=>?_;unfold D3 at h;have ne0:=U0 t cc (by omega);by_cases h5:5<n
 ·rw [if_pos h5] at h;have hd:(n == 6)=true:=by simp;omega
  repeat' ((with_reducible first|refine wr ?_|refine k_cu ?_ ?_|refine wb2 ?_ ?_<;>(intro hb;try simp only [hb])|fail)<;>try simp only [go_sem,seval,hd])
  refine AC.call (iu _ _ _ hq h hP _ _ t (by rw [A2 (by omega)];exact ht) (by omega)) ?_;rintro v H' c1 ⟨x,s1,rfl,rfl,hx⟩ hc1;simp only [go_sem,seval,ne0,A0,A1,Ex.v_w];repeat' ((with_reducible first|refine wr ?_|refine k_cu ?_ ?_|refine wb2 ?_ ?_<;>(intro hb;try simp only [hb])|fail)<;>try simp only [go_sem,seval,ne0,A0,A1])
  rw [C3 (rv5 rfl A0)];refine ⟨_,_,H6 (cc:=cc) (K:=H.upd t (paB L E s1)) (B9 hfr htc) (fun j hj=>?_),x,s1,rfl,rfl,hx⟩;simp [Hp.upd,show ¬j=cc by omega]
 rw [if_neg h5] at h;have hd:(n == 6)=false:=by simp;omega
 have hw:IntKind.i64.wrap (n+1)=n+1:=w64 (by omega) (by omega);cases hb:D3 L E f (n+1) m with
 | none=>rw [hb] at h;cases h
 | some q =>
  obtain ⟨e,m1⟩:=q;rw [hb] at h;dsimp only at h;repeat' ((with_reducible first|refine wr ?_|refine k_cu ?_ ?_|refine wb2 ?_ ?_<;>(intro hb;try simp only [hb])|fail)<;>try simp only [go_sem,seval,hd,hw])
  refine AC.call (ib f (Nat.le_refl _) (n+1) _ _ _ (by omega) (by omega) hq hb hP _ _ t (by rw [A2 (by omega)];exact ht) (by omega)) ?_;rintro v H' c1 ⟨x,s1,rfl,rfl,hx⟩ hc1;have hx1:=hx.eq;have hx2:=hx.vl;have hx3:=hx.bd;have hx4:=hx.pr;dsimp only at hx1 hx2;have ne0:=O0 t cc c1 (by omega);simp only [go_sem,seval,ne0,A0,A1,Ex.v_w];repeat' ((with_reducible first|refine wr ?_|refine k_cu ?_ ?_|refine wb2 ?_ ?_<;>(intro hb;try simp only [hb])|fail)<;>try simp only [go_sem,seval,ne0,A0,A1])
  refine A0b (fun _:Nat × Ex × Rd × Ex × Rd=>[(0,.ptr t 0),(1,I64 n),(4,.ptr cc 0),(5,.ptr c1 0)]) (fun q=>((H.upd cc A2o).upd t (paB L E q.2.2.2.2)).upd c1 (exB q.2.2.2.1))
   (fun q c=>c1+1<=c/\q.1<=f/\F9 L E q.1 n q.2.1 q.2.2.1=some r/\Eqv q.2.2.2.2 q.2.2.1/\(okR q.2.2.1=true->q.2.2.2.1=q.2.1)/\PI L q.2.2.2.2/\q.2.2.2.2.par=s.par) (fun q=>q.1) (f,e,m1,x,s1) (fun b=>by simp [C5,tm,Tm.upd]) (by simp [C5,tm,Tm.upd]) (Sub.refl _) ⟨Nat.le_refl _,Nat.le_refl _,h,hx1,hx2,hx3,hx4⟩ ?_
  clear h hb hx hx1 hx2 hx3 hx4 s1 e m1 x;rintro ⟨g,e,m1,x,s1⟩ c ⟨hc,hg,hv,k1,k2,k3,k4⟩;dsimp only at hc hg hv k1 k2 k3 k4 ⊢;have hri:=k3.i;cases g with
  | zero=>simp [F9] at hv
  | succ g =>
  have hTt:∀ b:Blk,(((H.upd cc A2o).upd t (paB L E s1)).upd c1 b) t=some (paB L E s1):=fun b=>by rw [A2 (by omega),A0]
  repeat' ((with_reducible first|refine wr ?_|refine k_cu ?_ ?_|refine wb2 ?_ ?_<;>(intro hb;try simp only [hb])|fail)<;>try simp only [go_sem,seval])
  refine AC.call (c_pok L E s1 _ _ t (hTt _) (by omega)) ?_;rintro v H' c2 ⟨rfl,rfl⟩ hc2;cases ho:okR s1 with
  | false =>
   have hm:okR m1=false:=by rw [<- k1.ok,ho]
   obtain rfl:=(EN.all (g+1)).2.1 _ _ _ _ hv hm;simp only [go_sem,seval,ho];repeat' ((with_reducible first|refine wr ?_|refine k_cu ?_ ?_|refine wb2 ?_ ?_<;>(intro hb;try simp only [hb])|fail)<;>try simp only [go_sem,seval,ho,ne0,A0,A1])
   rw [C3 (rv5 rfl A0)];refine ⟨_,_,H6 (cc:=cc) (K:=H.upd t (paB L E s1)) (B9 hfr htc) (fun j hj=>?_),x,s1,rfl,rfl,k1,fun k=>(by simp [hm] at k),k3,k4⟩;simp [Hp.upd,show ¬j=cc by omega,show ¬j=c1 by omega]
  | true =>
  obtain rfl:s1=m1:=k1.s (by rw [<- k1.ok,ho]);obtain rfl:=k2 ho;unfold F9 at hv;dsimp only at hv;obtain ⟨hl1,hl2⟩:=lop_lk (E:=E) hK ho hn1 (by omega:n<=5);have hnn:0<=B7 L E s1 B6->s1.i<L.length:=fun h=>(K9 h).2.1;have hlk:=B0m B6 A8b rfl (A3 L E s1).text;simp only [go_sem,seval,ho];repeat' ((with_reducible first|refine wr ?_|refine k_cu ?_ ?_|refine wb2 ?_ ?_<;>(intro hb;try simp only [hb])|fail)<;>try simp only [go_sem,seval,ho,ne0,A0,A1])
  refine AC.call (c_here L E s1 _ _ t (hTt _) (by omega)) ?_;rintro v H' c3 ⟨rfl,rfl⟩ hc3;have ne0:=R7 t cc c1 c3 (c3+12) (by omega);by_cases hstop:B7 L E s1 B6<0\/A8 (12+B7 L E s1 B6)≠n
  ·rw [if_pos hstop] at hv;cases hv;have hs2:=hl1.1 hstop;by_cases hk5:(A3 L E s1).kind=5
   ·have e5:((A3 L E s1).kind != 5)=false:=by simpa using hk5
    have el:(A8 (lkI B6 A8b (A3 L E s1).text) != n)=true:=by
     rcases hs2 with h|h
     ·exact absurd hk5 h
     ·simpa using h
    simp only [go_sem,seval,ne0,A0,A1];repeat' ((with_reducible first|refine wr ?_|refine cpc c_ops ?_|refine cpc (c_levP _) ?_|refine k_cu ?_ ?_|refine wb2 ?_ ?_<;>(intro hb;try simp only [hb])|fail)<;>try simp only [go_sem,seval,e5,el,hlk,ne0,A0,A1])
    and_intros
    all_goals try ((repeat rw [A2 (by omega)]);exact hfr _ (by omega))
    repeat' ((with_reducible first|refine wr ?_|refine cpc c_ops ?_|refine cpc (c_levP _) ?_|refine k_cu ?_ ?_|refine wb2 ?_ ?_<;>(intro hb;try simp only [hb])|fail)<;>try simp only [go_sem,seval,e5,el,hlk,ne0,A0,A1])
    rw [C3 (rv5 rfl A0)];refine ⟨_,_,H6 (cc:=cc) (K:=H.upd t (paB L E s1)) (B9 hfr htc) (fun j hj=>?_),_,s1,rfl,rfl,.refl _,fun _=>rfl,k3,k4⟩;simp [Hp.upd,show ¬j=cc by omega,show ¬j=c1 by omega,show ¬j=c3 by omega]
   ·have e5:((A3 L E s1).kind != 5)=true:=by simpa using hk5
    simp only [go_sem,seval,ne0,A0,A1];repeat' ((with_reducible first|refine wr ?_|refine cpc c_ops ?_|refine cpc (c_levP _) ?_|refine k_cu ?_ ?_|refine wb2 ?_ ?_<;>(intro hb;try simp only [hb])|fail)<;>try simp only [go_sem,seval,e5,hlk,ne0,A0,A1])
    and_intros
    all_goals try ((repeat rw [A2 (by omega)]);exact hfr _ (by omega))
    repeat' ((with_reducible first|refine wr ?_|refine cpc c_ops ?_|refine cpc (c_levP _) ?_|refine k_cu ?_ ?_|refine wb2 ?_ ?_<;>(intro hb;try simp only [hb])|fail)<;>try simp only [go_sem,seval,e5,hlk,ne0,A0,A1])
    rw [C3 (rv5 rfl A0)];refine ⟨_,_,H6 (cc:=cc) (K:=H.upd t (paB L E s1)) (B9 hfr htc) (fun j hj=>?_),_,s1,rfl,rfl,.refl _,fun _=>rfl,k3,k4⟩;simp [Hp.upd,show ¬j=cc by omega,show ¬j=c1 by omega,show ¬j=c3 by omega]
  rw [if_neg hstop] at hv;have hk0:0<=B7 L E s1 B6:=by omega
  have hlt:=hnn hk0;obtain ⟨hl3,hk5,hl4⟩:=hl2 hk0;have e5:((A3 L E s1).kind != 5)=false:=by simpa using hk5
  have el:(A8 (lkI B6 A8b (A3 L E s1).text) != n)=false:=by
   rw [hl3];simp;omega
  have hP2:=k3.nxt hlt;have hwi:IntKind.i64.wrap ((s1.i:Int)+1)=((s1.i+1:Nat):Int):=by rw [w64 (by omega) (by omega)];omega
  cases hb:D3 L E g (n+1) (B3 s1) with
  | none=>rw [hb] at hv;cases hv
  | some q =>
   obtain ⟨e2,m2⟩:=q;rw [hb] at hv;dsimp only at hv;rw [<- hl3] at hv;simp only [go_sem,seval,ne0,A0,A1];repeat' ((with_reducible first|refine wr ?_|refine cpc c_ops ?_|refine cpc (c_levP _) ?_|refine k_cu ?_ ?_|refine wb2 ?_ ?_<;>(intro hb;try simp only [hb])|fail)<;>try simp only [go_sem,seval,e5,el,hlk,hwi,hw,ne0,A0,A1])
   and_intros
   all_goals try ((repeat rw [A2 (by omega)]);exact hfr _ (by omega))
   repeat' ((with_reducible first|refine wr ?_|refine cpc c_ops ?_|refine cpc (c_levP _) ?_|refine k_cu ?_ ?_|refine wb2 ?_ ?_<;>(intro hb;try simp only [hb])|fail)<;>try simp only [go_sem,seval,e5,el,hlk,hwi,hw,ne0,A0,A1])
   refine AC.call (ib g (by omega) (n+1) (B3 s1) (B3 s1) _ (by omega) (by omega) (.refl _) hb hP2 _ _ t (by repeat (first|exact A0|rw [A2 (by omega)])) (by omega)) ?_;rintro v H' c4 ⟨y,s2,rfl,rfl,hy⟩ hc4;have y1:=hy.eq;have y2:=hy.vl;have y3:=hy.bd;have y4:=hy.pr;dsimp only at y1 y2;generalize lkI B6 A8b (A3 L E s1).text=kd at *;simp only [go_sem,seval,ne0,A0,A1,Ex.v_w];repeat' ((with_reducible first|refine wr ?_|refine k_cu ?_ ?_|refine wb2 ?_ ?_<;>(intro hb;try simp only [hb])|fail)<;>try simp only [go_sem,seval,ne0,A0,A1])
   and_intros
   all_goals try ((repeat rw [A2 (by omega)]);exact hfr _ (by omega))
   by_cases h3:n=3
   ·have hd3:(n == 3)=true:=by simpa using h3
    rw [if_pos h3] at hv;cases hv;repeat' ((with_reducible first|refine wr ?_|refine k_cu ?_ ?_|refine wb2 ?_ ?_<;>(intro hb;try simp only [hb])|fail)<;>try simp only [go_sem,seval,hd3,ne0,A0,A1])
    rw [C3 (rv5 rfl A0)];refine ⟨_,_,gl_fr (cc:=cc) (b:=c3+12) (K:=H.upd t (paB L E s2)) [x,y] (B9 hfr htc) (by omega) ?_ (fun j hj=>?_),.mk kd 0 [] [x,y] (A3 L E s1).pos,s2,rfl,rfl,y1,fun k=>(by rw [y2 k]),y3,y4.trans k4⟩
    ·rw [ex_c2];dsimp only
     repeat (first|exact A0|rw [A2 (by omega)])
    simp [Hp.upd,show ¬j=cc by omega,show ¬j=c1 by omega,show ¬j=c3 by omega,show ¬j=c3+12 by omega];try (split<;>rfl)
   ·have hd3:(n == 3)=false:=by simpa using h3
    rw [if_neg h3] at hv;repeat' ((with_reducible first|refine wr ?_|refine k_cu ?_ ?_|refine wb2 ?_ ?_<;>(intro hb;try simp only [hb])|fail)<;>try simp only [go_sem,seval,hd3,ne0,A0,A1])
    refine ⟨(g,.mk kd 0 [] [x,e2] (A3 L E s1).pos,m2,.mk kd 0 [] [x,y] (A3 L E s1).pos,s2),?_,inv ⟨by omega,by simp only;omega,hv,y1,fun k=>(by simp only [y2 k]),y3,y4.trans k4⟩,by simp only;omega⟩;refine GL.frzT (id:=c3+12) (b:=⟨5,true,A7 ([x,y].map Ex.v)⟩) ?_ rfl (fun j=>?_) (FzL.refl _)
    ·rw [ex_c2]
     repeat (first|exact A0|rw [A2 (by omega)])
    by_cases j1:j=c1
    ·subst j1;refine .inr ⟨by omega,.inr ⟨_,_,A0,A0,rfl,rfl,.cons _ _ _ _ (.same _) (.cons _ _ _ _ (.same _) (.cons _ _ _ _ (.same _) (.cons _ _ _ _ (J8 (u:=5) (xs:=[x,y].map Ex.v) (by simp) (A5x _) ⟨[],by simp⟩) (.cons _ _ _ _ (.same _) .nil)))),by simp [DV.one]⟩⟩
    ·by_cases j2:j=c3+12
     ·subst j2;left
      repeat rw [A2 (by omega)]
      exact hfr _ (by omega)
     ·by_cases j3:j=c3
      ·subst j3;left
       repeat rw [A2 (by omega)]
       exact hfr _ (by omega)
      refine .inr ⟨j2,.inl ?_⟩;simp [Hp.upd,j1,j2,j3];try (split<;>rfl)
theorem c_plu (L:List Tok) (E:Int) (hL:L.length<=1000000000) (hK:∀ t∈L,G4 t):∀ f:Nat,(∀ n s m r,1<=n->n<=6->Eqv s m->D3 L E f n m=some r->PI L s->PeC L E 123 [I64 n] s r)/\(∀ s m r,Eqv s m->G8 L E f m=some r->PI L s->PeC L E 166 [] s r):=by
 intro f
 induction f using Nat.strongRecOn with
 | _ f ih =>
  cases f with
  | zero=>exact ⟨fun n s m r _ _ _ h=>by simp [D3] at h,fun s m r _ h=>by simp [G8] at h⟩
  | succ f =>
   exact ⟨fun n s m r h1 h2 hq h hP=>c_plevel L E hL hK f (fun g hg=>(ih g (by omega)).1) (ih f (by omega)).2 n s m r h1 h2 hq h hP,
    fun s m r hq h hP=>c_punary L E hL hK f (ih f (by omega)).1 (ih f (by omega)).2 s m r hq h hP⟩
theorem c_pexpr (L:List Tok) (E:Int) (hL:L.length<=1000000000) (hK:∀ t∈L,G4 t) (f:Nat) (s m:Rd) (r:Ex × Rd) (hq:Eqv s m) (h:F4 L E f m=some r) (hi:s.i<=L.length) :
  ∀ (H:Hp) (cc t:Nat),H t=some (paB L E s)->t<cc->AC Tryz.prog 69 [.ptr t 0] H cc (fun v H' c' => ∃ x s',v=x.v/\H'=H.upd t (paB L E s')/\Eqv s' r.2/\(okR r.2=true->x=r.1)/\PI L s'):=by
 intro H cc t ht htc;refine AC.bodyT A6 rfl (Nat.le_of_ble_eq_true rfl) fun hfr=>?_;have ne0:=U0 t cc (by omega);repeat' ((with_reducible first|refine wr ?_|refine k_cu ?_ ?_|refine wb2 ?_ ?_<;>(intro hb;try simp only [hb])|fail)<;>try simp only [go_sem,seval,ht,ne0,A0,A1])
 refine AC.call ((c_plu L E hL hK f).1 1 { s with ops:=0,par:=0 } { m with ops:=0,par:=0 } r (by decide) (by decide) ⟨hq.e,hq.p,fun k=>by rw [hq.s k]⟩ h ⟨hi,Int.le_refl 0,(by decide:(0:Int)<=32),Int.le_refl 0,(by decide:(0:Int)<=16)⟩ _ _ t (by exact A0) (by omega)) ?_;rintro v H' c1 ⟨x,s1,rfl,rfl,hx⟩ hc1;simp only [go_sem,seval,ne0,A0,A1,Ex.v_w];repeat' ((with_reducible first|refine wr ?_|refine k_cu ?_ ?_|refine wb2 ?_ ?_<;>(intro hb;try simp only [hb])|fail)<;>try simp only [go_sem,seval,ne0,A0,A1])
 rw [C3 (rv5 rfl A0)];refine ⟨_,_,H6 (cc:=cc) (K:=H.upd t (paB L E s1)) (B9 hfr htc) (fun j hj=>?_),x,s1,rfl,rfl,hx.eq,hx.vl,hx.bd⟩;simp [Hp.upd,show ¬j=cc by omega];try (split<;>rfl)
end Go.Proofs.YthlpinppaclofaaGreatDoor
set_option maxHeartbeats 8000000
namespace Go.Proofs.YthlpinppaclofaaGreatDoor
open Go.Eng (IC IOper DReg IFn B5)
open Go.Sym Go.Pb
theorem c_begins (L:List Tok) (E:Int) (s:Rd) (H:Hp) (cc t:Nat) (ht:H t=some (paB L E s)) (htc:t<cc):AC Tryz.prog 210 [.ptr t 0] H cc (fun v H' c'=>v=.bool (A7q L E s)/\H'=H):=by
 refine AC.bodyT A6 rfl (Nat.le_of_ble_eq_true rfl) fun hfr=>?_;repeat' ((with_reducible first|refine wr ?_|refine k_cu ?_ ?_|refine wb2 ?_ ?_<;>(intro hb;try simp only [hb])|fail)<;>try simp only [go_sem,seval])
 refine AC.call (c_here L E s _ _ t ht (by omega)) ?_;rintro v H' c1 ⟨rfl,rfl⟩ hc;have ne0:=U0 t c1 (by omega);have hlk:=B0m C1 U9 rfl (A3 L E s).text;simp only [go_sem,seval,ne0,A0,A1];repeat' ((with_reducible first|refine wr ?_|refine k_cu ?_ ?_|refine wb2 ?_ ?_<;>(intro hb;try simp only [hb])|fail)<;>try simp only [go_sem,seval,ne0,A0,A1])
 refine AC.call (c_pok L E s _ _ t (by rw [A2 (by omega)];exact ht) (by omega)) ?_;rintro v H' c2 ⟨rfl,rfl⟩ hc2;unfold A7q;cases ho:okR s with
 | false =>
  simp only [go_sem,seval,ne0,A0,A1,ho];repeat' ((with_reducible first|refine wr ?_|refine k_cu ?_ ?_|refine wb2 ?_ ?_<;>(intro hb;try simp only [hb])|fail)<;>try simp only [go_sem,seval,ne0,A0,A1,ho])
  and_intros
  all_goals try ((repeat rw [A2 (by omega)]);exact hfr _ (by omega))
  repeat' ((with_reducible first|refine wr ?_|refine k_cu ?_ ?_|refine wb2 ?_ ?_<;>(intro hb;try simp only [hb])|fail)<;>try simp only [go_sem,seval,ne0,A0,A1,ho])
  exact ⟨_,_,W8 (fun i hi=>hfr i (by omega)),by simp [*],rfl⟩
 | true =>
  by_cases h1:(A3 L E s).kind=1
  ·have e1:((A3 L E s).kind == 1)=true:=by simpa using h1
   simp only [go_sem,seval,ne0,A0,A1,ho,e1];repeat' ((with_reducible first|refine wr ?_|refine k_cu ?_ ?_|refine wb2 ?_ ?_<;>(intro hb;try simp only [hb])|fail)<;>try simp only [go_sem,seval,ne0,A0,A1,ho,e1])
   and_intros
   all_goals try ((repeat rw [A2 (by omega)]);exact hfr _ (by omega))
   repeat' ((with_reducible first|refine wr ?_|refine k_cu ?_ ?_|refine wb2 ?_ ?_<;>(intro hb;try simp only [hb])|fail)<;>try simp only [go_sem,seval,ne0,A0,A1,ho])
   exact ⟨_,_,W8 (fun i hi=>hfr i (by omega)),by simp [*],rfl⟩
  have e1:((A3 L E s).kind == 1)=false:=by simpa using h1
  by_cases h2:(A3 L E s).kind=2
  ·have e2:((A3 L E s).kind == 2)=true:=by simpa using h2
   simp only [go_sem,seval,ne0,A0,A1,ho,e1,e2,hlk];repeat' ((with_reducible first|refine wr ?_|refine cpc c_stms ?_|refine k_cu ?_ ?_|refine wb2 ?_ ?_<;>(intro hb;try simp only [hb])|fail)<;>try simp only [go_sem,seval,ne0,A0,A1,ho,e1,e2,hlk])
   and_intros
   all_goals try ((repeat rw [A2 (by omega)]);exact hfr _ (by omega))
   repeat' ((with_reducible first|refine wr ?_|refine k_cu ?_ ?_|refine wb2 ?_ ?_<;>(intro hb;try simp only [hb])|fail)<;>try simp only [go_sem,seval,ne0,A0,A1,ho])
   exact ⟨_,_,W8 (fun i hi=>hfr i (by omega)),by simp [*],rfl⟩
  have e2:((A3 L E s).kind == 2)=false:=by simpa using h2
  simp only [go_sem,seval,ne0,A0,A1,ho,e1,e2];repeat' ((with_reducible first|refine wr ?_|refine k_cu ?_ ?_|refine wb2 ?_ ?_<;>(intro hb;try simp only [hb])|fail)<;>try simp only [go_sem,seval,ne0,A0,A1,ho,e1,e2])
  and_intros
  all_goals try ((repeat rw [A2 (by omega)]);exact hfr _ (by omega))
  repeat' ((with_reducible first|refine wr ?_|refine k_cu ?_ ?_|refine wb2 ?_ ?_<;>(intro hb;try simp only [hb])|fail)<;>try simp only [go_sem,seval,ne0,A0,A1,ho])
  exact ⟨_,_,W8 (fun i hi=>hfr i (by omega)),by simp [*],rfl⟩
abbrev PsC (L:List Tok) (E:Int) (f:Nat) (vs:List DV) (s:Rd) (q:Pb.St × Rd):Prop :=
 ∀ (H:Hp) (cc t:Nat),H t=some (paB L E s)->t<cc->AC Tryz.prog f (.ptr t 0 :: vs) H cc (fun v H' c' => ∃ x s',v=Pb.St.v x/\H'=H.upd t (paB L E s')/\Eqv s' q.2/\(okR q.2=true->x=q.1)/\PI L s')
abbrev PlC (L:List Tok) (E:Int) (f:Nat) (vs:List DV) (s:Rd) (q:List Pb.St × Rd):Prop :=
 ∀ (H:Hp) (cc t:Nat),H t=some (paB L E s)->t<cc->AC Tryz.prog f (.ptr t 0 :: vs) H cc (fun v H' c' => ∃ x s',v=J4 x/\H'=H.upd t (paB L E s')/\Eqv s' q.2/\(okR q.2=true->x=q.1)/\PI L s')
def elsM (L:List Tok) (E:Int) (f:Nat) (d:Int) (m:Rd):Option (List Pb.St × Rd):=if isR L E m [101,108,115,101]=true then A0h L E f d (B3 m) else some ([],m)
theorem A4q {L:List Tok} {E:Int} {m:Rd} {w:List UInt8} (k:okR (C7 L E m w)=true):okR m=true:=(A3g (B0u k).1).1
theorem expn_m {L:List Tok} {E:Int} {f:Nat} {m:Rd} {q:Ex × Rd} (h:F4 L E f m=some q) (k:okR q.2=true):okR m=true:=by
 cases ho:okR m with
 | true=>rfl
 | false=>obtain rfl:=expn_nok h ho;have:okR m=true:=k;rw [ho] at this;cases this
theorem blk_m {L:List Tok} {E:Int} {f:Nat} {d:Int} {m:Rd} {q:List Pb.St × Rd} (h:I8 L E f d m=some q) (k:okR q.2=true):okR m=true:=by
 cases ho:okR m with
 | true=>rfl
 | false=>obtain rfl:=blk_nok h ho;exact absurd k (by simp [ho])
theorem els_m {L:List Tok} {E:Int} {f:Nat} {d:Int} {m:Rd} {q:List Pb.St × Rd} (h:elsM L E f d m=some q) (k:okR q.2=true):okR m=true:=by
 unfold elsM at h;split at h
 ·rename_i hi;exact (A3g hi).1
 ·cases h;exact k
theorem c_pstmt (L:List Tok) (E:Int) (hL:L.length<=1000000000) (hK:∀ t∈L,G4 t) (f:Nat)
  (ib:∀ d s m r,0<=d->d<=9->Eqv s m->I8 L E f d m=some r->PI L s->PlC L E 198 [I64 d] s r)
  (io:∀ d s m r,0<=d->d<=8->Eqv s m->elsM L E f d m=some r->PI L s->PlC L E 222 [I64 (d+1)] s r)
  (d:Int) (s:Rd) (r:Pb.St × Rd) (hd0:0<=d) (hd:d<=8) (hbg:A7q L E s=true) (h:O8 L E (f+1) d s=some r) (hP:PI L s):PsC L E 211 [I64 d] s r:=by
 intro H cc t ht htc;obtain ⟨ho,hbk⟩:=(beg_amg hK).1 hbg;obtain ⟨hs1,hs2⟩:=stm_lk (E:=E) hK ho;have hri:=hP.i;unfold O8 at h;dsimp only at h;rw [W7 (by omega:¬ (8:Int)<d),if_neg (by rw [ho];decide)] at h;have hlt:s.i<L.length:=by
  rcases hbk with hk|hk
  ·exact (K9 hk).2.1
  ·exact (G9 (by decide) (J2 hk).2).2
 have hw1:IntKind.i64.wrap ((s.i:Int)+1)=((s.i+1:Nat):Int):=by rw [w64 (by omega) (by omega)];omega
 have hwd:IntKind.i64.wrap (d+1)=d+1:=w64 (by omega) (by omega);have hPn:=hP.nxt hlt;have hqn:=Eqv.refl (B3 s);refine AC.bodyT A6 rfl (Nat.le_of_ble_eq_true rfl) fun hfr=>?_;repeat' ((with_reducible first|refine wr ?_|refine k_cu ?_ ?_|refine wb2 ?_ ?_<;>(intro hb;try simp only [hb])|fail)<;>try simp only [go_sem,seval])
 refine AC.call (c_here L E s _ _ t (by rw [A2 (by omega)];exact ht) (by omega)) ?_;rintro v H' c1 ⟨rfl,rfl⟩ hc1;have ne0:=A1y t cc c1 (c1+1) (by omega);by_cases hk1:(A3 L E s).kind=1
 ·have e1:((A3 L E s).kind == 1)=true:=by simpa using hk1
  have hkk:F2 L E s 1=true:=by unfold F2;rw [ho,hk1];rfl
  have htk:A9 L E s 1=(A3 L E s,B3 s):=by unfold A9;rw [hkk,if_neg (by decide)]
  have hk:B7 L E s C1<0:=by
   by_cases hk:B7 L E s C1<0
   ·exact hk
   ·have:=(hs1 (by omega)).1;omega
  rw [if_pos hk,htk] at h;dsimp only at h;cases hz2:F4 L E f (C7 L E (B3 s) [61]) with
  | none=>rw [hz2] at h;cases h
  | some qhz2 =>
   obtain ⟨e,m2⟩:=qhz2;rw [hz2] at h;dsimp only at h;cases h;simp only [go_sem,seval,ne0,A0,A1];repeat' ((with_reducible first|refine wr ?_|refine k_cu ?_ ?_|refine wb2 ?_ ?_<;>(intro hb;try simp only [hb])|fail)<;>try simp only [go_sem,seval,e1,ht,hw1,ne0,A0,A1])
   refine AC.call (c_want L E (B3 s) _ _ t (by repeat (first|exact A0|rw [A2 (by omega)]|rw [E9 (by omega)])) (by omega) (by have:=hPn.i;omega) 5 [61]) ?_;rintro v H' c3 ⟨rfl,rfl⟩ hc3;have qc3:=hqn.want (L:=L) (E:=E) (k:=5) (w:=[61]) (fun s=>E8 hK (by decide +kernel));have bc3:=(hPn.want (E:=E) (k:=5) (w:=[61]) (by decide)).1;simp only [go_sem,seval,ne0,A0,A1];repeat' ((with_reducible first|refine wr ?_|refine k_cu ?_ ?_|refine wb2 ?_ ?_<;>(intro hb;try simp only [hb])|fail)<;>try simp only [go_sem,seval,ne0,A0,A1])
   refine AC.call (c_pexpr L E hL hK f (E0 L E (B3 s) 5 [61]) (C7 L E (B3 s) [61]) (e,m2) qc3 hz2 bc3.i _ _ t (by repeat (first|exact A0|rw [A2 (by omega)]|rw [E9 (by omega)])) (by omega)) ?_;rintro v H' c4 ⟨xc4,sc4,rfl,rfl,qc4,uc4,bc4⟩ hc4;dsimp only at qc4 uc4;have ne0:=R7 t cc c1 (c1+1) c4 (by omega);simp only [go_sem,seval,Ex.v_w,ne0,A0,A1];repeat' ((with_reducible first|refine wr ?_|refine k_cu ?_ ?_|refine wb2 ?_ ?_<;>(intro hb;try simp only [hb])|fail)<;>try simp only [go_sem,seval,ne0,A0,A1])
   refine AC.call (c_want L E sc4 _ _ t (by repeat (first|exact A0|rw [A2 (by omega)]|rw [E9 (by omega)])) (by omega) (by have:=bc4.i;omega) 5 [59]) ?_;rintro v H' c5 ⟨rfl,rfl⟩ hc5;have qc5:=qc4.want (L:=L) (E:=E) (k:=5) (w:=[59]) (fun s=>E8 hK (by decide +kernel));have bc5:=(bc4.want (E:=E) (k:=5) (w:=[59]) (by decide)).1;simp only [go_sem,seval,ne0,A0,A1];repeat' ((with_reducible first|refine wr ?_|refine k_cu ?_ ?_|refine wb2 ?_ ?_<;>(intro hb;try simp only [hb])|fail)<;>try simp only [go_sem,seval,ne0,A0,A1])
   rw [C3 (rv7 rfl A0)];refine ⟨_,_,A0x (cc:=cc) (K:=H.upd t (paB L E (E0 L E sc4 5 [59]))) (i:=c4) [xc4] (.inr ⟨rfl,rfl⟩) (.inr ⟨rfl,rfl⟩) (B9 hfr htc) (by omega) ?_ (fun j hj=>?_),.mk 1 (A3 L E s).text [] [xc4] [] [] (A3 L E s).pos,(E0 L E sc4 5 [59]),by rw [Pb.St.v_w];rfl,rfl,qc5,fun k=>?_,bc5⟩
   ·rw [A2g];dsimp only
    repeat (first|exact A0|rw [A2 (by omega)]|rw [E9 (by omega)])
   ·simp [Hp.upd,Hp.del,show ¬j=cc by omega,show ¬j=c1 by omega,show ¬j=c1+1 by omega,show ¬j=c4 by omega];try (split<;>rfl)
   ·rw [uc4 (A4q k)]
 have e1:((A3 L E s).kind == 1)=false:=by simpa using hk1
 have hk0:0<=B7 L E s C1:=by
  rcases hbk with hk|hk
  ·exact hk
  ·exact absurd (J2 hk).2 hk1
 obtain ⟨hk2,hlv,hk18⟩:=hs1 hk0;have hlk:=B0m C1 U9 rfl (A3 L E s).text;rw [if_neg (by omega)] at h;generalize B7 L E s C1=k at h hlv hk0 hk18;rw [hlv] at hlk;clear hlv hs1 hs2 hbk;simp only [go_sem,seval,ne0,A0,A1];repeat' ((with_reducible first|refine wr ?_|refine cpc c_stms ?_|refine k_cu ?_ ?_|refine wb2 ?_ ?_<;>(intro hb;try simp only [hb])|fail)<;>try simp only [go_sem,seval,e1,ht,hw1,hlk,ne0,A0,A1])
 and_intros
 all_goals try ((repeat rw [A2 (by omega)]);exact hfr _ (by omega))
 by_cases k0:k=0
 ·rw [if_pos (.inl k0)] at h;cases hz6:F4 L E f (B3 s) with
  | none=>rw [hz6] at h;cases h
  | some qhz6 =>
   obtain ⟨e,m2⟩:=qhz6;rw [hz6] at h;dsimp only at h;cases hz7:I8 L E f (d+1) m2 with
   | none=>rw [hz7] at h;cases h
   | some qhz7 =>
    obtain ⟨tt,m3⟩:=qhz7;rw [hz7] at h;dsimp only at h;have h':(match elsM L E f d m3 with|none=>none|some (o,s4)=>some (Pb.St.mk 2 [] [] [e] tt o (A3 L E s).pos,s4))=some r:=by
     unfold elsM;cases hi:isR L E m3 [101,108,115,101] with
     | true=>rw [if_pos ⟨k0,hi⟩] at h;rw [if_pos rfl];exact h
     | false=>rw [if_neg (by simp [hi])] at h;rw [if_neg (by decide), <- h];subst k0;rfl
    clear h;have h:=h';clear h';cases hz8:elsM L E f d m3 with
    | none=>rw [hz8] at h;cases h
    | some qhz8 =>
     obtain ⟨oo,m4⟩:=qhz8;rw [hz8] at h;dsimp only at h;cases h;have f2:(2+k == 2)=true:=by simp;omega
     have f3:(2+k == 3)=false:=by simp;omega
     have f4:(2+k == 4)=false:=by simp;omega
     have f8:(2+k == 8)=false:=by simp;omega
     have f10:(2+k == 10)=false:=by simp;omega
     have f9:(2+k == 9)=false:=by simp;omega
     have f18:(2+k == 18)=false:=by simp;omega
     have f19:(2+k == 19)=false:=by simp;omega
     repeat' ((with_reducible first|refine wr ?_|refine k_cu ?_ ?_|refine wb2 ?_ ?_<;>(intro hb;try simp only [hb])|fail)<;>try simp only [go_sem,seval,f2,f3,f4,f8,f10,f9,f18,f19,hwd,ne0,A0,A1])
     refine AC.call (c_pexpr L E hL hK f (B3 s) (B3 s) (e,m2) hqn hz6 hPn.i _ _ t (by repeat (first|exact A0|rw [A2 (by omega)]|rw [E9 (by omega)])) (by omega)) ?_;rintro v H' c9 ⟨xc9,sc9,rfl,rfl,qc9,uc9,bc9⟩ hc9;dsimp only at qc9 uc9;have ne0:=R7 t cc c1 (c1+1) c9 (by omega);simp only [go_sem,seval,Ex.v_w,ne0,A0,A1];repeat' ((with_reducible first|refine wr ?_|refine k_cu ?_ ?_|refine wb2 ?_ ?_<;>(intro hb;try simp only [hb])|fail)<;>try simp only [go_sem,seval,hwd,ne0,A0,A1])
     refine AC.call (ib (d+1) sc9 m2 (tt,m3) (by omega) (by omega) qc9 hz7 bc9 _ _ t (by repeat (first|exact A0|rw [A2 (by omega)]|rw [E9 (by omega)])) (by omega)) ?_;rintro v H' c10 ⟨xc10,sc10,rfl,rfl,qc10,uc10,bc10⟩ hc10;dsimp only at qc10 uc10;simp only [go_sem,seval,ne0,A0,A1];repeat' ((with_reducible first|refine wr ?_|refine k_cu ?_ ?_|refine wb2 ?_ ?_<;>(intro hb;try simp only [hb])|fail)<;>try simp only [go_sem,seval,hwd,ne0,A0,A1])
     refine AC.call (io d sc10 m3 (oo,m4) (by omega) (by omega) qc10 hz8 bc10 _ _ t (by repeat (first|exact A0|rw [A2 (by omega)]|rw [E9 (by omega)])) (by omega)) ?_;rintro v H' c11 ⟨xc11,sc11,rfl,rfl,qc11,uc11,bc11⟩ hc11;dsimp only at qc11 uc11;simp only [go_sem,seval,ne0,A0,A1];repeat' ((with_reducible first|refine wr ?_|refine k_cu ?_ ?_|refine wb2 ?_ ?_<;>(intro hb;try simp only [hb])|fail)<;>try simp only [go_sem,seval,hwd,ne0,A0,A1])
     subst k0;rw [C3 (rv7 rfl A0)];refine ⟨_,_,A0x (cc:=cc) (K:=H.upd t (paB L E sc11)) (i:=c9) [xc9] (.inl rfl) (.inl rfl) (B9 hfr htc) (by omega) ?_ (fun j hj=>?_),.mk 2 [] [] [xc9] xc10 xc11 (A3 L E s).pos,sc11,by rw [Pb.St.v_w];rfl,rfl,qc11,fun k=>?_,bc11⟩
     ·rw [A2g];dsimp only
      repeat (first|exact A0|rw [A2 (by omega)]|rw [E9 (by omega)])
     ·simp [Hp.upd,Hp.del,show ¬j=cc by omega,show ¬j=c1 by omega,show ¬j=c1+1 by omega,show ¬j=c9 by omega];try (split<;>rfl)
     ·have k3:=els_m hz8 k;have k2:=blk_m hz7 k3;rw [uc11 k,uc10 k3,uc9 k2]
 by_cases k1:k=1
 ·rw [if_pos (.inr k1)] at h;cases hz12:F4 L E f (B3 s) with
  | none=>rw [hz12] at h;cases h
  | some qhz12 =>
   obtain ⟨e,m2⟩:=qhz12;rw [hz12] at h;dsimp only at h;cases hz13:I8 L E f (d+1) m2 with
   | none=>rw [hz13] at h;cases h
   | some qhz13 =>
    obtain ⟨tt,m3⟩:=qhz13;rw [hz13] at h;dsimp only at h;rw [if_neg (fun h=>k0 h.1)] at h;cases h;have f2:(2+k == 2)=false:=by simp;omega
    have f3:(2+k == 3)=true:=by simp;omega
    have f4:(2+k == 4)=false:=by simp;omega
    have f8:(2+k == 8)=false:=by simp;omega
    have f10:(2+k == 10)=false:=by simp;omega
    have f9:(2+k == 9)=false:=by simp;omega
    have f18:(2+k == 18)=false:=by simp;omega
    have f19:(2+k == 19)=false:=by simp;omega
    repeat' ((with_reducible first|refine wr ?_|refine k_cu ?_ ?_|refine wb2 ?_ ?_<;>(intro hb;try simp only [hb])|fail)<;>try simp only [go_sem,seval,f2,f3,f4,f8,f10,f9,f18,f19,hwd,ne0,A0,A1])
    refine AC.call (c_pexpr L E hL hK f (B3 s) (B3 s) (e,m2) hqn hz12 hPn.i _ _ t (by repeat (first|exact A0|rw [A2 (by omega)]|rw [E9 (by omega)])) (by omega)) ?_;rintro v H' c14 ⟨xc14,sc14,rfl,rfl,qc14,uc14,bc14⟩ hc14;dsimp only at qc14 uc14;have ne0:=R7 t cc c1 (c1+1) c14 (by omega);simp only [go_sem,seval,Ex.v_w,ne0,A0,A1];repeat' ((with_reducible first|refine wr ?_|refine k_cu ?_ ?_|refine wb2 ?_ ?_<;>(intro hb;try simp only [hb])|fail)<;>try simp only [go_sem,seval,hwd,ne0,A0,A1])
    refine AC.call (ib (d+1) sc14 m2 (tt,m3) (by omega) (by omega) qc14 hz13 bc14 _ _ t (by repeat (first|exact A0|rw [A2 (by omega)]|rw [E9 (by omega)])) (by omega)) ?_;rintro v H' c15 ⟨xc15,sc15,rfl,rfl,qc15,uc15,bc15⟩ hc15;dsimp only at qc15 uc15;simp only [go_sem,seval,ne0,A0,A1];repeat' ((with_reducible first|refine wr ?_|refine k_cu ?_ ?_|refine wb2 ?_ ?_<;>(intro hb;try simp only [hb])|fail)<;>try simp only [go_sem,seval,hwd,ne0,A0,A1])
    subst k1;rw [C3 (rv7 rfl A0)];refine ⟨_,_,A0x (cc:=cc) (K:=H.upd t (paB L E sc15)) (i:=c14) [xc14] (.inl rfl) (.inr ⟨rfl,rfl⟩) (B9 hfr htc) (by omega) ?_ (fun j hj=>?_),.mk 3 [] [] [xc14] xc15 [] (A3 L E s).pos,sc15,by rw [Pb.St.v_w];rfl,rfl,qc15,fun k=>?_,bc15⟩
    ·rw [A2g];dsimp only
     repeat (first|exact A0|rw [A2 (by omega)]|rw [E9 (by omega)])
    ·simp [Hp.upd,Hp.del,show ¬j=cc by omega,show ¬j=c1 by omega,show ¬j=c1+1 by omega,show ¬j=c14 by omega];try (split<;>rfl)
    ·have k2:=blk_m hz13 k;rw [uc15 k,uc14 k2];rfl
 rw [if_neg (by omega)] at h;unfold X4 at h;by_cases k4:2+k=4
 ·rw [if_pos k4] at h;cases hz16:F4 L E f (B3 s) with
  | none=>rw [hz16] at h;cases h
  | some qhz16 =>
   obtain ⟨e,m2⟩:=qhz16;rw [hz16] at h;dsimp only at h;cases h;have f2:(2+k == 2)=false:=by simp;omega
   have f3:(2+k == 3)=false:=by simp;omega
   have f4:(2+k == 4)=true:=by simp;omega
   have f8:(2+k == 8)=false:=by simp;omega
   have f10:(2+k == 10)=false:=by simp;omega
   have f9:(2+k == 9)=false:=by simp;omega
   have f18:(2+k == 18)=false:=by simp;omega
   have f19:(2+k == 19)=false:=by simp;omega
   repeat' ((with_reducible first|refine wr ?_|refine k_cu ?_ ?_|refine wb2 ?_ ?_<;>(intro hb;try simp only [hb])|fail)<;>try simp only [go_sem,seval,f2,f3,f4,f8,f10,f9,f18,f19,ne0,A0,A1])
   refine AC.call (c_pexpr L E hL hK f (B3 s) (B3 s) (e,m2) hqn hz16 hPn.i _ _ t (by repeat (first|exact A0|rw [A2 (by omega)]|rw [E9 (by omega)])) (by omega)) ?_;rintro v H' c17 ⟨xc17,sc17,rfl,rfl,qc17,uc17,bc17⟩ hc17;dsimp only at qc17 uc17;have ne0:=R7 t cc c1 (c1+1) c17 (by omega);simp only [go_sem,seval,Ex.v_w,ne0,A0,A1];repeat' ((with_reducible first|refine wr ?_|refine k_cu ?_ ?_|refine wb2 ?_ ?_<;>(intro hb;try simp only [hb])|fail)<;>try simp only [go_sem,seval,ne0,A0,A1])
   refine AC.call (c_want L E sc17 _ _ t (by repeat (first|exact A0|rw [A2 (by omega)]|rw [E9 (by omega)])) (by omega) (by have:=bc17.i;omega) 5 [59]) ?_;rintro v H' c18 ⟨rfl,rfl⟩ hc18;have qc18:=qc17.want (L:=L) (E:=E) (k:=5) (w:=[59]) (fun s=>E8 hK (by decide +kernel));have bc18:=(bc17.want (E:=E) (k:=5) (w:=[59]) (by decide)).1;simp only [go_sem,seval,ne0,A0,A1];repeat' ((with_reducible first|refine wr ?_|refine k_cu ?_ ?_|refine wb2 ?_ ?_<;>(intro hb;try simp only [hb])|fail)<;>try simp only [go_sem,seval,ne0,A0,A1])
   rw [C3 (rv7 rfl A0)];refine ⟨_,_,A0x (cc:=cc) (K:=H.upd t (paB L E (E0 L E sc17 5 [59]))) (i:=c17) [xc17] (.inr ⟨rfl,rfl⟩) (.inr ⟨rfl,rfl⟩) (B9 hfr htc) (by omega) ?_ (fun j hj=>?_),.mk (2+k) [] [] [xc17] [] [] (A3 L E s).pos,(E0 L E sc17 5 [59]),by rw [Pb.St.v_w];rfl,rfl,qc18,fun k=>?_,bc18⟩
   ·rw [A2g];dsimp only
    repeat (first|exact A0|rw [A2 (by omega)]|rw [E9 (by omega)])
   ·simp [Hp.upd,Hp.del,show ¬j=cc by omega,show ¬j=c1 by omega,show ¬j=c1+1 by omega,show ¬j=c17 by omega];try (split<;>rfl)
   ·rw [uc17 (A4q k)]
 rw [if_neg k4] at h;by_cases k18:2+k=18
 ·rw [if_pos k18] at h;cases hz19:F4 L E f (C7 L E (A9 L E (B3 s) 4).2 [44]) with
  | none=>rw [hz19] at h;cases h
  | some qhz19 =>
   obtain ⟨e,m2⟩:=qhz19;rw [hz19] at h;dsimp only at h;cases h;have f2:(2+k == 2)=false:=by simp;omega
   have f3:(2+k == 3)=false:=by simp;omega
   have f4:(2+k == 4)=false:=by simp;omega
   have f8:(2+k == 8)=false:=by simp;omega
   have f10:(2+k == 10)=false:=by simp;omega
   have f9:(2+k == 9)=false:=by simp;omega
   have f18:(2+k == 18)=true:=by simp;omega
   have f19:(2+k == 19)=false:=by simp;omega
   repeat' ((with_reducible first|refine wr ?_|refine k_cu ?_ ?_|refine wb2 ?_ ?_<;>(intro hb;try simp only [hb])|fail)<;>try simp only [go_sem,seval,f2,f3,f4,f8,f10,f9,f18,f19,ne0,A0,A1])
   refine AC.call (c_ptake L E (B3 s) _ _ t (by repeat (first|exact A0|rw [A2 (by omega)]|rw [E9 (by omega)])) (by omega) (by have:=hPn.i;omega) 4) ?_;rintro v H' c20 ⟨rfl,rfl⟩ hc20;obtain ⟨qc20,vc20⟩:=hqn.take (L:=L) (E:=E) (k:=4);have bc20:=(hPn.take (E:=E) (x:=4) (by decide)).1;simp only [go_sem,seval,ne0,A0,A1];repeat' ((with_reducible first|refine wr ?_|refine k_cu ?_ ?_|refine wb2 ?_ ?_<;>(intro hb;try simp only [hb])|fail)<;>try simp only [go_sem,seval,ne0,A0,A1])
   refine AC.call (c_want L E (A9 L E (B3 s) 4).2 _ _ t (by repeat (first|exact A0|rw [A2 (by omega)]|rw [E9 (by omega)])) (by omega) (by have:=bc20.i;omega) 5 [44]) ?_;rintro v H' c21 ⟨rfl,rfl⟩ hc21;have qc21:=qc20.want (L:=L) (E:=E) (k:=5) (w:=[44]) (fun s=>E8 hK (by decide +kernel));have bc21:=(bc20.want (E:=E) (k:=5) (w:=[44]) (by decide)).1;simp only [go_sem,seval,ne0,A0,A1];repeat' ((with_reducible first|refine wr ?_|refine k_cu ?_ ?_|refine wb2 ?_ ?_<;>(intro hb;try simp only [hb])|fail)<;>try simp only [go_sem,seval,ne0,A0,A1])
   refine AC.call (c_pexpr L E hL hK f (E0 L E (A9 L E (B3 s) 4).2 5 [44]) (C7 L E (A9 L E (B3 s) 4).2 [44]) (e,m2) qc21 hz19 bc21.i _ _ t (by repeat (first|exact A0|rw [A2 (by omega)]|rw [E9 (by omega)])) (by omega)) ?_;rintro v H' c22 ⟨xc22,sc22,rfl,rfl,qc22,uc22,bc22⟩ hc22;dsimp only at qc22 uc22;have ne0:=R7 t cc c1 (c1+1) c22 (by omega);simp only [go_sem,seval,Ex.v_w,ne0,A0,A1];repeat' ((with_reducible first|refine wr ?_|refine k_cu ?_ ?_|refine wb2 ?_ ?_<;>(intro hb;try simp only [hb])|fail)<;>try simp only [go_sem,seval,ne0,A0,A1])
   refine AC.call (c_want L E sc22 _ _ t (by repeat (first|exact A0|rw [A2 (by omega)]|rw [E9 (by omega)])) (by omega) (by have:=bc22.i;omega) 5 [59]) ?_;rintro v H' c23 ⟨rfl,rfl⟩ hc23;have qc23:=qc22.want (L:=L) (E:=E) (k:=5) (w:=[59]) (fun s=>E8 hK (by decide +kernel));have bc23:=(bc22.want (E:=E) (k:=5) (w:=[59]) (by decide)).1;simp only [go_sem,seval,ne0,A0,A1];repeat' ((with_reducible first|refine wr ?_|refine k_cu ?_ ?_|refine wb2 ?_ ?_<;>(intro hb;try simp only [hb])|fail)<;>try simp only [go_sem,seval,ne0,A0,A1])
   rw [C3 (rv7 rfl A0)];refine ⟨_,_,A0x (cc:=cc) (K:=H.upd t (paB L E (E0 L E sc22 5 [59]))) (i:=c22) [xc22] (.inr ⟨rfl,rfl⟩) (.inr ⟨rfl,rfl⟩) (B9 hfr htc) (by omega) ?_ (fun j hj=>?_),.mk (2+k) [] (A9 L E (B3 s) 4).1.text [xc22] [] [] (A3 L E s).pos,(E0 L E sc22 5 [59]),by rw [Pb.St.v_w];rfl,rfl,qc23,fun k=>?_,bc23⟩
   ·rw [A2g];dsimp only
    repeat (first|exact A0|rw [A2 (by omega)]|rw [E9 (by omega)])
   ·simp [Hp.upd,Hp.del,show ¬j=cc by omega,show ¬j=c1 by omega,show ¬j=c1+1 by omega,show ¬j=c22 by omega];try (split<;>rfl)
   ·rw [uc22 (A4q k)]
 rw [if_neg k18] at h;by_cases k19:2+k=19
 ·rw [if_pos k19] at h;cases h;have f2:(2+k == 2)=false:=by simp;omega
  have f3:(2+k == 3)=false:=by simp;omega
  have f4:(2+k == 4)=false:=by simp;omega
  have f8:(2+k == 8)=false:=by simp;omega
  have f10:(2+k == 10)=false:=by simp;omega
  have f9:(2+k == 9)=false:=by simp;omega
  have f18:(2+k == 18)=false:=by simp;omega
  have f19:(2+k == 19)=true:=by simp;omega
  repeat' ((with_reducible first|refine wr ?_|refine k_cu ?_ ?_|refine wb2 ?_ ?_<;>(intro hb;try simp only [hb])|fail)<;>try simp only [go_sem,seval,f2,f3,f4,f8,f10,f9,f18,f19,ne0,A0,A1])
  refine AC.call (c_want L E (B3 s) _ _ t (by repeat (first|exact A0|rw [A2 (by omega)]|rw [E9 (by omega)])) (by omega) (by have:=hPn.i;omega) 5 [59]) ?_;rintro v H' c24 ⟨rfl,rfl⟩ hc24;have qc24:=hqn.want (L:=L) (E:=E) (k:=5) (w:=[59]) (fun s=>E8 hK (by decide +kernel));have bc24:=(hPn.want (E:=E) (k:=5) (w:=[59]) (by decide)).1;simp only [go_sem,seval,ne0,A0,A1];repeat' ((with_reducible first|refine wr ?_|refine k_cu ?_ ?_|refine wb2 ?_ ?_<;>(intro hb;try simp only [hb])|fail)<;>try simp only [go_sem,seval,ne0,A0,A1])
  rw [C3 (rv7 rfl A0)];refine ⟨_,_,gl_st (cc:=cc) (K:=H.upd t (paB L E (E0 L E (B3 s) 5 [59]))) (.inr ⟨rfl,rfl⟩) (.inr ⟨rfl,rfl⟩) (.inr ⟨rfl,rfl⟩) (B9 hfr htc) (fun j hj=>?_),.mk (2+k) [] [] [] [] [] (A3 L E s).pos,(E0 L E (B3 s) 5 [59]),by rw [Pb.St.v_w];rfl,rfl,qc24,fun k=>?_,bc24⟩
  ·simp [Hp.upd,Hp.del,show ¬j=cc by omega,show ¬j=c1 by omega,show ¬j=c1+1 by omega];try (split<;>rfl)
  ·rfl
 rw [if_neg k19] at h;dsimp only at h;by_cases k8:2+k=8
 ·rw [if_pos (by omega)] at h;cases hz25:F4 L E f (A9 L E (B3 s) 1).2 with
  | none=>rw [hz25] at h;cases h
  | some qhz25 =>
   obtain ⟨e,m2⟩:=qhz25;rw [hz25] at h;dsimp only at h;rw [if_neg (by omega)] at h;cases h;have f2:(2+k == 2)=false:=by simp;omega
   have f3:(2+k == 3)=false:=by simp;omega
   have f4:(2+k == 4)=false:=by simp;omega
   have f8:(2+k == 8)=true:=by simp;omega
   have f10:(2+k == 10)=false:=by simp;omega
   have f9:(2+k == 9)=false:=by simp;omega
   have f18:(2+k == 18)=false:=by simp;omega
   have f19:(2+k == 19)=false:=by simp;omega
   repeat' ((with_reducible first|refine wr ?_|refine k_cu ?_ ?_|refine wb2 ?_ ?_<;>(intro hb;try simp only [hb])|fail)<;>try simp only [go_sem,seval,f2,f3,f4,f8,f10,f9,f18,f19,ne0,A0,A1])
   refine AC.call (c_ptake L E (B3 s) _ _ t (by repeat (first|exact A0|rw [A2 (by omega)]|rw [E9 (by omega)])) (by omega) (by have:=hPn.i;omega) 1) ?_;rintro v H' c26 ⟨rfl,rfl⟩ hc26;obtain ⟨qc26,vc26⟩:=hqn.take (L:=L) (E:=E) (k:=1);have bc26:=(hPn.take (E:=E) (x:=1) (by decide)).1;simp only [go_sem,seval,ne0,A0,A1];repeat' ((with_reducible first|refine wr ?_|refine k_cu ?_ ?_|refine wb2 ?_ ?_<;>(intro hb;try simp only [hb])|fail)<;>try simp only [go_sem,seval,ne0,A0,A1])
   refine AC.call (c_pexpr L E hL hK f (A9 L E (B3 s) 1).2 (A9 L E (B3 s) 1).2 (e,m2) qc26 hz25 bc26.i _ _ t (by repeat (first|exact A0|rw [A2 (by omega)]|rw [E9 (by omega)])) (by omega)) ?_;rintro v H' c27 ⟨xc27,sc27,rfl,rfl,qc27,uc27,bc27⟩ hc27;dsimp only at qc27 uc27;have ne0:=R7 t cc c1 (c1+1) c27 (by omega);simp only [go_sem,seval,Ex.v_w,ne0,A0,A1];repeat' ((with_reducible first|refine wr ?_|refine k_cu ?_ ?_|refine wb2 ?_ ?_<;>(intro hb;try simp only [hb])|fail)<;>try simp only [go_sem,seval,ne0,A0,A1])
   refine AC.call (c_want L E sc27 _ _ t (by repeat (first|exact A0|rw [A2 (by omega)]|rw [E9 (by omega)])) (by omega) (by have:=bc27.i;omega) 5 [59]) ?_;rintro v H' c28 ⟨rfl,rfl⟩ hc28;have qc28:=qc27.want (L:=L) (E:=E) (k:=5) (w:=[59]) (fun s=>E8 hK (by decide +kernel));have bc28:=(bc27.want (E:=E) (k:=5) (w:=[59]) (by decide)).1;simp only [go_sem,seval,ne0,A0,A1];repeat' ((with_reducible first|refine wr ?_|refine k_cu ?_ ?_|refine wb2 ?_ ?_<;>(intro hb;try simp only [hb])|fail)<;>try simp only [go_sem,seval,ne0,A0,A1])
   rw [C3 (rv7 rfl A0)];refine ⟨_,_,A0x (cc:=cc) (K:=H.upd t (paB L E (E0 L E sc27 5 [59]))) (i:=c27) [xc27] (.inr ⟨rfl,rfl⟩) (.inr ⟨rfl,rfl⟩) (B9 hfr htc) (by omega) ?_ (fun j hj=>?_),.mk (2+k) (A9 L E (B3 s) 1).1.text [] [xc27] [] [] (A3 L E s).pos,(E0 L E sc27 5 [59]),by rw [Pb.St.v_w];rfl,rfl,qc28,fun k=>?_,bc28⟩
   ·rw [A2g];dsimp only
    repeat (first|exact A0|rw [A2 (by omega)]|rw [E9 (by omega)])
   ·simp [Hp.upd,Hp.del,show ¬j=cc by omega,show ¬j=c1 by omega,show ¬j=c1+1 by omega,show ¬j=c27 by omega];try (split<;>rfl)
   ·rw [uc27 (A4q k)]
 by_cases k10:2+k=10
 ·rw [if_pos (by omega)] at h;cases hz29:F4 L E f (A9 L E (B3 s) 1).2 with
  | none=>rw [hz29] at h;cases h
  | some qhz29 =>
   obtain ⟨e,m2⟩:=qhz29;rw [hz29] at h;dsimp only at h;rw [if_neg (by omega)] at h;cases h;have f2:(2+k == 2)=false:=by simp;omega
   have f3:(2+k == 3)=false:=by simp;omega
   have f4:(2+k == 4)=false:=by simp;omega
   have f8:(2+k == 8)=false:=by simp;omega
   have f10:(2+k == 10)=true:=by simp;omega
   have f9:(2+k == 9)=false:=by simp;omega
   have f18:(2+k == 18)=false:=by simp;omega
   have f19:(2+k == 19)=false:=by simp;omega
   repeat' ((with_reducible first|refine wr ?_|refine k_cu ?_ ?_|refine wb2 ?_ ?_<;>(intro hb;try simp only [hb])|fail)<;>try simp only [go_sem,seval,f2,f3,f4,f8,f10,f9,f18,f19,ne0,A0,A1])
   refine AC.call (c_ptake L E (B3 s) _ _ t (by repeat (first|exact A0|rw [A2 (by omega)]|rw [E9 (by omega)])) (by omega) (by have:=hPn.i;omega) 1) ?_;rintro v H' c30 ⟨rfl,rfl⟩ hc30;obtain ⟨qc30,vc30⟩:=hqn.take (L:=L) (E:=E) (k:=1);have bc30:=(hPn.take (E:=E) (x:=1) (by decide)).1;simp only [go_sem,seval,ne0,A0,A1];repeat' ((with_reducible first|refine wr ?_|refine k_cu ?_ ?_|refine wb2 ?_ ?_<;>(intro hb;try simp only [hb])|fail)<;>try simp only [go_sem,seval,ne0,A0,A1])
   refine AC.call (c_pexpr L E hL hK f (A9 L E (B3 s) 1).2 (A9 L E (B3 s) 1).2 (e,m2) qc30 hz29 bc30.i _ _ t (by repeat (first|exact A0|rw [A2 (by omega)]|rw [E9 (by omega)])) (by omega)) ?_;rintro v H' c31 ⟨xc31,sc31,rfl,rfl,qc31,uc31,bc31⟩ hc31;dsimp only at qc31 uc31;have ne0:=R7 t cc c1 (c1+1) c31 (by omega);simp only [go_sem,seval,Ex.v_w,ne0,A0,A1];repeat' ((with_reducible first|refine wr ?_|refine k_cu ?_ ?_|refine wb2 ?_ ?_<;>(intro hb;try simp only [hb])|fail)<;>try simp only [go_sem,seval,ne0,A0,A1])
   refine AC.call (c_want L E sc31 _ _ t (by repeat (first|exact A0|rw [A2 (by omega)]|rw [E9 (by omega)])) (by omega) (by have:=bc31.i;omega) 5 [59]) ?_;rintro v H' c32 ⟨rfl,rfl⟩ hc32;have qc32:=qc31.want (L:=L) (E:=E) (k:=5) (w:=[59]) (fun s=>E8 hK (by decide +kernel));have bc32:=(bc31.want (E:=E) (k:=5) (w:=[59]) (by decide)).1;simp only [go_sem,seval,ne0,A0,A1];repeat' ((with_reducible first|refine wr ?_|refine k_cu ?_ ?_|refine wb2 ?_ ?_<;>(intro hb;try simp only [hb])|fail)<;>try simp only [go_sem,seval,ne0,A0,A1])
   rw [C3 (rv7 rfl A0)];refine ⟨_,_,A0x (cc:=cc) (K:=H.upd t (paB L E (E0 L E sc31 5 [59]))) (i:=c31) [xc31] (.inr ⟨rfl,rfl⟩) (.inr ⟨rfl,rfl⟩) (B9 hfr htc) (by omega) ?_ (fun j hj=>?_),.mk (2+k) (A9 L E (B3 s) 1).1.text [] [xc31] [] [] (A3 L E s).pos,(E0 L E sc31 5 [59]),by rw [Pb.St.v_w];rfl,rfl,qc32,fun k=>?_,bc32⟩
   ·rw [A2g];dsimp only
    repeat (first|exact A0|rw [A2 (by omega)]|rw [E9 (by omega)])
   ·simp [Hp.upd,Hp.del,show ¬j=cc by omega,show ¬j=c1 by omega,show ¬j=c1+1 by omega,show ¬j=c31 by omega];try (split<;>rfl)
   ·rw [uc31 (A4q k)]
 by_cases k9:2+k=9
 ·rw [if_pos (by omega)] at h;cases hz33:F4 L E f (A9 L E (B3 s) 1).2 with
  | none=>rw [hz33] at h;cases h
  | some qhz33 =>
   obtain ⟨e,m2⟩:=qhz33;rw [hz33] at h;dsimp only at h;rw [if_pos k9] at h;cases hz34:F4 L E f (C7 L E m2 [44]) with
   | none=>rw [hz34] at h;cases h
   | some qhz34 =>
    obtain ⟨e2,m3⟩:=qhz34;rw [hz34] at h;dsimp only at h;cases h;have f2:(2+k == 2)=false:=by simp;omega
    have f3:(2+k == 3)=false:=by simp;omega
    have f4:(2+k == 4)=false:=by simp;omega
    have f8:(2+k == 8)=false:=by simp;omega
    have f10:(2+k == 10)=false:=by simp;omega
    have f9:(2+k == 9)=true:=by simp;omega
    have f18:(2+k == 18)=false:=by simp;omega
    have f19:(2+k == 19)=false:=by simp;omega
    repeat' ((with_reducible first|refine wr ?_|refine k_cu ?_ ?_|refine wb2 ?_ ?_<;>(intro hb;try simp only [hb])|fail)<;>try simp only [go_sem,seval,f2,f3,f4,f8,f10,f9,f18,f19,ne0,A0,A1])
    refine AC.call (c_ptake L E (B3 s) _ _ t (by repeat (first|exact A0|rw [A2 (by omega)]|rw [E9 (by omega)])) (by omega) (by have:=hPn.i;omega) 1) ?_;rintro v H' c35 ⟨rfl,rfl⟩ hc35;obtain ⟨qc35,vc35⟩:=hqn.take (L:=L) (E:=E) (k:=1);have bc35:=(hPn.take (E:=E) (x:=1) (by decide)).1;simp only [go_sem,seval,ne0,A0,A1];repeat' ((with_reducible first|refine wr ?_|refine k_cu ?_ ?_|refine wb2 ?_ ?_<;>(intro hb;try simp only [hb])|fail)<;>try simp only [go_sem,seval,ne0,A0,A1])
    refine AC.call (c_pexpr L E hL hK f (A9 L E (B3 s) 1).2 (A9 L E (B3 s) 1).2 (e,m2) qc35 hz33 bc35.i _ _ t (by repeat (first|exact A0|rw [A2 (by omega)]|rw [E9 (by omega)])) (by omega)) ?_;rintro v H' c36 ⟨xc36,sc36,rfl,rfl,qc36,uc36,bc36⟩ hc36;dsimp only at qc36 uc36;have ne0:=R7 t cc c1 (c1+1) c36 (by omega);simp only [go_sem,seval,Ex.v_w,ne0,A0,A1];repeat' ((with_reducible first|refine wr ?_|refine k_cu ?_ ?_|refine wb2 ?_ ?_<;>(intro hb;try simp only [hb])|fail)<;>try simp only [go_sem,seval,ne0,A0,A1])
    refine AC.call (c_want L E sc36 _ _ t (by repeat (first|exact A0|rw [A2 (by omega)]|rw [E9 (by omega)])) (by omega) (by have:=bc36.i;omega) 5 [44]) ?_;rintro v H' c37 ⟨rfl,rfl⟩ hc37;have qc37:=qc36.want (L:=L) (E:=E) (k:=5) (w:=[44]) (fun s=>E8 hK (by decide +kernel));have bc37:=(bc36.want (E:=E) (k:=5) (w:=[44]) (by decide)).1;simp only [go_sem,seval,ne0,A0,A1];repeat' ((with_reducible first|refine wr ?_|refine k_cu ?_ ?_|refine wb2 ?_ ?_<;>(intro hb;try simp only [hb])|fail)<;>try simp only [go_sem,seval,ne0,A0,A1])
    refine AC.call (c_pexpr L E hL hK f (E0 L E sc36 5 [44]) (C7 L E m2 [44]) (e2,m3) qc37 hz34 bc37.i _ _ t (by repeat (first|exact A0|rw [A2 (by omega)]|rw [E9 (by omega)])) (by omega)) ?_;rintro v H' c38 ⟨xc38,sc38,rfl,rfl,qc38,uc38,bc38⟩ hc38;dsimp only at qc38 uc38;have ne0:=nes6 t cc c1 (c1+1) c36 (c37+4) (by omega);simp only [go_sem,seval,Ex.v_w,ne0,A0,A1];repeat' ((with_reducible first|refine wr ?_|refine k_cu ?_ ?_|refine wb2 ?_ ?_<;>(intro hb;try simp only [hb])|fail)<;>try simp only [go_sem,seval,ne0,A0,A1])
    refine ⟨?_,?_⟩
    ·and_intros
     all_goals ((repeat rw [A2 (by omega)]);exact hfr _ (by omega))
    have ne0:=nes7 t cc c1 (c1+1) c36 (c37+4) c38 (by omega);try simp only [go_sem,seval,Q1,E9,A1p,ne0,A0,A1]
    repeat' ((with_reducible first|refine wr ?_|refine k_cu ?_ ?_|refine wb2 ?_ ?_<;>(intro hb;try simp only [hb])|fail)<;>try simp only [go_sem,seval,Q1,E9,A1p,ne0,A0,A1])
    refine N8 (E4 (by rfl) (by omega) (by omega)) ?_;try simp only [go_sem,seval,E9,A1p,ne0,A0,A1]
    repeat' ((with_reducible first|refine wr ?_|refine k_cu ?_ ?_|refine wb2 ?_ ?_<;>(intro hb;try simp only [hb])|fail)<;>try simp only [go_sem,seval,E9,A1p,ne0,A0,A1])
    refine AC.call (c_want L E sc38 _ _ t (by repeat (first|exact A0|rw [A2 (by omega)]|rw [E9 (by omega)])) (by omega) (by have:=bc38.i;omega) 5 [59]) ?_;rintro v H' c39 ⟨rfl,rfl⟩ hc39;have qc39:=qc38.want (L:=L) (E:=E) (k:=5) (w:=[59]) (fun s=>E8 hK (by decide +kernel));have bc39:=(bc38.want (E:=E) (k:=5) (w:=[59]) (by decide)).1;simp only [go_sem,seval,ne0,A0,A1];repeat' ((with_reducible first|refine wr ?_|refine k_cu ?_ ?_|refine wb2 ?_ ?_<;>(intro hb;try simp only [hb])|fail)<;>try simp only [go_sem,seval,ne0,A0,A1])
    rw [C3 (rv7 rfl A0)];refine ⟨_,_,A0x (cc:=cc) (K:=H.upd t (paB L E (E0 L E sc38 5 [59]))) (i:=c38) [xc36,xc38] (.inr ⟨rfl,rfl⟩) (.inr ⟨rfl,rfl⟩) (B9 hfr htc) (by omega) ?_ (fun j hj=>?_),.mk (2+k) (A9 L E (B3 s) 1).1.text [] [xc36,xc38] [] [] (A3 L E s).pos,(E0 L E sc38 5 [59]),by rw [Pb.St.v_w];rfl,rfl,qc39,fun k=>?_,bc39⟩
    ·rw [ex_c2];dsimp only
     repeat (first|exact A0|rw [A2 (by omega)]|rw [E9 (by omega)])
    ·simp [Hp.upd,Hp.del,show ¬j=cc by omega,show ¬j=c1 by omega,show ¬j=c1+1 by omega,show ¬j=c36 by omega,show ¬j=c37+4 by omega,show ¬j=c38 by omega];try (split<;>rfl)
    ·have k2:=A4q k;have k3:=A4q (expn_m hz34 k2);rw [uc38 k2,uc36 k3]
 rw [if_neg (by omega)] at h;cases h;have f2:(2+k == 2)=false:=by simp;omega
 have f3:(2+k == 3)=false:=by simp;omega
 have f4:(2+k == 4)=false:=by simp;omega
 have f8:(2+k == 8)=false:=by simp;omega
 have f10:(2+k == 10)=false:=by simp;omega
 have f9:(2+k == 9)=false:=by simp;omega
 have f18:(2+k == 18)=false:=by simp;omega
 have f19:(2+k == 19)=false:=by simp;omega
 repeat' ((with_reducible first|refine wr ?_|refine k_cu ?_ ?_|refine wb2 ?_ ?_<;>(intro hb;try simp only [hb])|fail)<;>try simp only [go_sem,seval,f2,f3,f4,f8,f10,f9,f18,f19,ne0,A0,A1])
 refine AC.call (c_ptake L E (B3 s) _ _ t (by repeat (first|exact A0|rw [A2 (by omega)]|rw [E9 (by omega)])) (by omega) (by have:=hPn.i;omega) 1) ?_;rintro v H' c40 ⟨rfl,rfl⟩ hc40;obtain ⟨qc40,vc40⟩:=hqn.take (L:=L) (E:=E) (k:=1);have bc40:=(hPn.take (E:=E) (x:=1) (by decide)).1;simp only [go_sem,seval,ne0,A0,A1];repeat' ((with_reducible first|refine wr ?_|refine k_cu ?_ ?_|refine wb2 ?_ ?_<;>(intro hb;try simp only [hb])|fail)<;>try simp only [go_sem,seval,ne0,A0,A1])
 refine AC.call (c_want L E (A9 L E (B3 s) 1).2 _ _ t (by repeat (first|exact A0|rw [A2 (by omega)]|rw [E9 (by omega)])) (by omega) (by have:=bc40.i;omega) 5 [59]) ?_;rintro v H' c41 ⟨rfl,rfl⟩ hc41;have qc41:=qc40.want (L:=L) (E:=E) (k:=5) (w:=[59]) (fun s=>E8 hK (by decide +kernel));have bc41:=(bc40.want (E:=E) (k:=5) (w:=[59]) (by decide)).1;simp only [go_sem,seval,ne0,A0,A1];repeat' ((with_reducible first|refine wr ?_|refine k_cu ?_ ?_|refine wb2 ?_ ?_<;>(intro hb;try simp only [hb])|fail)<;>try simp only [go_sem,seval,ne0,A0,A1])
 rw [C3 (rv7 rfl A0)];refine ⟨_,_,gl_st (cc:=cc) (K:=H.upd t (paB L E (E0 L E (A9 L E (B3 s) 1).2 5 [59]))) (.inr ⟨rfl,rfl⟩) (.inr ⟨rfl,rfl⟩) (.inr ⟨rfl,rfl⟩) (B9 hfr htc) (fun j hj=>?_),.mk (2+k) (A9 L E (B3 s) 1).1.text [] [] [] [] (A3 L E s).pos,(E0 L E (A9 L E (B3 s) 1).2 5 [59]),by rw [Pb.St.v_w];rfl,rfl,qc41,fun k=>?_,bc41⟩
 ·simp [Hp.upd,Hp.del,show ¬j=cc by omega,show ¬j=c1 by omega,show ¬j=c1+1 by omega];try (split<;>rfl)
 ·rfl
theorem c_pother (L:List Tok) (E:Int) (hL:L.length<=1000000000) (hK:∀ t∈L,G4 t) (f:Nat)
  (ib:∀ g,g<f->∀ d s m r,0<=d->d<=9->Eqv s m->I8 L E g d m=some r->PI L s->PlC L E 198 [I64 d] s r)
  (is:∀ g,g<f->∀ d s r,0<=d->d<=8->A7q L E s=true->O8 L E g d s=some r->PI L s->PsC L E 211 [I64 d] s r)
  (d:Int) (s m:Rd) (r:List Pb.St × Rd) (hd0:0<=d) (hd:d<=8) (hq:Eqv s m) (h:elsM L E f d m=some r) (hP:PI L s):PlC L E 222 [I64 (d+1)] s r:=by
 intro H cc t ht htc;have hri:=hP.i;refine AC.bodyT A6 rfl (Nat.le_of_ble_eq_true rfl) fun hfr=>?_;have hio:=c_pisO L E s H (cc+1) t cc (hfr _ (Nat.le_refl _)) ht (by omega) 2 [[101,108,115,101]] (by simp);unfold elsM at h;rw [R1 hK (by decide +kernel), <- hq.isP] at h;repeat' ((with_reducible first|refine wr ?_|refine k_cu ?_ ?_|refine wb2 ?_ ?_<;>(intro hb;try simp only [hb])|fail)<;>try simp only [go_sem,seval])
 refine AC.call hio ?_;rintro v H c1 ⟨rfl,rfl⟩ hc1;cases he:isP L E s 2 [[101,108,115,101]] with
 | false =>
  rw [he,if_neg (by decide)] at h;cases h;simp only [go_sem,seval,he];repeat' ((with_reducible first|refine wr ?_|refine k_cu ?_ ?_|refine wb2 ?_ ?_<;>(intro hb;try simp only [hb])|fail)<;>try simp only [go_sem,seval,he])
  exact ⟨_,_,GL.view fun ρ vs hA=>K6 (fun v h=>h.snil_lst) vs hA,[],s,rfl,(upd_same ht).symm,hq,fun _=>rfl,hP⟩
 | true =>
  obtain ⟨ho,hlt, -⟩:=P3 (by decide) he;obtain rfl:s=m:=hq.s (by rw [<- hq.ok,ho]);rw [he,if_pos rfl] at h;have hP1:=hP.nxt hlt;have hw1:IntKind.i64.wrap ((s.i:Int)+1)=((s.i+1:Nat):Int):=by rw [w64 (by omega) (by omega)];omega
  have hio2:=c_pisO L E (B3 s) (H.upd t (paB L E (B3 s))) (c1+1) t c1 (by rw [A2 (by omega)];exact hfr _ (by omega)) A0 (by omega) 2 [[105,102]] (by simp);cases f with
  | zero=>simp [A0h] at h
  | succ f =>
  unfold A0h at h;rw [R1 hK (by decide +kernel)] at h;simp only [go_sem,seval,he];repeat' ((with_reducible first|refine wr ?_|refine k_cu ?_ ?_|refine wb2 ?_ ?_<;>(intro hb;try simp only [hb])|fail)<;>try simp only [go_sem,seval,he,ht,hw1,A0,A1])
  refine AC.call hio2 ?_;rintro v H' c2 ⟨rfl,rfl⟩ hc2;cases hf:isP L E (B3 s) 2 [[105,102]] with
  | false =>
   rw [hf,if_neg (by decide)] at h;simp only [go_sem,seval,hf];repeat' ((with_reducible first|refine wr ?_|refine k_cu ?_ ?_|refine wb2 ?_ ?_<;>(intro hb;try simp only [hb])|fail)<;>try simp only [go_sem,seval,hf])
   refine AC.call (ib f (by omega) (d+1) _ _ r (by omega) (by omega) (.refl _) h hP1 _ _ t A0 (by omega)) ?_;rintro v H' c3 ⟨x,s3,rfl,rfl,q1,q2,q3⟩ hc3;simp only [go_sem,seval,A1];repeat' ((with_reducible first|refine wr ?_|refine k_cu ?_ ?_|refine wb2 ?_ ?_<;>(intro hb;try simp only [hb])|fail)<;>try simp only [go_sem,seval,A1])
   exact ⟨_,_,GL.refl _ _,x,s3,rfl,rfl,q1,q2,q3⟩
  | true =>
   rw [hf,if_pos rfl] at h;cases hs:O8 L E f (d+1) (B3 s) with
   | none=>rw [hs] at h;cases h
   | some q =>
   obtain ⟨x0,m3⟩:=q;rw [hs] at h;cases h;by_cases h8:d+1>8
   ·have hd8:decide (d+1>8)=true:=by simpa using h8
    have hm3:okR m3=false/\Eqv (pfl L E (B3 s) 50) m3:=by
     cases f with
     | zero=>simp [O8] at hs
     | succ f =>
      unfold O8 at hs;dsimp only at hs;have hl:C0 L E (B3 s) (d+1) 8 50=pfl L E (B3 s) 50:=by rw [S7,if_pos h8]
      have hnk:okR (pfl L E (B3 s) 50)=false:=by unfold pfl;exact M8 (by decide)
      rw [hl,if_pos hnk] at hs;cases hs;exact ⟨hnk,.refl _⟩
    simp only [go_sem,seval,hf];repeat' ((with_reducible first|refine wr ?_|refine k_cu ?_ ?_|refine wb2 ?_ ?_<;>(intro hb;try simp only [hb])|fail)<;>try simp only [go_sem,seval,hf,hd8])
    refine AC.call (c_pfail L E (B3 s) _ _ t A0 (by omega) 50) ?_;rintro v H' c3 ⟨rfl,rfl⟩ hc3;simp only [go_sem,seval,A1];repeat' ((with_reducible first|refine wr ?_|refine k_cu ?_ ?_|refine wb2 ?_ ?_<;>(intro hb;try simp only [hb])|fail)<;>try simp only [go_sem,seval,A1])
    exact ⟨_,_,GL.view fun ρ vs hA=>K6 (fun v h=>h.snil_lst) vs hA,[],_,rfl,rfl,hm3.2,fun k=>(by simp [hm3.1] at k),hP1.fl⟩
   ·have hd8:decide (d+1>8)=false:=by simpa using h8
    have hbg:A7q L E (B3 s)=true:=by
     obtain ⟨g1,g2,g3⟩:=P3 (by decide) hf;unfold A7q;rw [g1,g3,isP_tx hf];decide +kernel
    simp only [go_sem,seval,hf];repeat' ((with_reducible first|refine wr ?_|refine k_cu ?_ ?_|refine wb2 ?_ ?_<;>(intro hb;try simp only [hb])|fail)<;>try simp only [go_sem,seval,hf,hd8])
    refine AC.call (is f (by omega) (d+1) (B3 s) _ (by omega) (by omega) hbg hs hP1 _ _ t A0 (by omega)) ?_;rintro v H' c3 ⟨x,s3,rfl,rfl,q1,q2,q3⟩ hc3;simp only [go_sem,seval,A1,Pb.St.v_w];repeat' ((with_reducible first|refine wr ?_|refine k_cu ?_ ?_|refine wb2 ?_ ?_<;>(intro hb;try simp only [hb])|fail)<;>try simp only [go_sem,seval,A1])
    refine ⟨_,_,gl_frS (cc:=cc) (K:=H.upd t (paB L E s3)) [x] (B9 hfr htc) (by omega) (by rw [st_c1];exact A0) (fun j hj=>by rw [A2 (by omega)]),[x],s3,rfl,rfl,q1,fun k=>(by rw [q2 k]),q3⟩
theorem c_pblock (L:List Tok) (E:Int) (hL:L.length<=1000000000) (hK:∀ t∈L,G4 t) (f:Nat)
  (is:∀ g,g<=f->∀ d s r,0<=d->d<=8->A7q L E s=true->O8 L E g d s=some r->PI L s->PsC L E 211 [I64 d] s r)
  (d:Int) (s m:Rd) (r:List Pb.St × Rd) (hd0:0<=d) (hd:d<=9) (hq:Eqv s m) (h:I8 L E (f+1) d m=some r) (hP:PI L s):PlC L E 198 [I64 d] s r:=by
 intro H cc t ht htc;have hri:=hP.i;refine AC.bodyT A6 rfl (Nat.le_of_ble_eq_true rfl) fun hfr=>?_;unfold I8 at h;repeat' ((with_reducible first|refine wr ?_|refine k_cu ?_ ?_|refine wb2 ?_ ?_<;>(intro hb;try simp only [hb])|fail)<;>try simp only [go_sem,seval])
 refine AC.call (c_want L E s _ _ t ht (by omega) (by omega) 5 [123]) ?_;rintro v H' c1 ⟨rfl,rfl⟩ hc1;have q0:=hq.want (L:=L) (E:=E) (k:=5) (w:=[123]) (fun s=>E8 hK (by decide +kernel));have b0:=(hP.want (E:=E) (k:=5) (w:=[123]) (by decide)).1;simp only [go_sem,seval];repeat' ((with_reducible first|refine wr ?_|refine k_cu ?_ ?_|refine wb2 ?_ ?_<;>(intro hb;try simp only [hb])|fail)<;>try simp only [go_sem,seval])
 refine D6 (fun q:Nat × List Pb.St × Rd × Option Nat × List Pb.St × Rd=>[(0,.ptr t 0),(1,I64 d),(5,C2 q.2.2.2.1 q.2.2.2.2.1.length)]) (fun q=>D1 (H.upd t (paB L E q.2.2.2.2.2)) q.2.2.2.1 ⟨7,true,A7 (q.2.2.2.2.1.map Pb.St.v)⟩)
  (fun q c=>cc<=c/\q.1<=f/\(q.2.2.2.1=none->q.2.2.2.2.1=[])/\(∀ i,q.2.2.2.1=some i->cc<=i/\i<c)/\q.2.2.2.2.1.length<=64/\S1 L E q.1 d q.2.1 q.2.2.1=some r/\Eqv q.2.2.2.2.2 q.2.2.1/\(okR q.2.2.1=true->q.2.2.2.2.1=q.2.1)/\PI L q.2.2.2.2.2) (fun q=>q.1) (f,[],C7 L E m [123],none,[],E0 L E s 5 [123])
  (by simp [C5,tm,Tm.upd,C2]) (Sub.refl _) ⟨hc1,Nat.le_refl _,fun _=>rfl,(fun i hi=>by cases hi),by simp,h,q0,fun _=>rfl,b0⟩ ?_
 clear h q0 b0 hri;rintro ⟨g,l,m,o,xs,u⟩ c ⟨hc,hg,hno,ho,hl1,hv,hq,hxs,hP⟩;dsimp only at hc hg hno ho hl1 hv hq hxs hP ⊢;have hri:=hP.i;have hHt:D1 (H.upd t (paB L E u)) o ⟨7,true,A7 (xs.map Pb.St.v)⟩ t=some (paB L E u):=by rw [F5 (fun i hi=>by have:=ho i hi;omega),A0]
 have hfin:∀ (z:Rd) (j:Nat),j<cc->((D1 (H.upd t (paB L E u)) o ⟨7,true,A7 (xs.map Pb.St.v)⟩).upd t (paB L E z)) j=(H.upd t (paB L E z)) j:=fun z j hj=>by
  by_cases ej:j=t
  ·subst ej;rw [A0,A0]
  ·rw [A2 ej,A2 ej,F5 (fun i hi=>by have:=ho i hi;omega),A2 ej]
 have hbo:∀ (z:Rd) (i:Nat),o=some i->((D1 (H.upd t (paB L E u)) o ⟨7,true,A7 (xs.map Pb.St.v)⟩).upd t (paB L E z)) i=some ⟨7,true,A7 (xs.map Pb.St.v)⟩:=fun z i hi=>by
  have:=ho i hi;rw [A2 (by omega)];subst hi;exact A0
 have hsub:∀ z,Sub (D1 (H.upd t (paB L E z)) o ⟨7,true,A7 (xs.map Pb.St.v)⟩) ((D1 (H.upd t (paB L E u)) o ⟨7,true,A7 (xs.map Pb.St.v)⟩).upd t (paB L E z)):=fun z j b hj=>by
  by_cases e:j=t
  ·subst e;rw [F5 (fun i hi=>by have:=ho i hi;omega),A0] at hj;rw [A0];exact hj
  ·rw [A2 e];cases o with
   | none=>simp only [D1] at hj ⊢;rw [A2 e] at hj ⊢;exact hj
   | some i =>
    simp only [D1] at hj ⊢;by_cases e2:j=i
    ·subst e2;rw [A0] at hj ⊢;exact hj
    ·rw [A2 e2,A2 e] at hj ⊢;exact hj
 cases g with
 | zero=>simp [S1] at hv
 | succ g =>
 unfold S1 at hv;repeat' ((with_reducible first|refine wr ?_|refine k_cu ?_ ?_|refine wb2 ?_ ?_<;>(intro hb;try simp only [hb])|fail)<;>try simp only [go_sem,seval])
 refine AC.call (c_begins L E u _ _ t hHt (by omega)) ?_;rintro v H' c2 ⟨rfl,rfl⟩ hc2;have hba:=beg_amg (E:=E) hK (s:=u);cases hb:A7q L E u with
 | false =>
  have hres:Eqv (E0 L E u 5 [125]) r.2/\(okR r.2=true->xs=r.1):=by
   by_cases h1:okR m=true/\isR L E m [125]=false
   ·rw [if_pos h1] at hv;obtain rfl:=hq.s h1.1;have hn:¬ (0<=B7 L E u C1\/F2 L E u 1=true):=fun hh=>by
     have:=hba.2 ⟨h1.1,hh⟩;rw [hb] at this;cases this
    rw [if_pos ⟨by omega,by cases hk:F2 L E u 1 with|false=>rfl|true=>exact absurd (.inr hk) hn⟩] at hv;cases hv;have hw:E0 L E u 5 [125]=K8 L E u:=by
     rw [E0, <- E8 hK (by decide +kernel),if_pos h1.2];rfl
    rw [hw];exact ⟨.refl _,fun k=>(by rw [Z4] at k;cases k)⟩
   ·rw [if_neg h1] at hv;cases hv;exact ⟨hq.want (fun s=>E8 hK (by decide +kernel)),fun k=>hxs (A4q k)⟩
  have b1:=(hP.want (E:=E) (k:=5) (w:=[125]) (by decide)).1;simp only [go_sem,seval,hb];repeat' ((with_reducible first|refine wr ?_|refine k_cu ?_ ?_|refine wb2 ?_ ?_<;>(intro hb;try simp only [hb])|fail)<;>try simp only [go_sem,seval,hb])
  refine AC.call (c_want L E u _ _ t hHt (by omega) (by omega) 5 [125]) ?_;rintro v H' c3 ⟨rfl,rfl⟩ hc3;simp only [go_sem,seval];repeat' ((with_reducible first|refine wr ?_|refine k_cu ?_ ?_|refine wb2 ?_ ?_<;>(intro hb;try simp only [hb])|fail)<;>try simp only [go_sem,seval])
  exact ⟨_,_,gl_todoS (cc:=cc) xs (B9 hfr htc) (fun i hi=>(ho i hi).1) hno (hbo _) (hfin _),xs,_,rfl,rfl,hres.1,hres.2,b1⟩
 | true =>
  obtain ⟨hok,hbk⟩:=hba.1 hb;obtain rfl:u=m:=hq.s (by rw [<- hq.ok,hok]);obtain rfl:xs=l:=hxs hok;have hnb:isR L E u [125]=false:=by
   rw [E8 hK (by decide +kernel)];have hk5:((A3 L E u).kind == 5)=false:=by
    rcases hbk with hk|hk
    ·have:=((stm_lk (E:=E) hK hok).1 hk).1;simp [this]
    ·have:=(J2 hk).2;simp [this]
   unfold isP;rw [hok,hk5];rfl
  rw [if_pos ⟨hok,hnb⟩,if_neg (fun hh=>by
   rcases hbk with hk|hk
   ·omega
   ·rw [hh.2] at hk;cases hk)] at hv
  have hlen:B0n (C2 o xs.length)=some (I64 xs.length):=by
   cases o with
   | none=>rw [hno rfl];rfl
   | some b=>rfl
  cases hs:O8 L E g d (C0 L E u ((xs.length:Int)+1) 64 9) with
  | none=>rw [hs] at hv;cases hv
  | some q =>
  obtain ⟨x0,m1⟩:=q;rw [hs] at hv;dsimp only at hv;by_cases h64:xs.length=64
  ·have hd64:((xs.length:Int) == 64)=true:=by simp;omega
   have hl:C0 L E u ((xs.length:Int)+1) 64 9=pfl L E u 9:=by rw [S7,if_pos (by omega)]
   have hnk:okR (pfl L E u 9)=false:=by unfold pfl;exact M8 (by decide)
   rw [hl] at hs;cases st_nok2 hs hnk;simp only [go_sem,seval,hb];repeat' ((with_reducible first|refine wr ?_|refine k_cu ?_ ?_|refine wb2 ?_ ?_<;>(intro hb;try simp only [hb])|fail)<;>try simp only [go_sem,seval,hb,hlen,hd64])
   refine AC.call (c_pfail L E u _ _ t hHt (by omega) 9) ?_;rintro v H' c3 ⟨rfl,rfl⟩ hc3;simp only [go_sem,seval];repeat' ((with_reducible first|refine wr ?_|refine k_cu ?_ ?_|refine wb2 ?_ ?_<;>(intro hb;try simp only [hb])|fail)<;>try simp only [go_sem,seval])
   refine ⟨(g,xs++[St0],pfl L E u 9,o,xs,pfl L E u 9),by simp [C5,tm,Tm.upd],?_,inv ⟨by omega,by simp only;omega,hno,(fun i hi=>⟨(ho i hi).1,by have:=(ho i hi).2;omega⟩),hl1,hv,.refl _,fun k=>(by rw [hnk] at k;cases k),hP.fl⟩,by simp only;omega⟩;exact hsub _
  have hd64:((xs.length:Int) == 64)=false:=by simp;omega
  rw [W7 (by omega)] at hs;by_cases h8:d>8
  ·have hd8:decide (d>8)=true:=by simpa using h8
   have hnk:okR (pfl L E u 50)=false:=by unfold pfl;exact M8 (by decide)
   have hm1:m1=pfl L E u 50:=by
    cases g with
    | zero=>simp [O8] at hs
    | succ g =>
     unfold O8 at hs;dsimp only at hs;have hl:C0 L E u d 8 50=pfl L E u 50:=by rw [S7,if_pos h8]
     rw [hl,if_pos hnk] at hs;cases hs;rfl
   subst hm1;simp only [go_sem,seval,hb];repeat' ((with_reducible first|refine wr ?_|refine k_cu ?_ ?_|refine wb2 ?_ ?_<;>(intro hb;try simp only [hb])|fail)<;>try simp only [go_sem,seval,hb,hlen,hd64,hd8])
   refine AC.call (c_pfail L E u _ _ t hHt (by omega) 50) ?_;rintro v H' c3 ⟨rfl,rfl⟩ hc3;simp only [go_sem,seval];repeat' ((with_reducible first|refine wr ?_|refine k_cu ?_ ?_|refine wb2 ?_ ?_<;>(intro hb;try simp only [hb])|fail)<;>try simp only [go_sem,seval])
   refine ⟨(g,xs++[x0],pfl L E u 50,o,xs,pfl L E u 50),by simp [C5,tm,Tm.upd],?_,inv ⟨by omega,by simp only;omega,hno,(fun i hi=>⟨(ho i hi).1,by have:=(ho i hi).2;omega⟩),hl1,hv,.refl _,fun k=>(by rw [hnk] at k;cases k),hP.fl⟩,by simp only;omega⟩;exact hsub _
  have hd8:decide (d>8)=false:=by simpa using h8
  simp only [go_sem,seval,hb];repeat' ((with_reducible first|refine wr ?_|refine k_cu ?_ ?_|refine wb2 ?_ ?_<;>(intro hb;try simp only [hb])|fail)<;>try simp only [go_sem,seval,hb,hlen,hd64,hd8])
  refine AC.call (is g (by omega) d u _ hd0 (by omega) hb hs hP _ _ t hHt (by omega)) ?_;rintro v H' c3 ⟨x,s3,rfl,rfl,q1,q2,q3⟩ hc3;dsimp only at q1 q2;have ne0:=O0 t c3 (c3+1) (by omega);simp only [go_sem,seval,ne0,A1,Pb.St.v_w];repeat' ((with_reducible first|refine wr ?_|refine k_cu ?_ ?_|refine wb2 ?_ ?_<;>(intro hb;try simp only [hb])|fail)<;>try simp only [go_sem,seval,ne0])
  refine D4 (F7 (cs:=A7 (xs.map Pb.St.v)) (fun e=>by rw [hno e];exact ⟨rfl,rfl⟩) (fun i hi=>?_) (by rw [C8 (u:=7) (st_unit _)];simp) (by omega) (by omega) (by omega)) ?_
  ·have:=ho i hi;rw [A2 (by omega)];exact hbo _ i hi
  simp only [go_sem,seval,ne0];repeat' ((with_reducible first|refine wr ?_|refine k_cu ?_ ?_|refine wb2 ?_ ?_<;>(intro hb;try simp only [hb])|fail)<;>try simp only [go_sem,seval,ne0])
  refine ⟨(g,xs++[x0],m1,some (c3+1),xs++[x],s3),by simp only [List.length_append,List.length_singleton];rfl,?_,inv ⟨by omega,by simp only;omega,(fun h=>by cases h),(fun i hi=>by cases hi;omega),by simp only [List.length_append,List.length_singleton];omega,hv,q1,fun k=>(by simp only [q2 k]),q3⟩,by simp only;omega⟩;intro jj b hj;simp only [D1] at hj;by_cases e1:jj=c3+1
  ·subst e1;rw [A0] at hj ⊢;rw [<- hj,List.map_append,F0,st_c1]
  ·rw [A2 e1] at hj ⊢;by_cases e2:jj=t
   ·subst e2;rw [A0] at hj;rw [K0 (fun i hi=>by have:=ho i hi;omega),A2 (by omega),A0];exact hj
   ·rw [A2 e2] at hj;have hjc:jj<cc:=Classical.byContradiction fun h=>by rw [hfr jj (by omega)] at hj;cases hj
    rw [K0 (fun i hi=>by have:=ho i hi;omega),A2 (by omega),A2 e2,F5 (fun i hi=>by have:=ho i hi;omega),A2 e2];exact hj
theorem c_pst (L:List Tok) (E:Int) (hL:L.length<=1000000000) (hK:∀ t∈L,G4 t):∀ f:Nat,
  (∀ d s m r,0<=d->d<=9->Eqv s m->I8 L E f d m=some r->PI L s->PlC L E 198 [I64 d] s r) /\
  (∀ d s r,0<=d->d<=8->A7q L E s=true->O8 L E f d s=some r->PI L s->PsC L E 211 [I64 d] s r):=by
 intro f
 induction f using Nat.strongRecOn with
 | _ f ih =>
  cases f with
  | zero=>exact ⟨fun d s m r _ _ _ h=>by simp [I8] at h,fun d s r _ _ _ h=>by simp [O8] at h⟩
  | succ f =>
   exact ⟨fun d s m r h1 h2 hq h hP=>c_pblock L E hL hK f (fun g hg=>(ih g (by omega)).2) d s m r h1 h2 hq h hP,
    fun d s r h1 h2 hb h hP=>c_pstmt L E hL hK f (ih f (by omega)).1 (fun d s m r h1 h2 hq h hP=>c_pother L E hL hK f (fun g hg=>(ih g (by omega)).1) (fun g hg=>(ih g (by omega)).2) d s m r h1 h2 hq h hP) d s r h1 h2 hb h hP⟩
theorem want_exp {L:List Tok} {E:Int} {s:Rd} {k:Int} {w:List UInt8} (h:isR L E s w=isP L E s k [w]):E0 L E s k w=C7 L E s w:=by unfold E0 C7;rw [h];rfl
theorem Z2 {L:List Tok} {E:Int} (hK:∀ t∈L,G4 t) {s:Rd} {w:List UInt8} (h:C9 w=false):E0 L E s 5 w=C7 L E s w:=want_exp (E8 hK h)
theorem c_pdecl (L:List Tok) (E:Int) (s:Rd) (H:Hp) (cc t:Nat) (ht:H t=some (paB L E s)) (htc:t<cc) (hL:L.length<=1000000000) (hv:∀ x∈L,0<=x.value/\x.value<=9223372036854775807) (hK:∀ t∈L,G4 t) (hd:isP L E s 2 D7=true) :
  AC Tryz.prog 126 [.ptr t 0] H cc (fun v H' c'=>v=(A4f L E (B7 L E s D7) s).1.v/\H'=H.upd t (paB L E (A4f L E (B7 L E s D7) s).2)):=by
 obtain ⟨hok,hi,hk2⟩:=P3 (by decide) hd;have hkd:B7 L E s D7=N1 (A3 L E s).text 0 D7:=V9 (A2j hK s (by decide +kernel)) (by rw [hok,hk2];rfl) 0;have hk0:0<=B7 L E s D7:=by
  have:=A5u (A2j (E:=E) hK s (l:=D7) (by decide +kernel));rw [hd] at this;exact of_decide_eq_true this.symm
 have hk8:B7 L E s D7<8:=(A4g L E s D7 0).2;have htk:A9 L E s 2=(A3 L E s,B3 s):=by
  have hkk:F2 L E s 2=true:=by unfold F2;rw [hok,hk2];rfl
  unfold A9;rw [hkk,if_neg (by decide)]
 have hix:=c_Idx (A3 L E s).text D7 (by decide);rw [<- hkd] at hix;generalize B7 L E s D7=k at *;have hwk:IntKind.i64.wrap (1+k)=1+k:=w64 (by omega) (by omega);have hn:(B3 s).i<=L.length:=hi;have hti:=A9s (E:=E) (x:=1) (by decide) hn;refine AC.bodyT A6 rfl (Nat.le_of_ble_eq_true rfl) fun hfr=>?_;repeat' ((with_reducible first|refine wr ?_|refine k_cu ?_ ?_|refine wb2 ?_ ?_<;>(intro hb;try simp only [hb])|fail)<;>try simp only [go_sem,seval])
 refine AC.call (c_ptake L E s _ _ t (by rw [A2 (by omega)];exact ht) (by omega) (by omega) 2) ?_;rintro v H' c1 ⟨rfl,rfl⟩ hc1;rw [htk];have ne0:=A1y t cc c1 (c1+1+8) (by omega);simp only [go_sem,seval,ne0,A0,A1];repeat' ((with_reducible first|refine wr ?_|refine cpc c_pdecls ?_|refine cpc hix ?_|refine k_cu ?_ ?_|refine wb2 ?_ ?_<;>(intro hb;try simp only [hb])|fail)<;>try simp only [go_sem,seval,hwk,ne0,A0,A1])
 refine ⟨by and_intros<;>((repeat rw [A2 (by omega)]);exact hfr _ (by omega)),?_⟩;repeat' ((with_reducible first|refine wr ?_|refine cpc c_pdecls ?_|refine cpc hix ?_|refine k_cu ?_ ?_|refine wb2 ?_ ?_<;>(intro hb;try simp only [hb])|fail)<;>try simp only [go_sem,seval,hwk,ne0,A0,A1])
 refine ⟨by and_intros<;>((repeat rw [A2 (by omega)]);exact hfr _ (by omega)),?_⟩;repeat' ((with_reducible first|refine wr ?_|refine cpc c_pdecls ?_|refine cpc hix ?_|refine k_cu ?_ ?_|refine wb2 ?_ ?_<;>(intro hb;try simp only [hb])|fail)<;>try simp only [go_sem,seval,hwk,ne0,A0,A1])
 refine AC.call (c_ptake L E (B3 s) _ _ t (by repeat (first|exact A0|rw [A2 (by omega)])) (by omega) (by omega) 1) ?_;rintro v H' c2 ⟨rfl,rfl⟩ hc2;have hval:∀ z,0<=(A9 L E z 3).1.value/\(A9 L E z 3).1.value<=9223372036854775807:=fun z=>by
  unfold A9;split
  ·exact ⟨Int.le_refl 0,(by decide:(0:Int)<=9223372036854775807)⟩
  ·show 0<=(A3 L E z).value/\(A3 L E z).value<=9223372036854775807;unfold A3;rw [List.getD_eq_getElem?_getD];cases hg:L[z.i]? with
   | none=>exact ⟨Int.le_refl 0,(by decide:(0:Int)<=9223372036854775807)⟩
   | some x=>exact hv x (List.mem_of_getElem? hg)
 obtain ⟨D,hD⟩:∃ D,D=A4f L E k s:=⟨_,rfl⟩;rw [<- hD];unfold A4f at hD;dsimp only at hD;generalize (A3 L E s).pos=p at hD ⊢;generalize (A9 L E (B3 s) 1).2=s2 at hD hti ⊢;by_cases h6:k+1<=6
 ·rw [if_pos h6] at hD;have f7:(1+k == 7)=false:=by simp;omega
  have f8:(1+k == 8)=false:=by simp;omega
  have hw2:IntKind.i64.wrap ((s2.i:Int)+1)=((s2.i+1:Nat):Int):=by rw [w64 (by omega) (by omega)];omega
  by_cases h5:k=5
  ·have f6:(1+k == 6)=true:=by simp;omega
   have hm:(k+1 == 6)=true:=by simp;omega
   rw [hm,Bool.true_and] at hD;have hm2:isR L E s2 [45]=isP L E s2 5 [[45]]:=E8 hK (by decide +kernel);rw [hm2] at hD;simp only [go_sem,seval,ne0,A0,A1];repeat' ((with_reducible first|refine wr ?_|refine k_cu ?_ ?_|refine wb2 ?_ ?_<;>(intro hb;try simp only [hb])|fail)<;>try simp only [go_sem,seval,f6,f7,f8,ne0,A0,A1])
   refine AC.call (c_pisO L E s2 _ _ t c2 (by (repeat rw [A2 (by omega)]);exact hfr _ (by omega)) (by repeat (first|exact A0|rw [A2 (by omega)])) (by omega) 5 [[45]] (by simp)) ?_;rintro v H' c3 ⟨rfl,rfl⟩ hc3;cases hq:isP L E s2 5 [[45]] with
   | true =>
    rw [hq,if_pos rfl,if_pos rfl] at hD;have hn2:(B3 s2).i<=L.length:=(P3 (by decide) hq).2.1;have hv2:=hval (B3 s2);have hneg:IntKind.i64.wrap (0-(A9 L E (B3 s2) 3).1.value) = -(A9 L E (B3 s2) 3).1.value:=by rw [w64 (by omega) (by omega)];omega
    simp only [go_sem,seval,hq,hw2,ne0,A0,A1];repeat' ((with_reducible first|refine wr ?_|refine k_cu ?_ ?_|refine wb2 ?_ ?_<;>(intro hb;try simp only [hb])|fail)<;>try simp only [go_sem,seval,hw2,ne0,A0,A1])
    have h4i:=A9s (E:=E) (x:=3) (by decide) hn2;subst hD;refine AC.call (c_ptake L E (B3 s2) _ _ t (by repeat (first|exact A0|rw [A2 (by omega)])) (by omega) (by omega) 3) ?_;rintro v H' c4 ⟨rfl,rfl⟩ hc4;try dsimp only
    simp only [go_sem,seval,hneg,ne0,A0,A1];repeat' ((with_reducible first|refine wr ?_|refine k_cu ?_ ?_|refine wb2 ?_ ?_<;>(intro hb;try simp only [hb])|fail)<;>try simp only [go_sem,seval,hneg,ne0,A0,A1])
    refine AC.call (c_want L E (A9 L E (B3 s2) 3).2 _ _ t (by repeat (first|exact A0|rw [A2 (by omega)])) (by omega) (by omega) 5 [59]) ?_;rintro v H' c9 ⟨rfl,rfl⟩ hc9;rw [Z2 hK (by decide +kernel)];simp only [go_sem,seval,ne0,A0,A1];repeat' ((with_reducible first|refine wr ?_|refine k_cu ?_ ?_|refine wb2 ?_ ?_<;>(intro hb;try simp only [hb])|fail)<;>try simp only [go_sem,seval,ne0,A0,A1])
    rw [C3 (rv4 rfl A0)];refine ⟨_,_,H6 (cc:=cc) (B9 hfr htc) (fun j hj=>?_),rfl,rfl⟩;simp [Hp.upd,show ¬j=cc by omega,show ¬j=c1 by omega,show ¬j=c1+1+8 by omega];try (split<;>rfl)
   | false =>
    rw [hq,if_neg (by decide),if_neg (by decide)] at hD;simp only [go_sem,seval,hq,ne0,A0,A1];repeat' ((with_reducible first|refine wr ?_|refine k_cu ?_ ?_|refine wb2 ?_ ?_<;>(intro hb;try simp only [hb])|fail)<;>try simp only [go_sem,seval,ne0,A0,A1])
    have h4i:=A9s (E:=E) (x:=3) (by decide) hti;subst hD;refine AC.call (c_ptake L E s2 _ _ t (by repeat (first|exact A0|rw [A2 (by omega)])) (by omega) (by omega) 3) ?_;rintro v H' c4 ⟨rfl,rfl⟩ hc4;try dsimp only
    simp only [go_sem,seval,ne0,A0,A1];repeat' ((with_reducible first|refine wr ?_|refine k_cu ?_ ?_|refine wb2 ?_ ?_<;>(intro hb;try simp only [hb])|fail)<;>try simp only [go_sem,seval,ne0,A0,A1])
    refine AC.call (c_want L E (A9 L E s2 3).2 _ _ t (by repeat (first|exact A0|rw [A2 (by omega)])) (by omega) (by omega) 5 [59]) ?_;rintro v H' c9 ⟨rfl,rfl⟩ hc9;rw [Z2 hK (by decide +kernel)];simp only [go_sem,seval,ne0,A0,A1];repeat' ((with_reducible first|refine wr ?_|refine k_cu ?_ ?_|refine wb2 ?_ ?_<;>(intro hb;try simp only [hb])|fail)<;>try simp only [go_sem,seval,ne0,A0,A1])
    rw [C3 (rv4 rfl A0)];refine ⟨_,_,H6 (cc:=cc) (B9 hfr htc) (fun j hj=>?_),rfl,rfl⟩;simp [Hp.upd,show ¬j=cc by omega,show ¬j=c1 by omega,show ¬j=c1+1+8 by omega];try (split<;>rfl)
  ·have hm:(k+1 == 6)=false:=by simp;omega
   have f6:(1+k == 6)=false:=by simp;omega
   rw [hm,Bool.false_and,if_neg (by decide)] at hD;simp only [go_sem,seval,ne0,A0,A1];repeat' ((with_reducible first|refine wr ?_|refine k_cu ?_ ?_|refine wb2 ?_ ?_<;>(intro hb;try simp only [hb])|fail)<;>try simp only [go_sem,seval,f6,f7,f8,ne0,A0,A1])
   have h4i:=A9s (E:=E) (x:=3) (by decide) hti;subst hD;refine AC.call (c_ptake L E s2 _ _ t (by repeat (first|exact A0|rw [A2 (by omega)])) (by omega) (by omega) 3) ?_;rintro v H' c4 ⟨rfl,rfl⟩ hc4;try dsimp only
   simp only [go_sem,seval,ne0,A0,A1];repeat' ((with_reducible first|refine wr ?_|refine k_cu ?_ ?_|refine wb2 ?_ ?_<;>(intro hb;try simp only [hb])|fail)<;>try simp only [go_sem,seval,ne0,A0,A1])
   refine AC.call (c_want L E (A9 L E s2 3).2 _ _ t (by repeat (first|exact A0|rw [A2 (by omega)])) (by omega) (by omega) 5 [59]) ?_;rintro v H' c9 ⟨rfl,rfl⟩ hc9;rw [Z2 hK (by decide +kernel)];simp only [go_sem,seval,ne0,A0,A1];repeat' ((with_reducible first|refine wr ?_|refine k_cu ?_ ?_|refine wb2 ?_ ?_<;>(intro hb;try simp only [hb])|fail)<;>try simp only [go_sem,seval,ne0,A0,A1])
   rw [C3 (rv4 rfl A0)];refine ⟨_,_,H6 (cc:=cc) (B9 hfr htc) (fun j hj=>?_),rfl,rfl⟩;simp [Hp.upd,show ¬j=cc by omega,show ¬j=c1 by omega,show ¬j=c1+1+8 by omega];try (split<;>rfl)
 ·rw [if_neg h6] at hD;have f:((1+k == 7)=true)\/((1+k == 7)=false/\(1+k == 8)=true):=by
   by_cases hh:k=6
   ·left;simp;omega
   ·right;constructor<;>simp<;>omega
  subst hD;rcases f with f7|⟨f7,f8⟩
  ·simp only [go_sem,seval,ne0,A0,A1];repeat' ((with_reducible first|refine wr ?_|refine k_cu ?_ ?_|refine wb2 ?_ ?_<;>(intro hb;try simp only [hb])|fail)<;>try simp only [go_sem,seval,f7,ne0,A0,A1])
   refine AC.call (c_want L E s2 _ _ t (by repeat (first|exact A0|rw [A2 (by omega)])) (by omega) (by omega) 5 [59]) ?_;rintro v H' c9 ⟨rfl,rfl⟩ hc9;rw [Z2 hK (by decide +kernel)];simp only [go_sem,seval,ne0,A0,A1];repeat' ((with_reducible first|refine wr ?_|refine k_cu ?_ ?_|refine wb2 ?_ ?_<;>(intro hb;try simp only [hb])|fail)<;>try simp only [go_sem,seval,ne0,A0,A1])
   rw [C3 (rv4 rfl A0)];refine ⟨_,_,H6 (cc:=cc) (B9 hfr htc) (fun j hj=>?_),rfl,rfl⟩;simp [Hp.upd,show ¬j=cc by omega,show ¬j=c1 by omega,show ¬j=c1+1+8 by omega];try (split<;>rfl)
  ·simp only [go_sem,seval,ne0,A0,A1];repeat' ((with_reducible first|refine wr ?_|refine k_cu ?_ ?_|refine wb2 ?_ ?_<;>(intro hb;try simp only [hb])|fail)<;>try simp only [go_sem,seval,f7,f8,ne0,A0,A1])
   refine AC.call (c_want L E s2 _ _ t (by repeat (first|exact A0|rw [A2 (by omega)])) (by omega) (by omega) 5 [59]) ?_;rintro v H' c9 ⟨rfl,rfl⟩ hc9;rw [Z2 hK (by decide +kernel)];simp only [go_sem,seval,ne0,A0,A1];repeat' ((with_reducible first|refine wr ?_|refine k_cu ?_ ?_|refine wb2 ?_ ?_<;>(intro hb;try simp only [hb])|fail)<;>try simp only [go_sem,seval,ne0,A0,A1])
   rw [C3 (rv4 rfl A0)];refine ⟨_,_,H6 (cc:=cc) (B9 hfr htc) (fun j hj=>?_),rfl,rfl⟩;simp [Hp.upd,show ¬j=cc by omega,show ¬j=c1 by omega,show ¬j=c1+1+8 by omega];try (split<;>rfl)
def hdM (L:List Tok) (E:Int) (f:Nat) (s:Rd):Option (Hd × Rd) :=
 let p:=(A3 L E s).pos
 let s2:=B3 s
 let k:=B7 L E s2 E1
 if k<0 then some (⟨0,[],[],p⟩,K8 L E s2) else
 let s3:=B3 s2
 let n:=if 2<=k then (A9 L E s3 1).1.text else []
 let s4:=if 2<=k then (A9 L E s3 1).2 else s3
 match I8 L E f 1 s4 with
 | none=>none
 | some (b,s5)=>some (⟨1+k,n,b,p⟩,s5)
theorem c_phand (L:List Tok) (E:Int) (hL:L.length<=1000000000) (hK:∀ t∈L,G4 t) (f:Nat) (s:Rd) (q:Hd × Rd) (h:hdM L E f s=some q) (hP:PI L s) (hon:isP L E s 2 [[111,110]]=true) :
  ∀ (H:Hp) (cc t:Nat),H t=some (paB L E s)->t<cc->AC Tryz.prog 172 [.ptr t 0] H cc (fun v H' c' => ∃ x s',v=Hd.v x/\H'=H.upd t (paB L E s')/\Eqv s' q.2/\(okR q.2=true->x=q.1)/\PI L s'):=by
 intro H cc t ht htc;obtain ⟨hok,hi,hk2⟩:=P3 (by decide) hon;have htk:A9 L E s 2=(A3 L E s,B3 s):=by
  have hkk:F2 L E s 2=true:=by unfold F2;rw [hok,hk2];rfl
  unfold A9;rw [hkk,if_neg (by decide)]
 have hP1:=hP.nxt hi;have hri:=hP1.i;have hri0:=hP.i;unfold hdM at h;dsimp only at h;have hpa:=A5u (A2j (E:=E) hK (B3 s) (l:=E1) (by decide +kernel));have hkr:B7 L E (B3 s) E1<6:=(A4g L E (B3 s) E1 0).2;have hkx:0<=B7 L E (B3 s) E1->B7 L E (B3 s) E1=N1 (A3 L E (B3 s)).text 0 E1/\(A3 L E (B3 s)).kind=2/\(B3 s).i<L.length:=fun hh=>by
  rw [decide_eq_true hh] at hpa;obtain ⟨g1,g2,g3⟩:=P3 (by decide) hpa;exact ⟨V9 (A2j hK (B3 s) (by decide +kernel)) (by rw [g1,g3];rfl) 0,g3,g2⟩
 have hix:=c_Idx (A3 L E (B3 s)).text E1 (by decide);refine AC.bodyT A6 rfl (Nat.le_of_ble_eq_true rfl) fun hfr=>?_;repeat' ((with_reducible first|refine wr ?_|refine k_cu ?_ ?_|refine wb2 ?_ ?_<;>(intro hb;try simp only [hb])|fail)<;>try simp only [go_sem,seval])
 refine AC.call (c_ptake L E s _ _ t (by rw [A2 (by omega)];exact ht) (by omega) (by omega) 2) ?_;rintro v H' c1 ⟨rfl,rfl⟩ hc1;rw [htk];have ne0:=O0 t cc c1 (by omega);simp only [go_sem,seval,ne0,A0,A1];repeat' ((with_reducible first|refine wr ?_|refine cpc c_ptrigs ?_|refine k_cu ?_ ?_|refine wb2 ?_ ?_<;>(intro hb;try simp only [hb])|fail)<;>try simp only [go_sem,seval,ne0,A0,A1])
 refine AC.call (c_pis L E (B3 s) _ _ t (by repeat (first|exact A0|rw [A2 (by omega)])) (by omega) 2 E1 (by decide)) ?_;rintro v H' c2 ⟨rfl,rfl⟩ hc2;by_cases hk:B7 L E (B3 s) E1<0
 ·rw [if_pos hk] at h;cases h;have hpf:isP L E (B3 s) 2 E1=false:=by rw [hpa];exact decide_eq_false (by omega)
  simp only [go_sem,seval,hpf,ne0,A0,A1];repeat' ((with_reducible first|refine wr ?_|refine cpc c_ptrigs ?_|refine k_cu ?_ ?_|refine wb2 ?_ ?_<;>(intro hb;try simp only [hb])|fail)<;>try simp only [go_sem,seval,ne0,A0,A1])
  refine AC.call (c_pfail L E (B3 s) _ _ t (by repeat (first|exact A0|rw [A2 (by omega)])) (by omega) 4) ?_;rintro v H' c3 ⟨rfl,rfl⟩ hc3;simp only [go_sem,seval,ne0,A0,A1];repeat' ((with_reducible first|refine wr ?_|refine k_cu ?_ ?_|refine wb2 ?_ ?_<;>(intro hb;try simp only [hb])|fail)<;>try simp only [go_sem,seval,ne0,A0,A1])
  rw [C3 (rv4 rfl A0)];refine ⟨_,_,(H6 (cc:=cc) (K:=H.upd t (paB L E (pfl L E (B3 s) 4))) (B9 hfr htc) (fun j hj=>?_)).trans (GL.view fun ρ vs hA=>K6 (fun v h=>v_md h) vs hA),⟨0,[],[],(A3 L E s).pos⟩,_,rfl,rfl,.refl _,fun k=>?_,hP1.fl⟩
  ·simp [Hp.upd,show ¬j=cc by omega,show ¬j=c1 by omega];try (split<;>rfl)
  ·exact absurd k (by rw [Z4];decide)
 rw [if_neg hk] at h;obtain ⟨hk1,hkd2,hi2⟩:=hkx (by omega);rw [<- hk1] at hix;have hpt:isP L E (B3 s) 2 E1=true:=by rw [hpa];exact decide_eq_true (by omega)
 have htk2:A9 L E (B3 s) 2=(A3 L E (B3 s),B3 (B3 s)):=by
  have hkk:F2 L E (B3 s) 2=true:=by unfold F2;rw [(P3 (by decide) hpt).1,hkd2];rfl
  unfold A9;rw [hkk,if_neg (by decide)]
 have hP2:=hP1.nxt hi2;have hri2:=hP2.i;generalize B7 L E (B3 s) E1=k at *;have hwk:IntKind.i64.wrap (1+k)=1+k:=w64 (by omega) (by omega);simp only [go_sem,seval,hpt,ne0,A0,A1];repeat' ((with_reducible first|refine wr ?_|refine cpc c_ptrigs ?_|refine k_cu ?_ ?_|refine wb2 ?_ ?_<;>(intro hb;try simp only [hb])|fail)<;>try simp only [go_sem,seval,ne0,A0,A1])
 refine AC.call (c_ptake L E (B3 s) _ _ t (by repeat (first|exact A0|rw [A2 (by omega)])) (by omega) (by omega) 2) ?_;rintro v H' c3 ⟨rfl,rfl⟩ hc3;rw [htk2];by_cases hk2':2<=k
 ·rw [if_pos hk2',if_pos hk2'] at h;have hd3:decide (1+k≥3)=true:=by simp;omega
  simp only [go_sem,seval,hwk,ne0,A0,A1];repeat' ((with_reducible first|refine wr ?_|refine cpc hix ?_|refine k_cu ?_ ?_|refine wb2 ?_ ?_<;>(intro hb;try simp only [hb])|fail)<;>try simp only [go_sem,seval,hwk,hd3,ne0,A0,A1])
  refine AC.call (c_ptake L E (B3 (B3 s)) _ _ t (by repeat (first|exact A0|rw [A2 (by omega)])) (by omega) (by omega) 1) ?_;rintro v H' c4 ⟨rfl,rfl⟩ hc4;have hP3:=(hP2.take (E:=E) (x:=1) (by decide)).1;cases hb:I8 L E f 1 (A9 L E (B3 (B3 s)) 1).2 with
  | none=>rw [hb] at h;cases h
  | some qb =>
   obtain ⟨bd,m5⟩:=qb;rw [hb] at h;dsimp only at h;cases h;simp only [go_sem,seval,ne0,A0,A1];repeat' ((with_reducible first|refine wr ?_|refine k_cu ?_ ?_|refine wb2 ?_ ?_<;>(intro hb;try simp only [hb])|fail)<;>try simp only [go_sem,seval,ne0,A0,A1])
   refine AC.call ((c_pst L E hL hK f).1 1 _ _ (bd,m5) (by decide) (by decide) (.refl _) hb hP3 _ _ t (by repeat (first|exact A0|rw [A2 (by omega)])) (by omega)) ?_;rintro v H' c5 ⟨x,s5,rfl,rfl,q1,q2,q3⟩ hc5;dsimp only at q1 q2;simp only [go_sem,seval,ne0,A0,A1];repeat' ((with_reducible first|refine wr ?_|refine k_cu ?_ ?_|refine wb2 ?_ ?_<;>(intro hb;try simp only [hb])|fail)<;>try simp only [go_sem,seval,ne0,A0,A1])
   rw [C3 (rv4 rfl A0)];refine ⟨_,_,H6 (cc:=cc) (K:=H.upd t (paB L E s5)) (B9 hfr htc) (fun j hj=>?_),⟨1+k,(A9 L E (B3 (B3 s)) 1).1.text,x,(A3 L E s).pos⟩,s5,rfl,rfl,q1,fun k=>(by rw [q2 k]),q3⟩;simp [Hp.upd,show ¬j=cc by omega,show ¬j=c1 by omega];try (split<;>rfl)
 ·rw [if_neg hk2',if_neg hk2'] at h;have hd3:decide (1+k≥3)=false:=by simp;omega
  cases hb:I8 L E f 1 (B3 (B3 s)) with
  | none=>rw [hb] at h;cases h
  | some qb =>
   obtain ⟨bd,m5⟩:=qb;rw [hb] at h;dsimp only at h;cases h;simp only [go_sem,seval,hwk,ne0,A0,A1];repeat' ((with_reducible first|refine wr ?_|refine cpc hix ?_|refine k_cu ?_ ?_|refine wb2 ?_ ?_<;>(intro hb;try simp only [hb])|fail)<;>try simp only [go_sem,seval,hwk,hd3,ne0,A0,A1])
   refine AC.call ((c_pst L E hL hK f).1 1 _ _ (bd,m5) (by decide) (by decide) (.refl _) hb hP2 _ _ t (by repeat (first|exact A0|rw [A2 (by omega)])) (by omega)) ?_;rintro v H' c5 ⟨x,s5,rfl,rfl,q1,q2,q3⟩ hc5;dsimp only at q1 q2;simp only [go_sem,seval,ne0,A0,A1];repeat' ((with_reducible first|refine wr ?_|refine k_cu ?_ ?_|refine wb2 ?_ ?_<;>(intro hb;try simp only [hb])|fail)<;>try simp only [go_sem,seval,ne0,A0,A1])
   rw [C3 (rv4 rfl A0)];refine ⟨_,_,H6 (cc:=cc) (K:=H.upd t (paB L E s5)) (B9 hfr htc) (fun j hj=>?_),⟨1+k,[],x,(A3 L E s).pos⟩,s5,rfl,rfl,q1,fun k=>(by rw [q2 k]),q3⟩;simp [Hp.upd,show ¬j=cc by omega,show ¬j=c1 by omega];try (split<;>rfl)
end Go.Proofs.YthlpinppaclofaaGreatDoor
end

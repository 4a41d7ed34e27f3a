/-
  HELPERS of the claim: part 7 of its texts.
-/
import Derived.Test.YtcallbfckjlagaaDoorJudf
noncomputable section
set_option linter.unusedVariables false
set_option linter.unusedSectionVars false
set_option linter.unusedSimpArgs false
namespace Go.Pb
variable [Go.Sym.Tab]
open Go.Sym
def mc0:Prg:=⟨[],mdS,[],[0,0],mdV,2,2⟩
def Ok1 (i:Ins):Prop:=numberM mc0 i=true∧(isJ i.op=true→0≤i.A)
def Ok2 (i:Ins) (p:Nat) (z:Int) (to:Nat × Int→Prop):Prop:=Ok1 i∧z≤48∧(effM i.op).1≤z∧¬(i.op=31∧z≠0)∧∀ s∈afterM i p z,to s
def Sg (b:Nat) (L:List Ins) (x y:Int):Prop :=
 ∃ hs:List Int,hs.length=L.length∧(hs++[y])[0]? = some x∧∀ (j:Nat) i z,L[j]? = some i→hs[j]? = some z→Ok2 i (b+j) z fun s=>b≤s.1∧(hs++[y])[s.1-b]? = some s.2
theorem Ok2.mono {i:Ins} {p:Nat} {z:Int} {to to':Nat × Int→Prop} (h:Ok2 i p z to) (k:∀ s,to s→to' s):Ok2 i p z to' :=
 ⟨h.1,h.2.1,h.2.2.1,h.2.2.2.1,fun s hs=>k s (h.2.2.2.2 s hs)⟩
theorem Sg.app {b:Nat} {L M:List Ins} {x y z:Int} (h:Sg b L x y) (k:Sg (b+L.length) M y z):Sg b (L++M) x z:=by
 obtain ⟨hs,l1,s1,o1⟩:=h
 obtain ⟨ks,l2,s2,o2⟩:=k
 have key:∀ (n:Nat) (w:Int),(hs++[y])[n]? = some w→(hs++ks++[z])[n]? = some w:=by
  intro n w hn
  by_cases h1:n<hs.length
  ·rw [List.getElem?_append_left h1] at hn
   rw [List.append_assoc,List.getElem?_append_left h1];exact hn
  ·rw [List.getElem?_append_right (by omega)] at hn
   obtain ⟨rfl⟩:n=hs.length:=by
    by_cases h2:n-hs.length=0
    ·omega
    ·rw [List.getElem?_eq_none (by simp;omega)] at hn;cases hn
   simp at hn
   subst hn
   rw [List.append_assoc,List.getElem?_append_right (Nat.le_refl _),Nat.sub_self];exact s2
 refine ⟨hs++ks,by simp [l1,l2],key 0 x s1,fun j i w hj hw=>?_⟩
 by_cases h1:j<L.length
 ·rw [List.getElem?_append_left h1] at hj
  rw [List.getElem?_append_left (by omega)] at hw
  exact (o1 j i w hj hw).mono fun s ⟨q1,q2⟩=>⟨q1,key _ _ q2⟩
 ·rw [List.getElem?_append_right (by omega)] at hj
  rw [List.getElem?_append_right (by omega),l1] at hw
  have h3:=o2 _ i w hj hw
  have e:b+L.length+(j-L.length)=b+j:=by omega
  rw [e] at h3
  refine h3.mono fun s ⟨q1,q2⟩=>⟨by omega,?_⟩
  rw [List.append_assoc,List.getElem?_append_right (by omega),l1]
  have e2:s.1-b-L.length=s.1-(b+L.length):=by omega
  rw [e2];exact q2
theorem Sg.nil {b:Nat} {x:Int}:Sg b [] x x:=⟨[],rfl,rfl,fun j i z h=>by simp at h⟩
theorem Sg.one {b:Nat} {i:Ins} {x:Int} (hi:Ok1 i) (h1:i.op≠31) (h2:i.op≠12) (h3:i.op≠13) (h4:i.op≠14) (h5:x≤48) (h6:(effM i.op).1≤x):Sg b [i] x (x-(effM i.op).1+(effM i.op).2.1):=by
 refine ⟨[x],rfl,rfl,fun j i' z hj hz=>?_⟩
 match j with
 | 0 =>
  simp at hj hz;subst hj hz
  refine ⟨hi,h5,h6,fun h=>h1 h.1,fun s hs=>?_⟩
  rw [afterM,if_neg h1,if_neg h2,if_neg h3,if_neg h4] at hs
  simp at hs;subst hs
  refine ⟨by simp,?_⟩
  have e:b+0+1-b=1:=by omega
  simp only [Nat.add_zero]
  have e:b+1-b=1:=by omega
  rw [e];rfl
 | j+1=>simp at hj
theorem after12 {A:Int} {p:Nat} {h:Int}:afterM ⟨12,A⟩ p h=[(A.toNat,h)]:=by simp [afterM]
theorem after13 {A:Int} {p:Nat} {h:Int}:afterM ⟨13,A⟩ p h=[(p+1,h-1),(A.toNat,h-1)]:=by simp [afterM]
theorem after14 {A:Int} {p:Nat} {h:Int}:afterM ⟨14,A⟩ p h=[(p+1,h),(A.toNat,h-1)]:=by simp [afterM]
theorem ok_jump {op A:Int} (h:op=12∨op=13∨op=14) (hA:0≤A):Ok1 ⟨op,A⟩:=by
 refine ⟨?_,fun _=>hA⟩
 rcases h with rfl|rfl|rfl<;>simp [numberM,effM,kindM]
theorem Sg.unless {b:Nat} {L:List Ins} {x:Int} (h:Sg (b+1) L x x) (h0:0≤x) (h1:x+1≤48):Sg b (⟨13,((b+1+L.length:Nat):Int)⟩ :: L) (x+1) x:=by
 obtain ⟨hs,l1,s1,o1⟩:=h
 refine ⟨(x+1) :: hs,by simp [l1],rfl,fun j i z hj hz=>?_⟩
 match j with
 | 0 =>
  simp only [List.getElem?_cons_zero,Option.some.injEq] at hj hz;subst hj hz
  have e13:effM 13=(1,0,7):=by decide
  refine ⟨ok_jump (by simp) (by omega),h1,by simp only [e13];omega,by simp,fun s hs'=>?_⟩
  have ea:afterM ⟨13,((b+1+L.length:Nat):Int)⟩ (b+0) (x+1)=[(b+0+1,x+1-1),(b+1+L.length,x+1-1)]:=by
   rw [after13];rfl
  rw [ea] at hs'
  simp only [List.mem_cons,List.not_mem_nil,or_false] at hs'
  rcases hs' with rfl|rfl
  ·refine ⟨by simp,?_⟩
   have e:b+0+1-b=1:=by omega
   simp only [e]
   have e2:x+1-1=x:=by omega
   rw [e2,List.cons_append,List.getElem?_cons_succ];exact s1
  ·refine ⟨by simp only;omega,?_⟩
   have e:b+1+L.length-b=L.length+1:=by omega
   have e2:x+1-1=x:=by omega
   simp only [e,e2]
   rw [List.cons_append,List.getElem?_cons_succ,List.getElem?_append_right (by omega),l1,Nat.sub_self];rfl
 | j+1 =>
  simp only [List.getElem?_cons_succ] at hj hz
  have h3:=o1 j i z hj hz
  have e:b+1+j=b+(j+1):=by omega
  rw [e] at h3
  refine h3.mono fun s ⟨q1,q2⟩=>⟨by omega,?_⟩
  have e2:s.1-b=s.1-(b+1)+1:=by omega
  rw [e2,List.cons_append,List.getElem?_cons_succ];exact q2
theorem Sg.loop {b:Nat} {L:List Ins} {x:Int} (h:Sg (b+1) L (x+1) (x+1)) (h0:0≤x) (h1:x+1≤48):Sg b (⟨14,((b+2+L.length:Nat):Int)⟩ :: (L++[⟨12,(b:Int)⟩])) (x+1) x:=by
 obtain ⟨hs,l1,s1,o1⟩:=h
 have hlen:((x+1) :: (hs++[x+1])).length=L.length+2:=by simp [l1]
 have key:∀ (n:Nat) (w:Int),(hs++[x+1])[n]? = some w→((x+1) :: (hs++[x+1])++[x])[n+1]? = some w:=by
  intro n w hn
  have hlt:=(List.getElem?_eq_some_iff.1 hn).1
  rw [List.cons_append,List.getElem?_cons_succ,List.getElem?_append_left hlt];exact hn
 refine ⟨(x+1) :: (hs++[x+1]),by simp [l1],rfl,fun j i z hj hz=>?_⟩
 match j with
 | 0 =>
  simp only [List.getElem?_cons_zero,Option.some.injEq] at hj hz;subst hj hz
  have e14:effM 14=(1,1,7):=by decide
  refine ⟨ok_jump (by simp) (by omega),h1,by simp only [e14];omega,by simp,fun s hs'=>?_⟩
  have ea:afterM ⟨14,((b+2+L.length:Nat):Int)⟩ (b+0) (x+1)=[(b+0+1,x+1),(b+2+L.length,x+1-1)]:=by
   rw [after14];rfl
  rw [ea] at hs'
  simp only [List.mem_cons,List.not_mem_nil,or_false] at hs'
  rcases hs' with rfl|rfl
  ·refine ⟨by simp,?_⟩
   have e:b+0+1-b=0+1:=by omega
   simp only [e]
   exact key 0 _ s1
  ·refine ⟨by simp only;omega,?_⟩
   have e:b+2+L.length-b=L.length+2:=by omega
   have e2:x+1-1=x:=by omega
   simp only [e,e2]
   rw [List.getElem?_append_right (by omega),hlen,Nat.sub_self];rfl
 | j+1 =>
  simp only [List.getElem?_cons_succ] at hj hz
  by_cases hjl:j<L.length
  ·rw [List.getElem?_append_left hjl] at hj
   rw [List.getElem?_append_left (by omega)] at hz
   have h3:=o1 j i z hj hz
   have e:b+1+j=b+(j+1):=by omega
   rw [e] at h3
   refine h3.mono fun s ⟨q1,q2⟩=>⟨by omega,?_⟩
   have e2:s.1-b=s.1-(b+1)+1:=by omega
   rw [e2];exact key _ _ q2
  ·rw [List.getElem?_append_right (by omega)] at hj hz
   have hj0:j-L.length=0:=by
    rcases Nat.eq_zero_or_pos (j-L.length) with h|h
    ·exact h
    ·rw [List.getElem?_eq_none (by simp;omega)] at hj;cases hj
   rw [l1,hj0] at hz
   rw [hj0] at hj
   simp only [List.getElem?_cons_zero,Option.some.injEq] at hj hz;subst hj hz
   have e12:effM 12=(0,0,7):=by decide
   refine ⟨ok_jump (by simp) (by omega),h1,by simp only [e12];omega,by simp,fun s hs'=>?_⟩
   have ea:afterM ⟨12,(b:Int)⟩ (b+(j+1)) (x+1)=[(b,x+1)]:=by
    rw [after12];rfl
   rw [ea] at hs'
   simp only [List.mem_singleton] at hs'
   subst hs'
   refine ⟨by simp,?_⟩
   simp only [Nat.sub_self];rfl
end Go.Pb
namespace Go.Pb
variable [Go.Sym.Tab]
open Go.Sym
theorem Sg.put {b:Nat} {op A x y t u k:Int} (hi:Ok1 ⟨op,A⟩) (he:effM op=(t,u,k)) (h1:op≠31) (h2:op≠12) (h3:op≠13) (h4:op≠14) (h5:x≤48) (h6:t≤x) (hy:y=x-t+u):Sg b [⟨op,A⟩] x y:=by
 have h:=Sg.one (b:=b) (i:=⟨op,A⟩) (x:=x) hi h1 h2 h3 h4 h5 (by simp only [he];exact h6)
 simp only [he] at h
 rw [hy];exact h
theorem ok_of {op A k:Int} (he:(effM op).2.2=k) (hk:kindM mc0 k A=true) (hj:k≠7):Ok1 ⟨op,A⟩:=by
 refine ⟨by simp only [numberM];rw [he];exact hk,fun h=>?_⟩
 simp only at h
 rw [isJ_kind,he] at h
 exact absurd (by simpa using h) hj
theorem in_rng {a lo hi:Int} (h1:lo≤a) (h2:a≤hi):inM a lo hi=true:=by simp [inM,h1,h2]
theorem kd2 {a:Int}:kindM mc0 2 a=inM a 0 2:=by simp [kindM,mc0,mdV,mdS]
theorem kd3 {a:Int}:kindM mc0 3 a=inM a 0 63:=by simp [kindM,mc0,mdV,mdS]
theorem kd4 {a:Int}:kindM mc0 4 a=inM a 0 1:=by simp [kindM,mc0,mdV,mdS]
theorem kd5 {a:Int}:kindM mc0 5 a=inM a 0 1:=by simp [kindM,mc0,mdV,mdS]
theorem kd9 {a:Int}:kindM mc0 9 a=inM a 0 63:=by simp [kindM,mc0,mdV,mdS]
theorem kd8 {a:Int}:kindM mc0 8 a=inM a 0 31:=by simp [kindM,mc0,mdV,mdS]
theorem kd10 {a:Int}:kindM mc0 10 a=inM a 0 1:=by simp [kindM,mc0,mdV,mdS]
theorem kd11 {a:Int}:kindM mc0 11 a=inM a 0 1:=by simp [kindM,mc0,mdV,mdS]
theorem kd6 {a:Int}:kindM mc0 6 a=inM a 12 24:=by simp [kindM]
theorem nn {n m:Nat} (h:n<m):(0:Int)≤(n:Int)∧(n:Int)<(m:Int):=by omega
theorem value_sg (l:List UInt8):∀ (d p b:Nat) (x:Int),0≤x→x+d+1≤48→Sg b (valueM l d p).1 x (x+1)
 | d,p,b,x,h0,h1=>by
  unfold valueM
  simp only
  generalize (if d=0∧5<(nextM l p 9).1 then 0 else (nextM l p 9).1)=k
  generalize (nextM l p 9).2=p1
  split
  ·have:=nn (nextM_lt (l:=l) (p:=p1) (n:=3) (by omega))
   exact Sg.put (ok_of (k:=2) (by decide) (by rw [kd2];exact in_rng (by omega) (by omega)) (by decide)) (t:=0) (u:=1) (k:=2) (by decide) (by decide) (by decide) (by decide) (by decide) (by omega) (by omega) (by omega)
  ·have:=nn (nextM_lt (l:=l) (p:=p1) (n:=64) (by omega))
   exact Sg.put (ok_of (k:=3) (by decide) (by rw [kd3];exact in_rng (by omega) (by omega)) (by decide)) (t:=0) (u:=1) (k:=3) (by decide) (by decide) (by decide) (by decide) (by decide) (by omega) (by omega) (by omega)
  ·have:=nn (nextM_lt (l:=l) (p:=p1) (n:=2) (by omega))
   exact Sg.put (ok_of (k:=4) (by decide) (by rw [kd4];exact in_rng (by omega) (by omega)) (by decide)) (t:=0) (u:=1) (k:=4) (by decide) (by decide) (by decide) (by decide) (by decide) (by omega) (by omega) (by omega)
  ·have:=nn (nextM_lt (l:=l) (p:=p1) (n:=2) (by omega))
   exact Sg.put (ok_of (k:=5) (by decide) (by rw [kd5];exact in_rng (by omega) (by omega)) (by decide)) (t:=0) (u:=1) (k:=5) (by decide) (by decide) (by decide) (by decide) (by decide) (by omega) (by omega) (by omega)
  ·have hq:=nextM_lt (l:=l) (p:=p1) (n:=2) (by omega)
   generalize (nextM l p1 2).1=a at hq
   have ha:a=0∨a=1:=by omega
   rcases ha with rfl|rfl
   ·exact Sg.put (ok_of (k:=0) (by decide) (by decide) (by decide)) (t:=0) (u:=1) (k:=0) (by decide) (by decide) (by decide) (by decide) (by decide) (by omega) (by omega) (by omega)
   ·exact Sg.put (ok_of (k:=0) (by decide) (by decide) (by decide)) (t:=0) (u:=1) (k:=0) (by decide) (by decide) (by decide) (by decide) (by decide) (by omega) (by omega) (by omega)
  ·rename_i d
   have hv:=value_sg l d p1 b x h0 (by omega)
   refine hv.app ?_
   have hq:=nextM_lt (l:=l) (p:=(valueM l d p1).2) (n:=2) (by omega)
   generalize (nextM l (valueM l d p1).2 2).1=a at hq
   have ha:a=0∨a=1:=by omega
   rcases ha with rfl|rfl
   ·exact Sg.put (ok_of (k:=0) (by decide) (by decide) (by decide)) (t:=1) (u:=1) (k:=0) (by decide) (by decide) (by decide) (by decide) (by decide) (by omega) (by omega) (by omega)
   ·exact Sg.put (ok_of (k:=0) (by decide) (by decide) (by decide)) (t:=1) (u:=1) (k:=0) (by decide) (by decide) (by decide) (by decide) (by decide) (by omega) (by omega) (by omega)
  ·rename_i d
   have hv:=value_sg l d p1 b x h0 (by omega)
   have hw:=value_sg l d (valueM l d p1).2 (b+(valueM l d p1).1.length) (x+1) (by omega) (by omega)
   refine (hv.app hw).app ?_
   have:=nn (nextM_lt (l:=l) (p:=(valueM l d (valueM l d p1).2).2) (n:=13) (by omega))
   exact Sg.put (ok_of (k:=6) (by decide) (by rw [kd6];exact in_rng (by omega) (by omega)) (by decide)) (t:=2) (u:=1) (k:=6) (by decide) (by decide) (by decide) (by decide) (by decide) (by omega) (by omega) (by omega)
  ·rename_i d
   have hv:=value_sg l d p1 b x h0 (by omega)
   have hw:=value_sg l d (valueM l d p1).2 (b+(valueM l d p1).1.length) (x+1) (by omega) (by omega)
   refine (hv.app hw).app ?_
   have:=nn (nextM_lt (l:=l) (p:=(valueM l d (valueM l d p1).2).2) (n:=13) (by omega))
   exact Sg.put (ok_of (k:=6) (by decide) (by rw [kd6];exact in_rng (by omega) (by omega)) (by decide)) (t:=2) (u:=1) (k:=6) (by decide) (by decide) (by decide) (by decide) (by decide) (by omega) (by omega) (by omega)
  ·have hq:=nextM_lt (l:=l) (p:=p1) (n:=10) (by omega)
   generalize (nextM l p1 10).1=a at hq
   have hk:∀ a<10,kindM mc0 1 (pushT.getD a 0)=true:=by decide
   exact Sg.put (ok_of (k:=1) (by decide) (hk a hq) (by decide)) (t:=0) (u:=1) (k:=1) (by decide) (by decide) (by decide) (by decide) (by decide) (by omega) (by omega) (by omega)
theorem stK_sg {l:List UInt8} {rec:Nat→Nat→List Ins × Nat} {m:Int} (h0m:0≤m) (hr:∀ (b p:Nat) (x:Int),0≤x→x+m+4≤48→Sg b (rec b p).1 x x) (base k p:Nat) (x:Int) (h0:0≤x) (h1:x+(m+1)+4≤48):Sg base (stK l rec base k p).1 x x:=by
 have v0:=fun p b=>value_sg l 0 p b x h0 (by omega)
 have v1:=fun p b=>value_sg l 1 p b x h0 (by omega)
 have v2:=fun p b=>value_sg l 2 p b x h0 (by omega)
 unfold stK
 split
 ·exact (v1 p base).app (Sg.put (ok_of (k:=0) (by decide) (by decide) (by decide)) (t:=1) (u:=0) (k:=0) (by decide) (by decide) (by decide) (by decide) (by decide) (by omega) (by omega) (by omega))
 ·have hq:=nextM_lt (l:=l) (p:=p) (n:=3) (by omega)
  have hb:=nn (nextM_lt (l:=l) (p:=(nextM l p 3).2) (n:=32) (by omega))
  generalize ((nextM l (nextM l p 3).2 32).1:Int)=B at hb
  generalize (nextM l p 3).1=a at hq
  have ha:a=0∨a=1∨a=2:=by omega
  rcases ha with rfl|rfl|rfl<;>exact Sg.put (ok_of (k:=8) (by decide) (by rw [kd8];exact in_rng (by omega) (by omega)) (by decide)) (t:=0) (u:=0) (k:=8) (by decide) (by decide) (by decide) (by decide) (by decide) (by omega) (by omega) (by omega)
 ·have hb:=nn (nextM_lt (l:=l) (p:=(valueM l 0 p).2) (n:=64) (by omega))
  exact (v0 p base).app (Sg.put (ok_of (k:=9) (by decide) (by rw [kd9];exact in_rng (by omega) (by omega)) (by decide)) (t:=1) (u:=0) (k:=9) (by decide) (by decide) (by decide) (by decide) (by decide) (by omega) (by omega) (by omega))
 ·have hb:=nn (nextM_lt (l:=l) (p:=(valueM l 0 (valueM l 0 p).2).2) (n:=64) (by omega))
  have w0:=value_sg l 0 (valueM l 0 p).2 (base+(valueM l 0 p).1.length) (x+1) (by omega) (by omega)
  exact ((v0 p base).app w0).app (Sg.put (ok_of (k:=9) (by decide) (by rw [kd9];exact in_rng (by omega) (by omega)) (by decide)) (t:=2) (u:=0) (k:=9) (by decide) (by decide) (by decide) (by decide) (by decide) (by omega) (by omega) (by omega))
 ·have hb:=nn (nextM_lt (l:=l) (p:=(valueM l 1 p).2) (n:=2) (by omega))
  exact (v1 p base).app (Sg.put (ok_of (k:=5) (by decide) (by rw [kd5];exact in_rng (by omega) (by omega)) (by decide)) (t:=1) (u:=0) (k:=5) (by decide) (by decide) (by decide) (by decide) (by decide) (by omega) (by omega) (by omega))
 ·have hb:=nn (nextM_lt (l:=l) (p:=p) (n:=2) (by omega))
  exact Sg.put (ok_of (k:=5) (by decide) (by rw [kd5];exact in_rng (by omega) (by omega)) (by decide)) (t:=0) (u:=0) (k:=5) (by decide) (by decide) (by decide) (by decide) (by decide) (by omega) (by omega) (by omega)
 ·have hq:=nextM_lt (l:=l) (p:=p) (n:=2) (by omega)
  have hb:=nn (nextM_lt (l:=l) (p:=(nextM l p 2).2) (n:=2) (by omega))
  generalize ((nextM l (nextM l p 2).2 2).1:Int)=B at hb
  generalize (nextM l p 2).1=a at hq
  have ha:a=0∨a=1:=by omega
  rcases ha with rfl|rfl<;>exact Sg.put (ok_of (k:=4) (by decide) (by rw [kd4];exact in_rng (by omega) (by omega)) (by decide)) (t:=0) (u:=0) (k:=4) (by decide) (by decide) (by decide) (by decide) (by decide) (by omega) (by omega) (by omega)
 ·have hb:=nn (nextM_lt (l:=l) (p:=p) (n:=2) (by omega))
  exact Sg.put (ok_of (k:=10) (by decide) (by rw [kd10];exact in_rng (by omega) (by omega)) (by decide)) (t:=0) (u:=0) (k:=10) (by decide) (by decide) (by decide) (by decide) (by decide) (by omega) (by omega) (by omega)
 ·have hq:=nextM_lt (l:=l) (p:=p) (n:=3) (by omega)
  have hb:=nn (nextM_lt (l:=l) (p:=(nextM l p 3).2) (n:=64) (by omega))
  generalize ((nextM l (nextM l p 3).2 64).1:Int)=B at hb
  generalize (nextM l p 3).1=a at hq
  have ha:a=0∨a=1∨a=2:=by omega
  rcases ha with rfl|rfl|rfl<;>exact Sg.put (ok_of (k:=9) (by decide) (by rw [kd9];exact in_rng (by omega) (by omega)) (by decide)) (t:=0) (u:=0) (k:=9) (by decide) (by decide) (by decide) (by decide) (by decide) (by omega) (by omega) (by omega)
 ·have hb:=nn (nextM_lt (l:=l) (p:=(valueM l 1 p).2) (n:=2) (by omega))
  exact (v1 p base).app (Sg.put (ok_of (k:=11) (by decide) (by rw [kd11];exact in_rng (by omega) (by omega)) (by decide)) (t:=1) (u:=0) (k:=11) (by decide) (by decide) (by decide) (by decide) (by decide) (by omega) (by omega) (by omega))
 ·exact Sg.put (ok_of (k:=0) (by decide) (by decide) (by decide)) (t:=0) (u:=0) (k:=0) (by decide) (by decide) (by decide) (by decide) (by decide) (by omega) (by omega) (by omega)
 ·have hs:=hr (base+(valueM l 1 p).1.length+1) (valueM l 1 p).2 x h0 (by omega)
  have hu:=Sg.unless (b:=base+(valueM l 1 p).1.length) hs h0 (by omega)
  have:=(v1 p base).app hu
  simpa only [List.append_assoc,List.cons_append,List.nil_append] using this
 ·have hs:=hr (base+(valueM l 0 p).1.length+1) (valueM l 0 p).2 (x+1) (by omega) (by omega)
  have hu:=Sg.loop (b:=base+(valueM l 0 p).1.length) hs h0 (by omega)
  have:=(v0 p base).app hu
  simpa only [List.append_assoc,List.cons_append,List.nil_append] using this
 ·have hs:=hr (base+(valueM l 0 p).1.length+1) (valueM l 0 p).2 (x+1) (by omega) (by omega)
  have hu:=Sg.loop (b:=base+(valueM l 0 p).1.length) hs h0 (by omega)
  have:=(v0 p base).app hu
  simpa only [List.append_assoc,List.cons_append,List.nil_append] using this
 ·have hb:=nn (nextM_lt (l:=l) (p:=(valueM l 2 p).2) (n:=3) (by omega))
  exact (v2 p base).app (Sg.put (ok_of (k:=2) (by decide) (by rw [kd2];exact in_rng (by omega) (by omega)) (by decide)) (t:=1) (u:=0) (k:=2) (by decide) (by decide) (by decide) (by decide) (by decide) (by omega) (by omega) (by omega))
theorem stmtM_sg (l:List UInt8):∀ (d base p:Nat) (x:Int),0≤x→x+(d+1)+4≤48→Sg base (stmtM l d base p).1 x x
 | 0,base,p,x,h0,h1=>by
  simp only [stmtM]
  exact stK_sg (m:=0) (by omega) (fun b p x _ _=>Sg.nil) _ _ _ x h0 (by omega)
 | d+1,base,p,x,h0,h1=>by
  simp only [stmtM]
  exact stK_sg (m:=(d:Int)+1) (by omega) (fun b p x h0 h1=>stmtM_sg l d b p x h0 (by omega)) _ _ _ x h0 (by omega)
theorem mdB_sg {l:List UInt8} {x:List Ins × Nat}:∀ n, ∃ M,(mdB l n x).1=x.1++M∧Sg x.1.length M 0 0
 | 0=>⟨[],by simp [mdB],Sg.nil⟩
 | n+1=>by
  obtain ⟨M,e,h⟩:=mdB_sg (l:=l) (x:=x) n
  refine ⟨M++(stmtM l 2 (mdB l n x).1.length (mdB l n x).2).1,by simp only [mdB];rw [e,List.append_assoc],h.app ?_⟩
  have:=stmtM_sg l 2 (mdB l n x).1.length (mdB l n x).2 0 (by omega) (by omega)
  rw [e,List.length_append] at this ⊢
  exact this
end Go.Pb
namespace Go.Pb
variable [Go.Sym.Tab]
open Go.Sym
def Tg (L:List Ins) (E:List Ent):Prop :=
 ∃ hs:List Int,hs.length=L.length∧(∀ e∈E,0≤e.pos∧hs[e.pos.toNat]? = some 0)∧∀ (j:Nat) i z,L[j]? = some i→hs[j]? = some z→Ok2 i j z fun s=>hs[s.1]? = some s.2
theorem Tg.nil:Tg [] []:=⟨[],rfl,by simp,by simp⟩
theorem Tg.hnd {L M:List Ins} {E:List Ent} {e:Ent} (h:Tg L E) (k:Sg L.length M 0 0) (he:e.pos=(L.length:Int)):Tg (L++M++[⟨31,0⟩]) (E++[e]):=by
 obtain ⟨hs,l1,n1,o1⟩:=h
 obtain ⟨ks,l2,s2,o2⟩:=k
 have key:∀ (n:Nat) (w:Int),hs[n]? = some w→(hs++(ks++[0]))[n]? = some w:=fun n w hn=>by
  rw [List.getElem?_append_left (List.getElem?_eq_some_iff.1 hn).1];exact hn
 have key2:∀ (n:Nat) (w:Int),L.length≤n→(ks++[0])[n-L.length]? = some w→(hs++(ks++[0]))[n]? = some w:=fun n w hl hn=>by
  rw [List.getElem?_append_right (by omega),l1];exact hn
 refine ⟨hs++(ks++[0]),by simp [l1,l2],fun x hx=>?_,fun j i z hj hz=>?_⟩
 ·rw [List.mem_append] at hx
  rcases hx with hx|hx
  ·exact ⟨(n1 x hx).1,key _ _ (n1 x hx).2⟩
  ·simp only [List.mem_singleton] at hx;subst hx
   refine ⟨by omega,key2 _ _ (by omega) ?_⟩
   have e0:x.pos.toNat-L.length=0:=by omega
   rw [e0];exact s2
 ·rw [List.append_assoc] at hj
  by_cases h1:j<L.length
  ·rw [List.getElem?_append_left h1] at hj
   rw [List.getElem?_append_left (by omega)] at hz
   exact (o1 j i z hj hz).mono fun s q=>key _ _ q
  ·rw [List.getElem?_append_right (by omega)] at hj
   rw [List.getElem?_append_right (by omega),l1] at hz
   by_cases h2:j-L.length<M.length
   ·rw [List.getElem?_append_left h2] at hj
    rw [List.getElem?_append_left (by omega)] at hz
    have h3:=o2 _ i z hj hz
    have e:L.length+(j-L.length)=j:=by omega
    rw [e] at h3
    exact h3.mono fun s ⟨q1,q2⟩=>key2 _ _ q1 q2
   ·rw [List.getElem?_append_right (by omega)] at hj hz
    have h4:j-L.length-M.length=0:=by
     rcases Nat.eq_zero_or_pos (j-L.length-M.length) with h|h
     ·exact h
     ·rw [List.getElem?_eq_none (by simp;omega)] at hj;cases hj
    rw [l2,h4] at hz
    rw [h4] at hj
    simp only [List.getElem?_cons_zero,Option.some.injEq] at hj hz
    subst hj hz
    exact ⟨⟨by decide,by decide⟩,by decide,by decide,by simp,fun s hs=>by simp [afterM] at hs⟩
def kp0 (e:Ent):Ent:=⟨e.mode,e.trigger,e.index,0⟩
theorem mdH_tg {l:List UInt8} {key:Ent} {x:MS} {p:Nat} (h:Tg x.I x.E):Tg (mdH l key x p).I (mdH l key x p).E:=by
 obtain ⟨M,e,hM⟩:=mdB_sg (l:=l) (x:=(x.I,(nextM l p 4).2)) (nextM l p 4).1
 simp only [mdH]
 rw [e]
 exact h.hnd hM rfl
theorem mdK_tg {l:List UInt8}:∀ i,Tg (mdK l i).I (mdK l i).E
 | 0=>Tg.nil
 | i+1=>by
  have h:=mdK_tg (l:=l) i
  simp only [mdK,mdI]
  split
  ·exact mdH_tg h
  ·split
   ·exact h
   ·exact mdH_tg h
theorem mdH_kp {l:List UInt8} {key:Ent} {x:MS} {p:Nat}:(mdH l key x p).E.map kp0=x.E.map kp0++[kp0 key]:=by simp [mdH,kp0]
theorem mdK_sub {l:List UInt8}:∀ i,i≤9→((mdK l i).E.map kp0).Sublist (keysM.take i)
 | 0,_=>by simp [mdK]
 | i+1,hi=>by
  have h:=mdK_sub (l:=l) i (by omega)
  have hk:i<keysM.length:=by have:keysM.length=9:=rfl;omega
  have hg:=List.getElem?_eq_getElem hk
  have hk0:∀ e∈keysM,kp0 e=e:=by decide
  have e1:keysM.take (i+1)=keysM.take i++[keysM.getD i ⟨0,0,0,0⟩]:=by
   rw [List.take_add_one,hg]
   have:keysM.getD i ⟨0,0,0,0⟩=keysM[i]:=by simp [List.getD,hk]
   rw [this];rfl
  have e2:kp0 (keysM.getD i ⟨0,0,0,0⟩)=keysM.getD i ⟨0,0,0,0⟩:=by
   have:keysM.getD i ⟨0,0,0,0⟩=keysM[i]:=by simp [List.getD,hk]
   rw [this];exact hk0 _ (List.getElem_mem hk)
  simp only [mdK,mdI]
  rw [e1]
  split
  ·rw [mdH_kp,e2];exact List.Sublist.append h (List.Sublist.refl _)
  ·split
   ·exact h.trans (List.sublist_append_left _ _)
   ·rw [mdH_kp,e2];exact List.Sublist.append h (List.Sublist.refl _)
theorem chain_of_pw:∀ (l:List Ent),l.Pairwise (fun a b=>lessM a b=true)→chainM l=true
 | [],_=>rfl
 | [a],_=>rfl
 | a :: b :: r,h=>by
  simp only [chainM,Bool.and_eq_true]
  rw [List.pairwise_cons] at h
  exact ⟨h.1 b List.mem_cons_self,chain_of_pw (b :: r) h.2⟩
theorem keys_pw:keysM.Pairwise (fun a b=>lessM a b=true):=by decide
theorem tg_notBad {c:Prg} (h:Tg c.instrs c.entries):¬Bad c:=by
 obtain ⟨hs,l1,n1,o1⟩:=h
 have hin:∀ p,p<c.instrs.length→c.instrs[p]? = some (c.ins p):=fun p hp=>by
  simp [Prg.ins,List.getD,hp]
 have key:∀ p x,Rch c p x→hs[p]? = some x:=by
  intro p x hr
  induction hr with
  | ent he=>exact (n1 _ he).2
  | step h1 h2 h3 ih =>
   have hp:=(List.getElem?_eq_some_iff.1 ih).1
   exact (o1 _ _ _ (hin _ (by omega)) ih).2.2.2.2 _ h3
 rintro ⟨p,x,h1,h2|⟨y,h2,h3⟩⟩
 ·apply h2
  have ih:=key p x h1
  have hp:=(List.getElem?_eq_some_iff.1 ih).1
  obtain ⟨a,b,d,e, -⟩:=o1 p _ x (hin p (by omega)) ih
  exact ⟨by omega,b,d,e⟩
 ·have e1:=key p x h1
  rw [key p y h2] at e1
  cases e1;exact h3 rfl
theorem made_valid (l:List UInt8):validM (madeM l)=0:=by
 rw [madeM]
 generalize l.take 200=t
 obtain ⟨c,hc⟩:∃ c,c=madeT t:=⟨_,rfl⟩
 have ei:c.instrs=(mdK t 9).I:=by rw [hc];rfl
 have ee:c.entries=(mdK t 9).E:=by rw [hc];rfl
 have es:c.strings=mdS:=by rw [hc];rfl
 have ep:c.prios=mdP t:=by rw [hc];rfl
 have ev:c.vars=mdV:=by rw [hc];rfl
 have et:c.timers=2:=by rw [hc];rfl
 have en:c.events=2:=by rw [hc];rfl
 obtain ⟨b1,b2,b3⟩:=mdK_bd (l:=t) 9
 have hT:=mdK_tg (l:=t) 9
 rw [← ei, ← ee] at hT
 rw [← ei] at b2
 rw [← ee] at b3
 have hpl:(mdP t).length=2:=rfl
 have hL:limitsM c=true:=by
  have e1:c.strings.length=2:=by rw [es];rfl
  have e2:c.prios.length=2:=by rw [ep];rfl
  have e3:c.vars.length=3:=by rw [ev];rfl
  simp only [limitsM,inM,Bool.and_eq_true,decide_eq_true_eq]
  rw [e1,e2,e3,et,en]
  omega
 have hnum:∀ i,numberM c i=numberM mc0 i:=by
  intro i
  have e1:c.strings.length=mc0.strings.length:=by rw [es];rfl
  have e2:c.prios.length=mc0.prios.length:=by rw [ep];rfl
  have e3:c.vars.length=mc0.vars.length:=by rw [ev];rfl
  have e4:c.timers=mc0.timers:=et
  have e5:c.events=mc0.events:=en
  unfold numberM kindM
  rw [e1,e2,e3,e4,e5]
 have hent:∀ e,entryM c e=entryM mc0 e:=by
  intro e
  have e2:c.prios.length=mc0.prios.length:=by rw [ep];rfl
  have e4:c.timers=mc0.timers:=et
  have e5:c.events=mc0.events:=en
  unfold entryM
  rw [e2,e4,e5]
 have hsub:=mdK_sub (l:=t) 9 (by omega)
 rw [← ee] at hsub
 have hk9:keysM.take 9=keysM:=rfl
 rw [hk9] at hsub
 obtain ⟨hs,l1,n1,o1⟩:=id hT
 have hz:∀ (j:Nat) i,c.instrs[j]? = some i→∃ z,hs[j]? = some z:=fun j i hj=>by
  have:=(List.getElem?_eq_some_iff.1 hj).1
  exact ⟨hs[j],List.getElem?_eq_getElem (by omega)⟩
 have hP:partsM c=true:=by
  simp only [partsM,Bool.and_eq_true,List.all_eq_true]
  refine ⟨⟨⟨⟨?_,?_⟩,?_⟩,?_⟩,?_⟩
  ·rw [es];decide
  ·rw [ep]
   intro n hn
   have q1:=nextM_lt (l:=t) (p:=0) (n:=4) (by omega)
   have q2:=nextM_lt (l:=t) (p:=(nextM t 0 4).2) (n:=4) (by omega)
   simp only [mdP,List.mem_cons,List.not_mem_nil,or_false] at hn
   rcases hn with rfl|rfl<;>exact in_rng (by omega) (by omega)
  ·rw [ev];decide
  ·intro e he
   have hm:kp0 e∈keysM:=hsub.subset (List.mem_map_of_mem he)
   have hall:∀ e∈keysM,entryM mc0 e=true:=by decide
   rw [hent]
   have h2:entryM mc0 (kp0 e)=true:=hall _ hm
   exact h2
  ·intro i hi
   obtain ⟨j,hj⟩:=List.getElem?_of_mem hi
   obtain ⟨z,hz⟩:=hz j i hj
   rw [hnum]
   exact (o1 j i z hj hz).1.1
 have hJ:jumpsM c=true:=by
  simp only [jumpsM,Bool.and_eq_true,List.all_eq_true]
  refine ⟨fun i hi=>?_,fun e he=>?_⟩
  ·obtain ⟨j,hj⟩:=List.getElem?_of_mem hi
   obtain ⟨z,hz⟩:=hz j i hj
   obtain ⟨a, -, -, -,d⟩:=o1 j i z hj hz
   by_cases h7:(effM i.op).2.2=7
   ·have hJ:isJ i.op=true:=by rw [isJ_kind,h7];rfl
    have hA:=a.2 hJ
    have hlt:i.A.toNat<hs.length:=by
     have hop:i.op=12∨i.op=13∨i.op=14:=by simpa [isJ] using hJ
     have hmem:∃ w,(i.A.toNat,w)∈afterM i j z:=by
      obtain ⟨op,A⟩:=i
      simp only at hop
      rcases hop with rfl|rfl|rfl
      ·exact ⟨z,by rw [after12];simp⟩
      ·exact ⟨z-1,by rw [after13];simp⟩
      ·exact ⟨z-1,by rw [after14];simp⟩
     obtain ⟨w,hw⟩:=hmem
     exact (List.getElem?_eq_some_iff.1 (d _ hw)).1
    simp only [jumpI,h7,inM]
    simp;omega
   ·simp [jumpI,h7]
  ·obtain ⟨a,d⟩:=n1 e he
   have:=(List.getElem?_eq_some_iff.1 d).1
   exact in_rng (by omega) (by omega)
 have hC:chainM c.entries=true:=by
  refine chain_of_pw _ ?_
  have:=keys_pw.sublist hsub
  rw [List.pairwise_map] at this
  exact this
 have hH:(hR c).isNone=false:=by
  have hs:=hR_says (c:=c) (by omega) hJ
  cases h:hR c with
  | none=>rw [h] at hs;exact absurd hs (tg_notBad hT)
  | some x=>rfl
 rw [← hc]
 simp [validM,hL,hP,hJ,hC,hH]
end Go.Pb
set_option maxHeartbeats 4000000
set_option maxRecDepth 100000
namespace Go.Proofs.YtcallbfckjlagaaDoor
open Go.Eng (IC IOper DReg IFn IsFn)
open Go.Sym Go.Pb
section
abbrev u3_2:IC:=qS [oM 7 0,oC 8 10 [.t 7],oC 9 9 [.t 8],oM 10 9,gM 11 0 10,gM 12 1 10,⟨some 13,.call 11 [.t 11,.t 12],some (10,true)⟩,⟨some 14,.call 9 [.t 13],some (10,true)⟩,oJ 15 10 14,oM 16 15,oG 17 (.ld 7 true (.t 5)) 16,⟨some 18,.call 12 [.t 17],some (16,true)⟩,oG 19 (.un .not (.t 18)) 16,gM 20 19 16,oR 21 (.ld 7 true (.t 5)) 20,⟨some 22,.call 9 [.t 21],some (20,false)⟩,oG 23 (.pick (.t 20) (.k (.bool true)) (.t 22)) 16,oJ 24 16 23,oM 25 24,⟨some 26,.call 13 [],some (25,true)⟩,oJ 27 25 26,oM 6 27] .ret [0,1,5]
abbrev u3_1:IC:=qS [oX 5 2,oV 6 (.bool false)] u3_2 [0,1,2]
def u3:IFn:=⟨28,u3_1,[.tmp 6]⟩
end
theorem isU3:IsFn Tryd.prog 3 u3:=by unfold IsFn;kernel_rfl
theorem c_MadeF (l:List UInt8) (hl:l.length≤9223372036854775807):PC Tryd.prog 10 [.lst (bytesC l)] (madeM l).v:=by
 have nlb:DV.nlL (bytesC l)=true:=nlL_map (fun _=>rfl) l
 refine ⟨by simp [DV.nlL,DV.nl,nlb],by simp [DV.nlL,DV.nl,nlL_ints,nlL_strs,nlL_instrs,nlL_entries],AC.post ((c_MadeN l hl).mono ?_)⟩
 rintro v H' c' ⟨id,rfl,rfl⟩
 exact ⟨_,Sym.nil,GL.one (id:=id) h_same rfl (.cons _ _ _ _ (.agg _ _ (.cons _ _ _ _ (fz_slc (u:=2) (by simp) (ins_unit _) ⟨[],by simp [insC]⟩) (FzL.refl _))) .nil),rfl⟩
def Nm (c:Prg):Prop:=∀ i∈c.instrs,I6 i.op∧I6 i.A
theorem made_nm (l:List UInt8):Nm (madeM l):=by
 obtain ⟨b1,b2,b3,b4,b5,b6,b7⟩:=Bnd.valid (made_valid l)
 intro i hi
 obtain ⟨⟨x1,x2⟩,x3,x4⟩:=b1 i hi
 exact ⟨⟨by omega,by omega⟩,by omega,by omega⟩
theorem tm_bd (z:UInt8) (k:Int) (hk:0<k) (hk2:k≤100):I6 (((z.toNat:Int)-3).tmod k):=by
 have h1:=Int.tmod_lt_of_pos ((z.toNat:Int)-3) hk
 have h2:=Int.lt_tmod_of_pos ((z.toNat:Int)-3) hk
 exact ⟨by omega,by omega⟩
theorem bk_nm {c:Prg} (h:Nm c) (x y z:UInt8):Nm (bkStep c x y z):=by
 have hz:=z.toNat_lt
 have g:∀ k,I6 (c.instrs.getD k ⟨0,0⟩).op∧I6 (c.instrs.getD k ⟨0,0⟩).A:=fun k=>by
  rw [List.getD]
  cases hk:c.instrs[k]? with
  | none=>exact ⟨⟨by simp,by simp⟩,by simp,by simp⟩
  | some i=>exact h i (List.mem_of_getElem? hk)
 have st:∀ k (j:Ins),I6 j.op∧I6 j.A→∀ i∈c.instrs.set k j,I6 i.op∧I6 i.A:=fun k j hj i hi=>by
  rcases List.mem_or_eq_of_mem_set hi with h1|rfl
  ·exact h i h1
  ·exact hj
 unfold bkStep bkR
 split
 ·exact st _ _ ⟨tm_bd z 34 (by omega) (by omega),(g _).2⟩
 ·exact st _ _ ⟨(g _).1,by simp only;omega,by simp only;omega⟩
 ·exact st _ _ ⟨(g _).1,tm_bd z 12 (by omega) (by omega)⟩
 ·intro i hi
  rcases List.mem_append.1 hi with h1|h1
  ·exact h i (List.mem_of_mem_take h1)
  ·exact h i (List.mem_of_mem_drop h1)
 ·intro i hi
  rcases List.mem_append.1 hi with h1|h1
  ·rcases List.mem_append.1 h1 with h1|h1
   ·exact h i (List.mem_of_mem_take h1)
   ·simp only [List.mem_singleton] at h1
    subst h1
    exact ⟨⟨by simp,by simp⟩,by simp only;omega,by simp only;omega⟩
  ·exact h i (List.mem_of_mem_drop h1)
 all_goals exact h
theorem go_nm:∀ {n:Nat} {m:List UInt8} {c:Prg},Nm c→Nm (bkGo n m c)
 | 0,_,c,h=>h
 | n+1,m,c,h=>by
  unfold bkGo
  split
  ·split
   ·exact bk_nm h _ _ _
   ·exact go_nm (bk_nm h _ _ _)
  ·exact h
theorem broken_nm (l m:List UInt8):Nm (brokenM l m):=go_nm (made_nm l)
theorem c_judges (l m:List UInt8) (c:Prg) (hl:l.length≤9223372036854775807) (hm:m.length≤9223372036854775807) (hc:Nm c):PC Tryd.prog 3 [.lst (bytesC l),.lst (bytesC m),c.v] (.bool true):=by
 have nlb:∀ l,DV.nlL (bytesC l)=true:=fun l=>nlL_map (fun _=>rfl) l
 refine PC.of mixedU isU3 (Nat.le_of_ble_eq_true rfl) (by simp [DV.nlL,DV.nl,nlb,nlL_ints,nlL_strs,nlL_instrs,nlL_entries]) rfl ?_
 show IW Tryd.prog 28 u3_1 ⟨argT _,_,_⟩ (rt [.tmp 6] _)
 have cA:=c_MadeF l hl
 have cB:=c_Broken l m hl hm
 obtain ⟨B1,B2,B3,B4,B5,B6,B7,B8,B9,B10⟩:=BB.broken l m
 have k0:=Bnd.valid (made_valid l)
 have j1:=c_judged (madeM l) (fun s hs=>by have:s∈mdS:=hs;simp [mdS] at this;rcases this with rfl|rfl<;>simp) (by have:=(mdK_bd (l:=l.take 200) 9);show (mdK (l.take 200) 9).I.length≤_;omega) (made_nm l)
 have j2:=c_judged (brokenM l m) (fun s hs=>by have:=B5 s hs;omega) (by omega) (broken_nm l m)
 have cF:=c_fits c
 generalize madeM l=a at *
 generalize brokenM l m=b at *
 cases hf:fitsM c
 ·rw [hf] at cF
  repeat' ((with_reducible first|refine wr ?_|refine cpc cA ?_|refine cpc cB ?_|refine cpc j1 ?_|refine cpc j2 ?_|refine cpc cF ?_|refine cpc c_sane ?_|refine wb2 ?_ ?_<;>(intro hb;try simp only [hb])|fail)<;>try simp only [go_sem,seval])
  exact pc_ret rfl
 ·rw [hf] at cF
  obtain ⟨f1,f2⟩:=fits_1 hf
  have j3:=c_judged c f1 f2 hc
  repeat' ((with_reducible first|refine wr ?_|refine cpc cA ?_|refine cpc cB ?_|refine cpc j1 ?_|refine cpc j2 ?_|refine cpc cF ?_|refine cpc j3 ?_|refine cpc c_sane ?_|refine wb2 ?_ ?_<;>(intro hb;try simp only [hb])|fail)<;>try simp only [go_sem,seval])
  exact pc_ret rfl
end Go.Proofs.YtcallbfckjlagaaDoor
end

/-
  HELPERS of the claim: part 9 of its texts.
-/
import Derived.Test.YtnmkkggfgdfmeaaGreatDoorProg
import Derived.KernelRfl
import Derived.Test.YtnmkkggfgdfmeaaGreatDoorChwh
noncomputable section
set_option maxHeartbeats 8000000
set_option maxRecDepth 100000
set_option linter.unusedSimpArgs false
set_option linter.unusedVariables false
namespace Go.Proofs.YtnmkkggfgdfmeaaGreatDoor
open Go.Eng (IC IOper DReg IFn A7)
open Go.Sym Go.Pb
theorem c_chk1 (x h:Hd):PC Tryz.prog 46 [x.v,.fptr [I64 h.trig,.str h.name,F1 h.body,I64 h.pos]] (.bool (x.trig == h.trig && x.name == h.name)):=by
 rw [A0c];refine PC.of A9 isU46 (A0B rfl) (by simp [DV.nlL,DV.nl]) (by simp [DV.nlL,DV.nl]) ?_;show IW Tryz.prog 16 u46_1 ⟨B7 _,_,_⟩ (rt [.tmp 3] _);cases h1:(x.trig == h.trig) with
 | false =>
  repeat' ((with_reducible apply wr)<;>try simp only [go_sem,seval,h1])
  exact A6 rfl
 | true =>
  cases h2:(x.name == h.name) with
  | false =>
   repeat' ((with_reducible apply wr)<;>try simp only [go_sem,seval,h1,h2])
   exact A6 rfl
  | true =>
   repeat' ((with_reducible apply wr)<;>try simp only [go_sem,seval,h1,h2])
   exact A6 rfl
theorem c_Check32 (r:Ru) (hB:r.sz<4000000):PC Tryz.prog 17 [r.v] (A7q r):=by
 have hv:=c_Valid r (by omega);have hdl:=A8h r;have hml:=A6q r;have hnm:=c_names r (by omega) (by omega);have hch:A7q r=if Q1 r=true then erV (C2v r) else .tup [I64 0,I64 1]:=rfl
 refine PC.of A9 isU17 (A0B rfl) (by simp [Ru.v,DV.nlL,DV.nl,G6,G5]) (B6q _) ?_;have hrv:r.v=.agg [D4 r.decls,E0 r.modes]:=rfl;cases hvd:Q1 r with
 | false =>
  rw [hvd] at hv hch;rw [hch];rw [hrv] at hv ⊢;show IW Tryz.prog 67 u17_1 ⟨B7 _,_,_⟩ (rt [.tmp 2,.tmp 3] _);repeat' ((with_reducible first|apply wr|refine cpc hv ?_|fail)<;>try simp only [go_sem,seval])
  exact A6 rfl
 | true =>
 have hk:=B8n hvd;have hbv:=@A6l _ r hvd;have hms:∀ m∈r.modes,m.sz<=r.sz:=fun m h=>B9c h;rw [hvd] at hv hch;rw [if_pos rfl] at hch;rw [hch,D0v];unfold C2v;rw [<- J2 (C0m r)];have hhd:=fun H cc t ht htc=>c_heads32 r hk (0,0) H cc t ht htc (by omega) (by omega);obtain ⟨K,V,hKV⟩:∃ K V,nmV r=.mp .s K V:=⟨_,_,rfl⟩;have hck:∀ s:Int × Int,(⟨0,true,[.mp .s K V,I64 s.1,I64 s.2]⟩:Blk)=ckB r s:=fun s=>by unfold ckB;rw [hKV]
 rw [hKV] at hnm;rw [hrv] at hv hnm hhd ⊢;show IW Tryz.prog 67 u17_1 ⟨B7 _,_,_⟩ (rt [.tmp 2,.tmp 3] _);repeat' ((with_reducible first|apply wr|refine cpc hv ?_|refine cpc hnm ?_|fail)<;>try simp only [go_sem,seval])
 refine AC.call (hhd _ _ 1 (by rw [A0];exact congrArg some (hck (0,0))) (by omega)) ?_;rintro v' H' c' ⟨rfl,rfl⟩ hcc;rw [A1];obtain ⟨s0,hs0⟩:∃ s0,s0=upS (0,0) (B0n r):=⟨_,rfl⟩;rw [<- hs0];have hb0:∀ b,((Sym.nil.upd 0 ⟨0,true,[D4 r.decls,E0 r.modes]⟩).upd 1 b) 0=some ⟨0,true,[D4 r.decls,E0 r.modes]⟩:=fun b=>rfl;simp only [go_sem,seval];repeat' ((with_reducible apply wr)<;>try simp only [go_sem,seval,hb0])
 have hG0:∀ j,1<=j->(Sym.nil.upd 0 ⟨0,true,[D4 r.decls,E0 r.modes]⟩) j=none:=fun j hj=>by rw [A2 (by omega)];rfl
 generalize Sym.nil.upd 0 ⟨0,true,[D4 r.decls,E0 r.modes]⟩=G0 at hG0 ⊢;clear hb0 hs0 hhd;refine B9 (fun i:Nat=>[(4,.ptr 1 0),(20,E0 r.modes),(21,I64 r.modes.length),(22,I64 i)]) (fun i=>G0.upd 1 (ckB r (upS s0 (erM r (r.modes.take i))))) (fun i c=>2<=c/\i<=r.modes.length) (fun i=>r.modes.length-i) 0 (by simp [C1,tm,Tm.upd]) (by rw [A2G,erM,J3];exact Sub.refl _) ⟨by omega,A0N _⟩ ?_;rintro i c ⟨h1c,hki⟩;by_cases hlt:i<r.modes.length
 ·have hd:decide ((i:Int)<r.modes.length)=true:=by simpa using hlt
  have hg:=A0C hlt;have hw:=w64 (n:=(i:Int)+1) (by omega) (by omega);have hms:=hms _ (A0M hlt);have hbv:=hbv _ (A0M hlt);have het:=B2p (r:=r) hg;generalize r.modes[i]=d at hg hms hbv het;have hhl:=B9d d;obtain ⟨s1,hs1⟩:∃ s1,s1=upS s0 (erM r (r.modes.take i)):=⟨_,rfl⟩;rw [<- hs1];have hfin:upS s0 (erM r (r.modes.take (i+1)))=upS s1 (erH r [] d.hds):=by rw [het, <- J2 (D2j _ _), <- hs1]
  have ne0:=L2 1 c (by omega);repeat' ((with_reducible apply wr)<;>try simp only [go_sem,seval,hd,hg,A5g,ne0,A0,A1])
  obtain ⟨G,hG⟩:∃ G,G=G0.upd c ⟨0,true,[.str d.name,I64 d.prio,S5 d.hds,I64 d.pos]⟩:=⟨_,rfl⟩;have hGc:∀ b,(G.upd 1 b) c=some ⟨0,true,[.str d.name,I64 d.prio,S5 d.hds,I64 d.pos]⟩:=fun b=>by rw [A2 (by omega),hG,A0]
  have hGn:∀ j,c+1<=j->G j=none:=fun j hj=>by rw [hG,A2 (by omega)];exact hG0 j (by omega)
  rw [A6n (by omega), <- hG];refine B9 (fun j:Nat=>[(4,.ptr 1 0),(6,.ptr c 0),(20,E0 r.modes),(21,I64 r.modes.length),(22,I64 i),(27,S5 d.hds),(28,I64 d.hds.length),(29,I64 j)]) (fun j=>G.upd 1 (ckB r (upS s1 (erH r [] (d.hds.take j))))) (fun j c2=>c+1<=c2/\j<=d.hds.length) (fun j=>d.hds.length-j) 0 (by simp [C1,tm,Tm.upd]) (by rw [A2G,erH,J3];exact Sub.refl _) ⟨by omega,A0N _⟩ ?_;rintro j c2 ⟨h2c,hkj⟩;by_cases hlt2:j<d.hds.length
  ·have hd2:decide ((j:Int)<d.hds.length)=true:=by simpa using hlt2
   have hg2:=A0C hlt2;have hw2:=w64 (n:=(j:Int)+1) (by omega) (by omega);have hxs:=B9e (A0M hlt2);have hbv:=hbv _ (A0M hlt2);have heH:=C2b (r:=r) hg2;generalize d.hds[j]=x at hg2 hxs hbv heH;have hxe:x.sz=1+x.name.length+Pb.St.szs x.body:=rfl;have hbl:=c_blk32 r hk _ x.body 1 (A2T _) (by omega) hbv;have hik:=c_inH32 x.trig;have hcf:=c_CF_hd (f:=46) (a:=[]) (cs:=[.fptr [I64 x.trig,.str x.name,F1 x.body,I64 x.pos]]) (g:=fun y=>y.trig == x.trig && y.name == x.name) (d.hds.take j) (by rw [A0S];omega) rfl (by simp [DV.nlL,DV.nl,O8]) (fun y _=>c_chk1 y x);obtain ⟨o,ho⟩:∃ o,o=erH r [] (d.hds.take j):=⟨_,rfl⟩;have hno:NzE o:=by rw [ho];exact C9l _ _ _
   rw [<- ho] at heH ⊢;have hsl:=fun H=>A9w (xs:=d.hds.map Hd.v) (h:=j) (sz:=4) (by rw [A0D];omega) (A1l _) H;rw [<- A3U] at hsl;have ne0:=T8 1 c c2 (by omega);repeat' ((with_reducible first|apply wr|refine cpc hik ?_|fail)<;>try simp only [go_sem,seval,hd2,hg2,A0c,ne0,A0,A1,hGc])
   obtain ⟨G2,hG2⟩:∃ G2,G2=G.upd c2 ⟨0,true,[I64 x.trig,.str x.name,F1 x.body,I64 x.pos]⟩:=⟨_,rfl⟩;have h2c2:∀ b,(G2.upd 1 b) c2=some ⟨0,true,[I64 x.trig,.str x.name,F1 x.body,I64 x.pos]⟩:=fun b=>by rw [A2 (by omega),hG2,A0]
   have h2c:∀ b,(G2.upd 1 b) c=some ⟨0,true,[.str d.name,I64 d.prio,S5 d.hds,I64 d.pos]⟩:=fun b=>by rw [A2 (by omega),hG2,A2 (by omega),hG,A0]
   have h2n:∀ j,c2+1<=j->G2 j=none:=fun j hj=>by rw [hG2,A2 (by omega)];exact hGn j (by omega)
   rw [A6n (by omega), <- hG2];refine ⟨by and_intros<;>(rw [A2 (by omega)];exact h2n _ (by omega)),?_⟩;refine AC.call (c_den32 r hk (upS s1 o) _ _ 1 A0 (by omega) x.name (kdH x.trig) x.pos) ?_;rintro v' H' c3 ⟨rfl,rfl⟩ hc3;rw [A1,J2 hno];obtain ⟨o2,ho2⟩:∃ o2,o2=o.or (dnE r x.name (kdH x.trig) x.pos):=⟨_,rfl⟩;have hno2:NzE o2:=by rw [ho2];exact hno.or (A8r _ _ _ _)
   have heH2:erH r [] (d.hds.take (j+1))=(o2.or (if (d.hds.take j).any (fun y=>y.trig == x.trig && y.name == x.name)=true then some (x.pos,7) else none)).or (erB r x.body):=by
    rw [heH,ho2];unfold stH;simp only [A2C]
   rw [<- ho2];simp only [go_sem,seval];generalize (d.hds.take j).any (fun y=>y.trig == x.trig && y.name == x.name)=bq at hcf heH2;have kE:∀ (s2:Int × Int) (c4:Nat),c2+1<=c4->upS s1 (erH r [] (d.hds.take (j+1)))=upS s2 (erB r x.body)->IW Tryz.prog 67 u17_26 ⟨tm [(4,.ptr 1 0),(6,.ptr c 0),(8,.ptr c2 0),(20,E0 r.modes),(21,I64 r.modes.length),(22,I64 i),(27,S5 d.hds),(28,I64 d.hds.length),(29,I64 j)],G2.upd 1 (ckB r s2),c4⟩ (bk 3
      (sq Tryz.prog 67 u17_27
       (lp (fun j:Nat=>[(4,DV.ptr 1 0),(6,DV.ptr c 0),(20,E0 r.modes),(21,I64 r.modes.length),(22,I64 i),(27,S5 d.hds),(28,I64 d.hds.length),(29,I64 j)])
        (fun j:Nat=>G.upd 1 (ckB r (upS s1 (erH r [] (d.hds.take j)))))
        (fun j c2=>c+1<=c2/\j<=d.hds.length) (fun j=>d.hds.length-j) (d.hds.length-j)
        (bk 2
         (bk 1
          (sq Tryz.prog 67 u17_28
           (lp (fun i:Nat=>[(4,DV.ptr 1 0),(20,E0 r.modes),(21,I64 r.modes.length),(22,I64 i)])
            (fun i:Nat=>G0.upd 1 (ckB r (upS s0 (erM r (r.modes.take i)))))
            (fun i c=>2<=c/\i<=r.modes.length) (fun i=>r.modes.length-i) (r.modes.length-i)
            (bk 0
             (sq Tryz.prog 67 u17_29
              (rt [Eng.RV.tmp 2,Eng.RV.tmp 3] fun v H' x =>
               ∃ H2,GL H' [v] H2 [DV.tup [I64 (upS s0 (erM r r.modes)).1,I64 (upS s0 (erM r r.modes)).2]])))))))))):=by
    intro s2 c4 hc4 hs2;repeat' ((with_reducible apply wr)<;>try simp only [go_sem,seval,h2c2,h2c])
    refine AC.call (hbl s2 _ _ 1 A0 (by omega)) ?_;rintro v' H' c5 ⟨rfl,rfl⟩ hc5;rw [A1, <- hs2];simp only [go_sem,seval,hw2];repeat' ((with_reducible apply wr)<;>try simp only [go_sem,seval,hw2])
    refine ⟨j+1,by simp,?_,inv ⟨by omega,by omega⟩,by omega⟩;rw [hG2];exact A5u (fun j hj=>hGn j (by omega)) (by omega)
   cases bq with
   | true =>
    rw [if_pos rfl] at heH2;repeat' ((first|(with_reducible first|refine wr ?_)|(refine AC.call (hcf.lend rfl (GL.one (id:=c2) (b:=⟨0,true,[I64 x.trig,.str x.name,F1 x.body,I64 x.pos]⟩) (h2c2 _) rfl (.cons _ _ _ _ (.same _) (.cons _ _ _ _ (.func _ _ _ _ _ .nil (.cons _ _ _ _ (.ptr 0 _ (A0N _) rfl) .nil)) .nil)))) ?_<;>rintro v' H' c' ⟨rfl,rfl,rfl⟩ hcc)|fail)<;>try simp only [go_sem,seval,h2c2,h2c,hsl])
    refine AC.call (c_fail32 r (upS s1 o2) _ _ 1 A0 (by omega) x.pos 7) ?_;rintro v' H' c5 ⟨rfl,rfl⟩ hc5;rw [A1,J2 hno2];simp only [go_sem,seval];repeat' ((with_reducible first|refine G8 (p:=IW _ _ u17_26 _ _) ?_|refine wr ?_|fail)<;>try simp only [go_sem,seval])
    refine IW.stage (by simp [C1,tm,Tm.upd]) (kE _ _ (by omega) ?_);rw [heH2,J2 (hno2.or (fun a b h=>by cases h;decide))]
   | false =>
    rw [if_neg (by decide),A3A] at heH2;repeat' ((first|(with_reducible first|refine G8 (p:=IW _ _ u17_26 _ _) ?_|refine wr ?_)|(refine AC.call (hcf.lend rfl (GL.one (id:=c2) (b:=⟨0,true,[I64 x.trig,.str x.name,F1 x.body,I64 x.pos]⟩) (h2c2 _) rfl (.cons _ _ _ _ (.same _) (.cons _ _ _ _ (.func _ _ _ _ _ .nil (.cons _ _ _ _ (.ptr 0 _ (A0N _) rfl) .nil)) .nil)))) ?_<;>rintro v' H' c' ⟨rfl,rfl,rfl⟩ hcc)|fail)<;>try simp only [go_sem,seval,h2c2,h2c,hsl])
    refine IW.stage (by simp [C1,tm,Tm.upd]) (kE _ _ (by omega) ?_);rw [heH2,J2 hno2]
  have hd2:decide ((j:Int)<d.hds.length)=false:=by simpa using hlt2
  rw [A0J (by omega)];repeat' ((with_reducible apply wr)<;>try simp only [go_sem,seval,hd2,hw])
  refine ⟨i+1,by simp,?_,inv ⟨by omega,by omega⟩,by omega⟩;rw [hfin,hG];exact A5u (fun j hj=>hG0 j (by omega)) (by omega)
 have hd:decide ((i:Int)<r.modes.length)=false:=by simpa using hlt
 rw [A0J (by omega)];have hb1:(G0.upd 1 (ckB r (upS s0 (erM r r.modes)))) 1=some (ckB r (upS s0 (erM r r.modes))):=A0;have hcs:=(hck (upS s0 (erM r r.modes))).symm;have hbn:∀ j,c<=j->(G0.upd 1 (ckB r (upS s0 (erM r r.modes)))) j=none:=fun j hj=>by rw [A2 (by omega)];exact hG0 j (by omega)
 rw [hcs] at hb1 hbn ⊢;repeat' ((with_reducible apply wr)<;>try simp only [go_sem,seval,hd,hb1])
 refine ⟨by and_intros<;>exact hG0 _ (by omega),?_⟩;repeat' ((with_reducible apply wr)<;>try simp only [go_sem,seval,hb1])
 exact A6 rfl
theorem c_Lookup32 (r:Ru) (n:List UInt8) (hB:r.sz<4000000):PC Tryz.prog 28 [r.v,.str n] (C0z r n):=by
 have hv:=c_Valid r (by omega);have hdl:=A8h r;have hml:=A6q r;have hnm:=c_names r (by omega) (by omega);refine PC.of A9 isU28 (A0B rfl) (by simp [Ru.v,DV.nlL,DV.nl,G6,G5]) (D0a _ _) ?_;have hrv:r.v=.agg [D4 r.decls,E0 r.modes]:=rfl;unfold C0z;cases hvd:Q1 r with
 | false =>
  rw [hvd] at hv;rw [hrv] at hv ⊢;show IW Tryz.prog 18 u28_1 ⟨B7 _,_,_⟩ (rt [.tmp 4,.tmp 5] _);repeat' ((with_reducible first|apply wr|refine cpc hv ?_|fail)<;>try simp only [go_sem,seval])
  exact A6 rfl
 | true =>
 have hk:=B8n hvd;rw [hvd] at hv;rw [if_pos rfl];unfold nmV at hnm;have hlk:Sym.lkV (.agg [I64 0,I64 0]) false (mvV (T9 (nmL r))) (E4 (.str n) (mkK (T9 (nmL r))) 0)=some (.agg [I64 (M3 r n).1,I64 (M3 r n).2]):=by
  cases hl:(nmL r).lookup n with
  | some q =>
   obtain ⟨h1,h2⟩:=B5w hk hl;rw [h1];exact A6d (ok:=false) (by rw [N6,hl];rfl)
  | none =>
   rw [B5x hk hl];exact A6e (ok:=false) (by rw [N6,hl];rfl)
 rw [hrv] at hv hnm ⊢;show IW Tryz.prog 18 u28_1 ⟨B7 _,_,_⟩ (rt [.tmp 4,.tmp 5] _);repeat' ((with_reducible first|apply wr|refine cpc hv ?_|refine cpc hnm ?_|fail)<;>try simp only [go_sem,seval,hlk])
 exact A6 rfl
end Go.Proofs.YtnmkkggfgdfmeaaGreatDoor
set_option linter.unusedSectionVars false
namespace Go.Pb
variable [Go.Sym.Tab]
open Go.Sym
mutual
def exN (sn:List (List UInt8)):Ex->List (List UInt8)
 | .mk k v n a p=>A0j (V9 sn n) a
def A0j (sn:List (List UInt8)):List Ex->List (List UInt8)
 | []=>sn
 | x :: l=>A0j (exN sn x) l
end
mutual
def stN (sn:List (List UInt8)):St->List (List UInt8)
 | .mk k n t a x y p=>Z3 (Z3 (A0j (V9 sn n) a) x) y
def Z3 (sn:List (List UInt8)):List St->List (List UInt8)
 | []=>sn
 | s :: l=>Z3 (stN sn s) l
end
theorem D4e (sn:List (List UInt8)) (e:Ex):exN sn e=A0j (V9 sn e.name) e.args:=by
 cases e with|mk k v n a p=>rw [exN];rfl
theorem D1o (sn:List (List UInt8)) (s:St):stN sn s=Z3 (Z3 (A0j (V9 sn s.name) s.args) s.thn) s.els:=by
 cases s with|mk k n t a x y p=>rw [stN];rfl
theorem A9e {x:Ex}:∀ {l:List Ex} {i:Nat} {sn:List (List UInt8)},l[i]? = some x->A0j sn (l.take (i+1))=exN (A0j sn (l.take i)) x
 | y :: l,0,sn,h=>by cases h;simp [A0j]
 | y :: l,i+1,sn,h=>by rw [A0U,A0U,A0j,A0j,A9e (by simpa using h)]
theorem A8k {x:St}:∀ {l:List St} {i:Nat} {sn:List (List UInt8)},l[i]? = some x->Z3 sn (l.take (i+1))=stN (Z3 sn (l.take i)) x
 | y :: l,0,sn,h=>by cases h;simp [Z3]
 | y :: l,i+1,sn,h=>by rw [A0U,A0U,Z3,Z3,A8k (by simpa using h)]
def hdN (sn:List (List UInt8)) (h:Hd):List (List UInt8):=Z3 (V9 sn h.name) h.body
def mdN (sn:List (List UInt8)) (m:Md):List (List UInt8):=m.hds.foldl hdN sn
def ruN (r:Ru):List (List UInt8):=r.modes.foldl mdN []
theorem A9b {α β : Type} {f : β -> α -> β} {b : β} {l:List α} {i:Nat} {x : α} (h:l[i]? = some x):(l.take (i+1)).foldl f b=f ((l.take i).foldl f b) x:=by
 rw [A0X,h,A3E];rfl
mutual
theorem C5u (m:List UInt8) (h0:m≠[]):∀ (e:Ex) (sn:List (List UInt8)),(∃ q,msM e=some q)->(exN sn e).contains m=(sn.contains m || inE m e)
 | .mk k v n a p,sn,⟨q,hq⟩=>by
  rw [exN,A7m m h0 a _ (B0j hq),A0n,inE,A3K]
  congr 2
  obtain ⟨o,d⟩:=q;obtain ⟨-, -,m3, -⟩:=A4l hq;by_cases hk:k=2\/k=5\/k=6\/k=7
  ·have:(kdE k != 0)=true:=by unfold kdE;rcases hk with rfl|rfl|rfl|rfl<;>decide
   rw [this,A1P,A1W];simp;exact eq_comm
  ·have e0:(kdE k != 0)=false:=by
    unfold kdE;rw [if_neg (by omega),if_neg (by omega),if_neg (by omega),if_neg (by omega)];rfl
   rw [e0,Bool.false_and];unfold A0i at m3;rw [if_neg (by unfold B0i;simp;omega)] at m3;have hn:n=[]:=by simpa using m3
   rw [hn];simpa using h0
theorem A7m (m:List UInt8) (h0:m≠[]):∀ (l:List Ex) (sn:List (List UInt8)),(∀ e∈l, ∃ q,msM e=some q)->(A0j sn l).contains m=(sn.contains m || B7w m l)
 | [],sn,_=>by rw [A0j,B7w,Bool.or_false]
 | x :: l,sn,h=>by
  rw [A0j,A7m m h0 l _ (fun e he=>h e (A0P _ he)),C5u m h0 x _ (h x A0O),B7w,A3K]
end
mutual
theorem C3u (m:List UInt8) (h0:m≠[]):∀ (s:St) (sn:List (List UInt8)) (d:Nat),Q2 d s=true->(stN sn s).contains m=(sn.contains m || inS m s)
 | .mk k n t a x y p,sn,d,hv=>by
  obtain ⟨v1,v2,v3⟩:=A2e hv;rw [stN,A2x m h0 y _ _ v3,A2x m h0 x _ _ v2,A7m m h0 a _ v1,A0n,inS];have:(m == n)=(n == m):=by rw [A1W];simp;exact eq_comm
  rw [this];simp only [A3K]
theorem A2x (m:List UInt8) (h0:m≠[]):∀ (l:List St) (sn:List (List UInt8)) (d:Nat),G4 d l=true->(Z3 sn l).contains m=(sn.contains m || inB m l)
 | [],sn,d,_=>by rw [Z3,inB,Bool.or_false]
 | s :: l,sn,d,h=>by
  rw [G4,A0G] at h;rw [Z3,A2x m h0 l _ _ h.2,C3u m h0 s _ _ h.1,inB,A3K]
end
theorem B6c (m:List UInt8) (h0:m≠[]):∀ (l:List Hd) (sn:List (List UInt8)),(∀ h∈l,G4 1 h.body=true)->(l.foldl hdN sn).contains m=(sn.contains m || l.any fun h=>h.name == m || inB m h.body)
 | [],sn,_=>by simp
 | h :: l,sn,hv=>by
  rw [A3Y,B6c m h0 l _ (fun x hx=>hv x (A0P _ hx)),hdN,A2x m h0 _ _ _ (hv h A0O),A0n,List.any_cons];have:(m == h.name)=(h.name == m):=by rw [A1W];simp;exact eq_comm
  rw [this];simp only [A3K]
theorem C4b {r:Ru} (hv:Q1 r=true) (m:List UInt8) (h0:m≠[]):(ruN r).contains m=B8o r m:=by
 have hb:=A6l hv;unfold ruN B8o;have go:∀ (l:List Md) (sn:List (List UInt8)),(∀ x∈l, ∀ h∈x.hds,G4 1 h.body=true)->(l.foldl mdN sn).contains m=(sn.contains m || l.any fun x=>x.hds.any fun h=>h.name == m || inB m h.body):=by
  intro l
  induction l with
  | nil=>intro sn _;simp
  | cons x l ih =>
   intro sn h;rw [A3Y,ih _ (fun y hy=>h y (A0P _ hy)),mdN,B6c m h0 _ _ (h x A0O),List.any_cons,A3K]
 rw [go _ _ hb];rfl
theorem C7r {r:Ru} (h:Q1 r=true):∀ d∈r.decls,d.name≠[]:=by
 intro d hd e;unfold Q1 at h;simp only [A0G] at h;have h1:=A0R.1 h.1.2 d hd;unfold A0k at h1;simp only [A0G] at h1;have h2:=h1.1.1.2;rw [e] at h2;exact absurd h2 (by decide)
end Go.Pb
namespace Go.Proofs.YtnmkkggfgdfmeaaGreatDoor
open Go.Eng (IC IOper DReg IFn A7)
open Go.Sym Go.Pb
theorem B7a {H0 HH HH':Hp} {o:Option Nat} {n id:Nat} {b1 b b':Blk} (hHH:C0 H0 o b1=HH) (hn:∀ j,n<=j->H0 j=none) (ho:∀ i,o=some i->n<=i) (hx:∀ j,j<n->HH' j=HH j) (h:b=b') :
  Sym.Sub (C0 H0 (some id) b) ((H9 HH' o).upd id b'):=by
 subst h;intro j q hj;simp only [C0] at hj;by_cases e:j=id
 ·subst e;rw [A0] at hj ⊢;exact hj
 ·rw [A2 e] at hj ⊢;have hj2:j<n:=A3B fun h2=>by rw [hn j h2] at hj;cases hj
  have hHj:HH' j=some q:=by rw [hx j hj2, <- hHH,C7 (fun i hi=>by have:=ho i hi;omega)];exact hj
  cases o with
  | none=>simp only [H9];exact hHj
  | some i =>
   have:=ho i rfl;simp only [H9,Hp.del];rw [if_neg (by omega)];exact hHj
theorem c_exN:∀ (m:Nat) (l:List Ex),Ex.szs l<m->Ex.szs l<=100000000->∀ (sn:List (List UInt8)) (H:Hp) (cc mm:Nat) (hm:H mm=some (T6 sn)) (hmc:mm<cc),
  AC Tryz.prog 91 [H7 l,.mid mm] H cc (fun v H' c'=>v=.tup []/\H'=H.upd mm (T6 (A0j sn l))):=by
 intro m
 induction m with
 | zero=>intro l h;omega
 | succ m ih =>
 intro l hm hB sn H cc mm hmm hmc;have hl:=Ex.szs_len l;refine AC.body A9 isU91 (A0B rfl) fun hfr=>?_;show IW Tryz.prog 20 u91_1 ⟨B7 _,_,_⟩ (rt [] _);repeat' ((with_reducible apply wr)<;>try simp only [go_sem,seval])
 have hHt:H=H.upd mm (T6 sn):=(upd_same hmm).symm;refine B9 (fun i:Nat=>[(1,.mid mm),(6,H7 l),(7,I64 l.length),(8,I64 i)]) (fun i=>H.upd mm (T6 (A0j sn (l.take i)))) (fun i c=>cc<=c/\i<=l.length) (fun i=>l.length-i) 0 (by simp [C1,tm,Tm.upd]) (by rw [A2G,A0j, <- hHt];exact Sub.refl _) ⟨by omega,A0N _⟩ ?_;rintro i c ⟨h1c,hki⟩;by_cases hlt:i<l.length
 ·have hd:decide ((i:Int)<l.length)=true:=by simpa using hlt
  have hg:=A0C hlt;have hw:=w64 (n:=(i:Int)+1) (by omega) (by omega);have hsx:=Ex.szs_mem (A0M hlt);have het:=A9e (sn:=sn) hg;generalize l[i]=x at hg hsx het;have hax:Ex.szs x.args<x.sz:=by cases x with|mk k v n a p=>rw [Ex.sz];show Ex.szs a<_;omega
  have hc:=ih x.args (by omega) (by omega);rw [D4e] at het;generalize A0j sn (l.take i)=s0 at het ⊢;have hmu:=fun H c id u=>A9u x.name s0 H c id u;have hmB:(H.upd mm (T6 s0)) mm=some (T6 s0):=A0;have ne0:=L2 mm c (by omega);repeat' ((with_reducible apply wr)<;>try simp only [go_sem,seval,hd,hg,Ex.v_w,ne0,A0,A1,hmu])
  refine AC.call (hc (V9 s0 x.name) _ _ mm A0 (by omega)) ?_;rintro v' H' c2 ⟨rfl,rfl⟩ hc2;rw [<- het];simp only [go_sem,seval,hw];repeat' ((with_reducible apply wr)<;>try simp only [go_sem,seval,hw])
  refine ⟨i+1,by simp,?_,inv ⟨by omega,by omega⟩,by omega⟩;rw [A1];exact Z2 (fun j hj=>hfr j (by omega)) (by omega)
 have hd:decide ((i:Int)<l.length)=false:=by simpa using hlt
 rw [A0J (by omega)];repeat' ((with_reducible apply wr)<;>try simp only [go_sem,seval,hd])
 exact ⟨_,_,GL.refl _ _,rfl,rfl⟩
theorem c_stN:∀ (m:Nat) (l:List Pb.St),Pb.St.szs l<m->Pb.St.szs l<=100000000->∀ (sn:List (List UInt8)) (H:Hp) (cc mm:Nat) (hm:H mm=some (T6 sn)) (hmc:mm<cc),
  AC Tryz.prog 50 [F1 l,.mid mm] H cc (fun v H' c'=>v=.tup []/\H'=H.upd mm (T6 (Z3 sn l))):=by
 intro m
 induction m with
 | zero=>intro l h;omega
 | succ m ih =>
 intro l hm hB sn H cc mm hmm hmc;have hl:=Pb.St.szs_len l;refine AC.body A9 isU50 (A0B rfl) fun hfr=>?_;show IW Tryz.prog 28 u50_1 ⟨B7 _,_,_⟩ (rt [] _);repeat' ((with_reducible apply wr)<;>try simp only [go_sem,seval])
 have hHt:H=H.upd mm (T6 sn):=(upd_same hmm).symm;refine B9 (fun i:Nat=>[(1,.mid mm),(6,F1 l),(7,I64 l.length),(8,I64 i)]) (fun i=>H.upd mm (T6 (Z3 sn (l.take i)))) (fun i c=>cc<=c/\i<=l.length) (fun i=>l.length-i) 0 (by simp [C1,tm,Tm.upd]) (by rw [A2G,Z3, <- hHt];exact Sub.refl _) ⟨by omega,A0N _⟩ ?_;rintro i c ⟨h1c,hki⟩;by_cases hlt:i<l.length
 ·have hd:decide ((i:Int)<l.length)=true:=by simpa using hlt
  have hg:=A0C hlt;have hw:=w64 (n:=(i:Int)+1) (by omega) (by omega);have hsx:=Pb.St.szs_mem (A0M hlt);have het:=A8k (sn:=sn) hg;generalize l[i]=x at hg hsx het;have hax:Ex.szs x.args<x.sz:=by cases x with|mk k n t a x y p=>rw [Pb.St.sz];show Ex.szs a<_;omega
  have hc:=c_exN _ x.args (A2T _) (by omega);have hX:=ih x.thn (by have:=x.sz_thn;omega) (by have:=x.sz_thn;omega);have hY:=ih x.els (by have:=x.sz_els;omega) (by have:=x.sz_els;omega);rw [D1o] at het;generalize Z3 sn (l.take i)=s0 at het ⊢;have hmu:=fun H c id u=>A9u x.name s0 H c id u;have ne0:=L2 mm c (by omega);repeat' ((with_reducible apply wr)<;>try simp only [go_sem,seval,hd,hg,Pb.St.v_w,ne0,A0,A1,hmu])
  refine AC.call (hc (V9 s0 x.name) _ _ mm A0 (by omega)) ?_;rintro v' H' c2 ⟨rfl,rfl⟩ hc2;rw [A1];simp only [go_sem,seval,ne0,A0,A1];repeat' ((with_reducible apply wr)<;>try simp only [go_sem,seval,hd,hg,Pb.St.v_w,ne0,A0,A1])
  refine AC.call (hX (A0j (V9 s0 x.name) x.args) _ _ mm A0 (by omega)) ?_;rintro v' H' c3 ⟨rfl,rfl⟩ hc3;rw [A1];simp only [go_sem,seval,ne0,A0,A1];repeat' ((with_reducible apply wr)<;>try simp only [go_sem,seval,hd,hg,Pb.St.v_w,ne0,A0,A1])
  refine AC.call (hY _ _ _ mm A0 (by omega)) ?_;rintro v' H' c4 ⟨rfl,rfl⟩ hc4;rw [A1, <- het];simp only [go_sem,seval,hw];repeat' ((with_reducible apply wr)<;>try simp only [go_sem,seval,hw])
  refine ⟨i+1,by simp,?_,inv ⟨by omega,by omega⟩,by omega⟩;exact Z2 (fun j hj=>hfr j (by omega)) (by omega)
 have hd:decide ((i:Int)<l.length)=false:=by simpa using hlt
 rw [A0J (by omega)];repeat' ((with_reducible apply wr)<;>try simp only [go_sem,seval,hd])
 exact ⟨_,_,GL.refl _ _,rfl,rfl⟩
theorem c_Unused32 (r:Ru) (hB:r.sz<4000000):PC Tryz.prog 21 [r.v] (B8q r):=by
 refine PC.of A9 isU21 (A0B rfl) (by simp [Ru.v,DV.nlL,DV.nl,G6,G5]) (C3h _) ?_;have hv:=c_Valid r (by omega);have hdl:=A8h r;have hml:=A6q r;have hms:∀ m∈r.modes,m.sz<=r.sz:=fun m h=>B9c h;have hrv:r.v=.agg [D4 r.decls,E0 r.modes]:=rfl;unfold B8q;cases hvd:Q1 r with
 | false =>
  rw [hvd] at hv;rw [hrv] at hv ⊢;show IW Tryz.prog 57 u21_1 ⟨B7 _,_,_⟩ (rt [.tmp 2] _);repeat' ((with_reducible first|apply wr|refine cpc hv ?_|fail)<;>try simp only [go_sem,seval])
  exact B0b
 | true =>
 rw [if_pos rfl];rw [hvd] at hv;obtain ⟨F,hF⟩:∃ F:Nat->List (List UInt8), ∀ k,F k=((r.decls.take k).filter fun d => !B8o r d.name).map Dc.name:=⟨_,fun _=>rfl⟩;have hF0:F 0=[]:=by rw [hF];rfl
 have hFe:D1n r=F r.decls.length:=by rw [hF,A3H];rfl
 have hFl:∀ k,(F k).length<=r.decls.length:=fun k=>by
  rw [hF,A0D];refine A1G (List.length_filter_le _ _) ?_;rw [A0S];omega
 have hFs:∀ k d,r.decls[k]? = some d->F (k+1)=if (ruN r).contains d.name=true then F k else F k++[d.name]:=fun k d h=>by
  have hd0:=C7r hvd d (A0V h);rw [C4b hvd _ hd0,hF,hF,A0X,h,List.filter_append,A0W];show _++List.map Dc.name (List.filter _ [d])=_;rw [List.filter_cons];cases B8o r d.name<;>simp
 rw [hFe];rw [hrv] at hv ⊢;show IW Tryz.prog 57 u21_1 ⟨B7 _,_,_⟩ (rt [.tmp 2] _);repeat' ((with_reducible first|apply wr|refine cpc hv ?_|fail)<;>try simp only [go_sem,seval])
 obtain ⟨G0,hG0⟩:∃ G0,G0=Sym.nil.upd 0 ⟨0,true,[D4 r.decls,E0 r.modes]⟩:=⟨_,rfl⟩;have hz0:∀ b,(G0.upd 1 b) 0=some ⟨0,true,[D4 r.decls,E0 r.modes]⟩:=fun b=>by rw [A2 (by omega),hG0];exact A0
 have hzn:∀ j,1<=j->G0 j=none:=fun j hj=>by rw [hG0,A2 (by omega)];rfl
 rw [<- hG0];refine B9 (fun i:Nat=>[(1,.ptr 0 0),(3,.mid 1),(16,E0 r.modes),(17,I64 r.modes.length),(18,I64 i)]) (fun i=>G0.upd 1 (T6 ((r.modes.take i).foldl mdN []))) (fun i c=>2<=c/\i<=r.modes.length) (fun i=>r.modes.length-i) 0 (by simp [C1,tm,Tm.upd]) (Sub.refl _) ⟨by omega,A0N _⟩ ?_;rintro i c ⟨h1c,hki⟩;by_cases hlt:i<r.modes.length
 ·have hd:decide ((i:Int)<r.modes.length)=true:=by simpa using hlt
  have hg:=A0C hlt;have hw:=w64 (n:=(i:Int)+1) (by omega) (by omega);have hms:=hms _ (A0M hlt);have het:=A9b (f:=mdN) (b:=[]) hg;generalize r.modes[i]=d at hg hms het;have hhl:=B9d d;generalize (r.modes.take i).foldl mdN []=s0 at het ⊢;have ne0:=L2 1 c (by omega);repeat' ((with_reducible apply wr)<;>try simp only [go_sem,seval,hd,hg,A5g,ne0,A0,A1])
  obtain ⟨G,hG⟩:∃ G,G=G0.upd c ⟨0,true,[.str d.name,I64 d.prio,S5 d.hds,I64 d.pos]⟩:=⟨_,rfl⟩;have hGn:∀ j,c+1<=j->G j=none:=fun j hj=>by rw [hG,A2 (by omega)];exact hzn j (by omega)
  rw [A6n (by omega), <- hG];refine B9 (fun j:Nat=>[(1,.ptr 0 0),(3,.mid 1),(16,E0 r.modes),(17,I64 r.modes.length),(18,I64 i),(23,S5 d.hds),(24,I64 d.hds.length),(25,I64 j)]) (fun j=>G.upd 1 (T6 ((d.hds.take j).foldl hdN s0))) (fun j c2=>c+1<=c2/\j<=d.hds.length) (fun j=>d.hds.length-j) 0 (by simp [C1,tm,Tm.upd]) (Sub.refl _) ⟨by omega,A0N _⟩ ?_;rintro j c2 ⟨h2c,hkj⟩;by_cases hlt2:j<d.hds.length
  ·have hd2:decide ((j:Int)<d.hds.length)=true:=by simpa using hlt2
   have hg2:=A0C hlt2;have hw2:=w64 (n:=(j:Int)+1) (by omega) (by omega);have hxs:=B9e (A0M hlt2);have heH:=A9b (f:=hdN) (b:=s0) hg2;generalize d.hds[j]=x at hg2 hxs heH;have hxe:x.sz=1+x.name.length+Pb.St.szs x.body:=rfl;have hst:=c_stN _ x.body (A2T _) (by omega);generalize (d.hds.take j).foldl hdN s0=s1 at heH ⊢;have hmu:=fun H c id u=>A9u x.name s1 H c id u;have ne0:=L2 1 c2 (by omega);repeat' ((with_reducible apply wr)<;>try simp only [go_sem,seval,hd2,hg2,A0c,ne0,A0,A1,hmu])
   refine AC.call (hst (V9 s1 x.name) _ _ 1 A0 (by omega)) ?_;rintro v' H' c3 ⟨rfl,rfl⟩ hc3;rw [A1];have:Z3 (V9 s1 x.name) x.body=hdN s1 x:=rfl;rw [this, <- heH];simp only [go_sem,seval,hw2];repeat' ((with_reducible apply wr)<;>try simp only [go_sem,seval,hw2])
   refine ⟨j+1,by simp,?_,inv ⟨by omega,by omega⟩,by omega⟩;exact Z2 (fun j hj=>hGn j (by omega)) (by omega)
  have hd2:decide ((j:Int)<d.hds.length)=false:=by simpa using hlt2
  rw [A0J (by omega)];repeat' ((with_reducible apply wr)<;>try simp only [go_sem,seval,hd2,hw])
  refine ⟨i+1,by simp,?_,inv ⟨by omega,by omega⟩,by omega⟩;rw [het,hG];exact A5u (fun j hj=>hzn j (by omega)) (by omega)
 have hd:decide ((i:Int)<r.modes.length)=false:=by simpa using hlt
 rw [A0J (by omega)];have hru:r.modes.foldl mdN []=ruN r:=rfl;rw [hru];generalize ruN r=N at hFs ⊢;repeat' ((with_reducible apply wr)<;>try simp only [go_sem,seval,hd,hz0])
 clear hd hlt hki i;refine B9 (fun q:Nat × Option Nat=>[(3,.mid 1),(8,B3 q.2 (F q.1).length),(39,D4 r.decls),(40,I64 r.decls.length),(41,I64 q.1)]) (fun q=>C0 (G0.upd 1 (T6 N)) q.2 ⟨1,true,A4 ((F q.1).map DV.str)⟩)
  (fun q c=>2<=c/\q.1<=r.decls.length/\(q.2=none->F q.1=[])/\(∀ i,q.2=some i->2<=i/\i<c)) (fun q=>r.decls.length-q.1) (0,none)
  (by simp [C1,tm,Tm.upd,B3]) (Sub.refl _) ⟨h1c,A0N _,fun _=>hF0,(fun i hi=>by cases hi)⟩ ?_
 clear h1c c;rintro ⟨i,o⟩ c ⟨h1c,hk,hno,ho⟩;dsimp only at hk hno ho ⊢;have hb1:C0 (G0.upd 1 (T6 N)) o ⟨1,true,A4 ((F i).map DV.str)⟩ 1=some (T6 N):=by rw [C7 (fun i hi=>by have:=ho i hi;omega)];exact A0
 have hbn:∀ j:Nat,c<=j->C0 (G0.upd 1 (T6 N)) o ⟨1,true,A4 ((F i).map DV.str)⟩ j=none:=fun j hj=>by rw [C7 (fun i hi=>by have:=ho i hi;omega),A2 (by omega)];exact hzn j (by omega)
 have hbo2:∀ j:Nat,o=some j->C0 (G0.upd 1 (T6 N)) o ⟨1,true,A4 ((F i).map DV.str)⟩ j=some ⟨1,true,A4 ((F i).map DV.str)⟩:=fun j hj=>by subst hj;exact A0
 generalize hHH:C0 (G0.upd 1 (T6 N)) o ⟨1,true,A4 ((F i).map DV.str)⟩=HH at hb1 hbn hbo2 ⊢;by_cases hlt:i<r.decls.length
 ·have hd:decide ((i:Int)<r.decls.length)=true:=by simpa using hlt
  have hg:=A0C hlt;have hw:=w64 (n:=(i:Int)+1) (by omega) (by omega);have hFs:=hFs i _ hg;generalize r.decls[i]=d at hg hFs;have hlk:=B9r d.name N;generalize N.contains d.name=ub at hFs hlk;have ne0:=L2 1 c (by omega);cases ub with
  | true =>
   rw [if_pos rfl] at hFs;repeat' ((with_reducible apply wr)<;>try simp only [go_sem,seval,hb1,hd,hg,hw,Z8,hlk,ne0,A0,A1])
   refine ⟨(i+1,o),by simp [C1,tm,Tm.upd,hFs],?_,inv ⟨by omega,by omega,by rw [hFs];exact hno,(fun j hj=>by have:=ho j hj;omega)⟩,by simp only;omega⟩;simp only [hFs];rw [hHH];exact C3r (hbn c (A0I _))
  | false =>
   rw [if_neg (by decide)] at hFs;repeat' ((with_reducible apply wr)<;>try simp only [go_sem,seval,hb1,hd,hg,hw,Z8,hlk,ne0,A0,A1])
   have hln:(A4 ((F i).map DV.str)).length=(F i).length * 1:=(C2 (u:=1) (I4 _)).trans (by simp);have hFk:=hFl i;refine F3 (F0 (cs:=A4 ((F i).map DV.str)) (fun e=>by rw [hno e];exact ⟨rfl,rfl⟩) (fun j hj=>by have:=ho j hj;rw [A2 (by omega),A2 (by omega)];exact hbo2 j hj) hln (by omega) (by omega) (by omega)) ?_;simp only [go_sem,seval,hw];repeat' ((with_reducible apply wr)<;>try simp only [go_sem,seval,hw])
   refine ⟨(i+1,some (c+1+1)),by simp [C1,tm,Tm.upd,B3,hFs],?_,inv ⟨by omega,by omega,(fun h=>by cases h),(fun j hj=>by cases hj;omega)⟩,by simp only;omega⟩;refine B7a (n:=2) hHH (fun j hj=>by rw [A2 (by omega)];exact hzn j (by omega)) (fun i hi=>(ho i hi).1) (fun j hj=>by rw [A2 (by omega),A2 (by omega)]) ?_;simp only [hFs,A0W,C5];rfl
 have hd:decide ((i:Int)<r.decls.length)=false:=by simpa using hlt
 have hi:i=r.decls.length:=by omega
 subst hi;repeat' ((with_reducible apply wr)<;>try simp only [go_sem,seval,hd])
 rw [<- hHH];exact B1x (fun h=>by rw [hno h];rfl) (by simp) (I4 _)
end Go.Proofs.YtnmkkggfgdfmeaaGreatDoor
set_option maxHeartbeats 4000000
namespace Go.Proofs.YtnmkkggfgdfmeaaGreatDoor
open Go.Eng (IC IOper DReg IFn A7)
open Go.Sym
abbrev u22_2:=qS [oM 3 0,oM 4 0,oH 5 4,oP 6 (.mn (.t 5) (.k (.int .i64 300))),oP 7 (.slc 1 (.t 3) none (some (.t 6))),oP 8 (.bld #[.slice none 0 0,.int .i64 0,.int .i64 0] [(0,1),(1,1),(2,1)] [(0,.t 7)]),oX 9 8,oM 2 9] .ret [0]
abbrev u22_1:=qS [oV 2 (.pointer none)] u22_2 [0]
def u22:IFn:=⟨10,u22_1,[.tmp 2]⟩
theorem isU22:A7 Tryz.prog 22 u22:=by unfold A7;kernel_rfl
abbrev u53_5:=qS [oI 4 0] .ret []
abbrev u53_4:=qK u53_5 .skip (.t 14) [0,1,14]
abbrev u53_3:=qP [oM 5 0,oN 6 5,oF 7 6 1,oL 8 7,oM 9 0,oN 10 9,oF 11 10 0,oL 12 11,oH 13 12,oB 14 8 13 .geq] u53_4 0 10 [0,1]
abbrev u53_7:=qP [oM 22 0,oN 23 22,oF 24 23 0,oL 25 24,oM 26 0,oN 27 26,oF 28 27 1,oL 29 28,oK 30 29 .sub 1,oA 31 25 30 1,oL 32 31,oP 33 (.cvi .i64 (.t 32)),oM 34 1,oB 35 33 34 .rem,oM 4 35] .ret 16384 15 [0,1]
abbrev u53_6:=qS [oM 15 0,oN 16 15,oF 17 16 1,oL 18 17,oK 19 18 .add 1,oN 20 15,oF 21 20 1,oS 21 19 1] u53_7 [0,1]
abbrev u53_2:=qQ u53_3 u53_6 [0,1]
abbrev u53_1:=qS [oI 4 0] u53_2 [0,1]
def u53:IFn:=⟨36,u53_1,[.tmp 4]⟩
theorem isU53:A7 Tryz.prog 53 u53:=by unfold A7;kernel_rfl
abbrev u54_5:=qS [⟨some 26,.new (.bsl 1 10 #[.string ⟨#[]⟩] [(0,.k (.string ⟨#[115,119,48]⟩)),(1,.k (.string ⟨#[99,111,105,108,48]⟩)),(2,.k (.string ⟨#[108,97,109,112,48]⟩)),(3,.k (.string ⟨#[118,48]⟩)),(4,.k (.string ⟨#[116,109,48]⟩)),(5,.k (.string ⟨#[101,118,48]⟩)),(6,.k (.string ⟨#[109,111,100,101,48]⟩)),(7,.k (.string ⟨#[110,111,110,101]⟩)),(8,.k (.string ⟨#[115,110,100,48]⟩)),(9,.k (.string ⟨#[115,104,111,119,48]⟩))]),none⟩,oM 27 0,oC 28 53 [.t 27,.k (.int .i64 10)],oA 29 26 28 1,oL 30 29,oM 6 30] .ret [0]
abbrev u54_4:=qK u54_5 .skip (.t 25) [0,1,2,25]
abbrev u54_3:=qD [oM 7 0,oN 8 7,oF 9 8 2,oL 10 9,oK 11 10 .gtr 0,oM 12 11,gM 13 0 12,gM 14 0 12,gN 15 14 12,gF 16 15 2 12,gL 17 16 12,⟨some 18,.call 53 [.t 13,.t 17],some (12,true)⟩,gM 19 0 12,gN 20 19 12,gF 21 20 2 12,gL 22 21 12,gK 23 22 12 .sub 1,oG 24 (.bin .eql (.t 18) (.t 23)) 12,oJ 25 12 24] u54_4 [(0,none),(1,none),(2,none),(3,none),(4,none),(5,none),(6,none),(7,none),(8,none),(9,none),(10,none),(12,none),(13,none),(14,none),(15,none),(16,none),(11,some [12,13,14,15,16]),(17,none),(18,none)] 19 [0,1,2]
abbrev u54_6:=qS [oM 31 1,oM 32 0,oM 33 2,oC 34 53 [.t 32,.t 33],oC 35 55 [.t 34],oB 36 31 35 .add,oM 6 36] .ret [0,1,2]
abbrev u54_2:=qQ u54_3 u54_6 [0,1,2]
abbrev u54_1:=qS [oV 6 (.string ⟨#[]⟩)] u54_2 [0,1,2]
def u54:IFn:=⟨37,u54_1,[.tmp 6]⟩
theorem isU54:A7 Tryz.prog 54 u54:=by unfold A7;kernel_rfl
abbrev u24_5:=qS [oM 22 0,oM 23 1,oK 24 23 .sub 1,oC 25 25 [.t 22,.t 24],oM 4 25] .ret [0,1]
abbrev u24_4:=qK u24_5 .skip (.t 21) [0,1,21]
abbrev u24_3:=qS [oM 7 0,oN 8 7,oF 9 8 2,oL 10 9,oK 11 10 .gtr 0,oM 12 11,gM 13 0 12,gM 14 0 12,gN 15 14 12,gF 16 15 2 12,gL 17 16 12,oG 18 (.bin .mul (.k (.int .i64 4)) (.t 17)) 12,⟨some 19,.call 53 [.t 13,.t 18],some (12,true)⟩,gK 20 19 12 .eql 1,oJ 21 12 20] u24_4 [0,1]
abbrev u24_15:=qE [oK 32 29 .eql 1,oM 30 32] [0,29]
abbrev u24_14:=qK .skip u24_15 (.t 30) [0,29,30]
abbrev u24_13:=qS [oK 31 29 .eql 0,oM 30 31] u24_14 [0,29]
abbrev u24_17:=qS [oM 33 0,oC 34 54 [.t 33,.k (.string ⟨#[118]⟩),.k (.int .i64 3)],oM 4 34] .ret [0]
abbrev u24_20:=qS [oV 4 (.string ⟨#[112,108,97,121,101,114]⟩)] .ret []
abbrev u24_23:=qS [oV 4 (.string ⟨#[98,97,108,108]⟩)] .ret []
abbrev u24_26:=qS [oM 41 0,oC 42 54 [.t 41,.k (.string ⟨#[116,109]⟩),.k (.int .i64 2)],oP 43 (.bin .add (.k (.string ⟨#[108,101,102,116,32]⟩)) (.t 42)),oM 4 43] .ret [0]
abbrev u24_29:=qS [⟨some 46,.new (.bsl 1 4 #[.string ⟨#[]⟩] [(0,.k (.string ⟨#[50,49,52,55,52,56,51,54,52,55]⟩)),(1,.k (.string ⟨#[49,48,48,48,48,48,48]⟩)),(2,.k (.string ⟨#[54,53,53,51,54]⟩)),(3,.k (.string ⟨#[49,48,48,48,48,48]⟩))]),none⟩,oM 47 0,oC 48 53 [.t 47,.k (.int .i64 4)],oA 49 46 48 1,oL 50 49,oM 4 50] .ret [0]
abbrev u24_28:=qK u24_29 .skip (.t 44) [0,44]
abbrev u24_27:=qS [oK 45 29 .eql 5,oM 44 45] u24_28 [0,29]
abbrev u24_25:=qK u24_26 u24_27 (.t 39) [0,29,39]
abbrev u24_24:=qS [oK 40 29 .eql 4,oM 39 40] u24_25 [0,29]
abbrev u24_22:=qK u24_23 u24_24 (.t 37) [0,29,37]
abbrev u24_21:=qS [oK 38 29 .eql 3,oM 37 38] u24_22 [0,29]
abbrev u24_19:=qK u24_20 u24_21 (.t 35) [0,29,35]
abbrev u24_18:=qS [oK 36 29 .eql 2,oM 35 36] u24_19 [0,29]
abbrev u24_16:=qK u24_17 u24_18 (.t 30) [0,29,30]
abbrev u24_12:=qQ u24_13 u24_16 [0,29]
abbrev u24_11:=qJ u24_12 0 [0,29]
abbrev u24_10:=qS [oM 28 0,oC 29 53 [.t 28,.k (.int .i64 7)]] u24_11 [0]
abbrev u24_30:=qS [oM 51 0,oC 52 53 [.t 51,.k (.int .i64 12)],oC 53 55 [.t 52],oM 4 53] .ret [0]
abbrev u24_9:=qQ u24_10 u24_30 [0]
abbrev u24_8:=qK u24_9 .skip (.t 27) [0,1,27]
abbrev u24_7:=qS [oM 26 1,oK 27 26 .leq 0] u24_8 [0,1]
abbrev u24_36:=qS [oM 58 0,oC 59 24 [.t 58,.k (.int .i64 0)],oM 4 59] .ret [0]
abbrev u24_39:=qS [oM 62 0,oC 63 24 [.t 62,.k (.int .i64 0)],oP 64 (.bin .add (.k (.string ⟨#[45]⟩)) (.t 63)),oM 4 64] .ret [0]
abbrev u24_38:=qK u24_39 .skip (.t 60) [0,1,60]
abbrev u24_37:=qS [oK 61 55 .eql 1,oM 60 61] u24_38 [0,1,55]
abbrev u24_35:=qK u24_36 u24_37 (.t 56) [0,1,55,56]
abbrev u24_34:=qS [oK 57 55 .eql 0,oM 56 57] u24_35 [0,1,55]
abbrev u24_33:=qJ u24_34 1 [0,1,55]
abbrev u24_32:=qS [oM 54 0,oC 55 53 [.t 54,.k (.int .i64 5)]] u24_33 [0,1]
abbrev u24_42:=qS [oM 73 5,oP 74 (.bin .add (.k (.string ⟨#[40]⟩)) (.t 73)),oP 75 (.bin .add (.t 74) (.k (.string ⟨#[32]⟩))),⟨some 76,.new (.bsl 1 5 #[.string ⟨#[]⟩] [(0,.k (.string ⟨#[43]⟩)),(1,.k (.string ⟨#[45]⟩)),(2,.k (.string ⟨#[42]⟩)),(3,.k (.string ⟨#[47]⟩)),(4,.k (.string ⟨#[37]⟩))]),none⟩,oM 77 0,oC 78 53 [.t 77,.k (.int .i64 5)],oA 79 76 78 1,oL 80 79,oB 81 75 80 .add,oP 82 (.bin .add (.t 81) (.k (.string ⟨#[32]⟩))),oM 83 6,oB 84 82 83 .add,oP 85 (.bin .add (.t 84) (.k (.string ⟨#[41]⟩))),oM 4 85] .ret [0,5,6]
abbrev u24_41:=qS [oM 69 0,oM 70 1,oK 71 70 .sub 1,oC 72 24 [.t 69,.t 71],oM 6 72] u24_42 [0,1,5]
abbrev u24_40:=qS [oM 65 0,oM 66 1,oK 67 66 .sub 1,oC 68 24 [.t 65,.t 67],oM 5 68] u24_41 [0,1]
abbrev u24_31:=qQ u24_32 u24_40 [0,1]
abbrev u24_6:=qQ u24_7 u24_31 [0,1]
abbrev u24_2:=qQ u24_3 u24_6 [0,1]
abbrev u24_1:=qS [oV 4 (.string ⟨#[]⟩)] u24_2 [0,1]
def u24:IFn:=⟨86,u24_1,[.tmp 4]⟩
theorem isU24:A7 Tryz.prog 24 u24:=by unfold A7;kernel_rfl
abbrev u25_10:=qS [oV 4 (.string ⟨#[116,114,117,101]⟩)] .ret []
abbrev u25_13:=qS [oV 4 (.string ⟨#[102,97,108,115,101]⟩)] .ret []
abbrev u25_16:=qS [oM 18 0,oC 19 54 [.t 18,.k (.string ⟨#[109,111,100,101]⟩),.k (.int .i64 3)],oP 20 (.bin .add (.k (.string ⟨#[97,99,116,105,118,101,32]⟩)) (.t 19)),oM 4 20] .ret [0]
abbrev u25_15:=qK u25_16 .skip (.t 16) [0,16]
abbrev u25_14:=qS [oK 17 11 .eql 2,oM 16 17] u25_15 [0,11]
abbrev u25_12:=qK u25_13 u25_14 (.t 14) [0,11,14]
abbrev u25_11:=qS [oK 15 11 .eql 1,oM 14 15] u25_12 [0,11]
abbrev u25_9:=qK u25_10 u25_11 (.t 12) [0,11,12]
abbrev u25_8:=qS [oK 13 11 .eql 0,oM 12 13] u25_9 [0,11]
abbrev u25_7:=qJ u25_8 0 [0,11]
abbrev u25_6:=qS [oM 10 0,oC 11 53 [.t 10,.k (.int .i64 5)]] u25_7 [0]
abbrev u25_17:=qS [oM 21 0,oC 22 54 [.t 21,.k (.string ⟨#[115,119]⟩),.k (.int .i64 4)],oP 23 (.bin .add (.k (.string ⟨#[99,108,111,115,101,100,32]⟩)) (.t 22)),oM 4 23] .ret [0]
abbrev u25_5:=qQ u25_6 u25_17 [0]
abbrev u25_4:=qK u25_5 .skip (.t 9) [0,1,9]
abbrev u25_3:=qS [oM 8 1,oK 9 8 .leq 0] u25_4 [0,1]
abbrev u25_23:=qS [oM 28 0,oC 29 25 [.t 28,.k (.int .i64 0)],oP 30 (.bin .add (.k (.string ⟨#[33]⟩)) (.t 29)),oM 4 30] .ret [0]
abbrev u25_27:=qS [oM 37 5,oP 38 (.bin .add (.k (.string ⟨#[40]⟩)) (.t 37)),oP 39 (.bin .add (.t 38) (.k (.string ⟨#[32,38,38,32]⟩))),oM 40 0,oM 41 1,oK 42 41 .sub 1,oC 43 25 [.t 40,.t 42],oB 44 39 43 .add,oP 45 (.bin .add (.t 44) (.k (.string ⟨#[41]⟩))),oM 4 45] .ret [0,1,5]
abbrev u25_26:=qS [oM 33 0,oM 34 1,oK 35 34 .sub 1,oC 36 25 [.t 33,.t 35],oM 5 36] u25_27 [0,1]
abbrev u25_31:=qS [oM 52 6,oP 53 (.bin .add (.k (.string ⟨#[40]⟩)) (.t 52)),oP 54 (.bin .add (.t 53) (.k (.string ⟨#[32,124,124,32]⟩))),oM 55 0,oM 56 1,oK 57 56 .sub 1,oC 58 25 [.t 55,.t 57],oB 59 54 58 .add,oP 60 (.bin .add (.t 59) (.k (.string ⟨#[41]⟩))),oM 4 60] .ret [0,1,6]
abbrev u25_30:=qS [oM 48 0,oM 49 1,oK 50 49 .sub 1,oC 51 25 [.t 48,.t 50],oM 6 51] u25_31 [0,1]
abbrev u25_29:=qK u25_30 .skip (.t 46) [0,1,46]
abbrev u25_28:=qS [oK 47 25 .eql 2,oM 46 47] u25_29 [0,1,25]
abbrev u25_25:=qK u25_26 u25_28 (.t 31) [0,1,25,31]
abbrev u25_24:=qS [oK 32 25 .eql 1,oM 31 32] u25_25 [0,1,25]
abbrev u25_22:=qK u25_23 u25_24 (.t 26) [0,1,25,26]
abbrev u25_21:=qS [oK 27 25 .eql 0,oM 26 27] u25_22 [0,1,25]
abbrev u25_20:=qJ u25_21 1 [0,1,25]
abbrev u25_19:=qS [oM 24 0,oC 25 53 [.t 24,.k (.int .i64 6)]] u25_20 [0,1]
abbrev u25_33:=qD [oM 65 7,oP 66 (.bin .add (.t 65) (.k (.string ⟨#[32]⟩))),⟨some 67,.new (.bsl 1 6 #[.string ⟨#[]⟩] [(0,.k (.string ⟨#[60]⟩)),(1,.k (.string ⟨#[60,61]⟩)),(2,.k (.string ⟨#[62]⟩)),(3,.k (.string ⟨#[62,61]⟩)),(4,.k (.string ⟨#[61,61]⟩)),(5,.k (.string ⟨#[33,61]⟩))]),none⟩,oM 68 0,oC 69 53 [.t 68,.k (.int .i64 6)],oA 70 67 69 1,oL 71 70,oB 72 66 71 .add,oP 73 (.bin .add (.t 72) (.k (.string ⟨#[32]⟩))),oM 74 0,oM 75 1,oK 76 75 .sub 1,oC 77 24 [.t 74,.t 76],oB 78 73 77 .add,oM 4 78] .ret [(0,none),(1,none),(2,none),(3,none),(9,none),(10,none),(11,none),(4,some [0,1,2,9,10,11]),(5,none),(6,none),(7,none),(8,none),(12,some [0,1,2,5,6,7,8]),(13,none),(14,some [])] 15 [0,1,7]
abbrev u25_32:=qS [oM 61 0,oM 62 1,oK 63 62 .sub 1,oC 64 24 [.t 61,.t 63],oM 7 64] u25_33 [0,1]
abbrev u25_18:=qQ u25_19 u25_32 [0,1]
abbrev u25_2:=qQ u25_3 u25_18 [0,1]
abbrev u25_1:=qS [oV 4 (.string ⟨#[]⟩)] u25_2 [0,1]
def u25:IFn:=⟨79,u25_1,[.tmp 4]⟩
theorem isU25:A7 Tryz.prog 25 u25:=by unfold A7;kernel_rfl
abbrev u139_6:=qE [oI 5 0] [0,1]
abbrev u139_5:=qK u139_6 .skip (.t 23) [0,1,5,23]
abbrev u139_4:=qS [oM 10 1,oK 11 10 .leq 0,oM 12 11,gM 13 5 12,gK 14 13 12 .eql 1,gM 15 14 12,hM 16 5 15,hK 17 16 15 .eql 2,oG 18 (.pick (.t 15) (.k (.bool true)) (.t 17)) 12,gM 19 18 12,hM 20 5 19,hK 21 20 19 .eql 3,oG 22 (.pick (.t 19) (.k (.bool true)) (.t 21)) 12,oJ 23 12 22] u139_5 [0,1,5]
abbrev u139_13:=qE [oK 27 24 .eql 2,oM 25 27] [0,1,24]
abbrev u139_12:=qK .skip u139_13 (.t 25) [0,1,24,25]
abbrev u139_11:=qS [oK 26 24 .eql 1,oM 25 26] u139_12 [0,1,24]
abbrev u139_21:=qE [oM 41 6,oP 42 (.bin .add (.t 41) (.k (.string ⟨#[32,101,108,115,101,32]⟩))),oM 43 0,oM 44 1,oK 45 44 .sub 1,oC 46 107 [.t 43,.t 45],oB 47 42 46 .add,oM 6 47] [0,1,6]
abbrev u139_24:=qE [oM 50 6,oP 51 (.bin .add (.t 50) (.k (.string ⟨#[32,101,108,115,101,32,105,102,32]⟩))),oM 52 0,oC 53 25 [.t 52,.k (.int .i64 0)],oB 54 51 53 .add,oP 55 (.bin .add (.t 54) (.k (.string ⟨#[32]⟩))),oM 56 0,oM 57 1,oK 58 57 .sub 1,oC 59 107 [.t 56,.t 58],oB 60 55 59 .add,oM 6 60] [0,1,6]
abbrev u139_23:=qK u139_24 .skip (.t 48) [0,1,6,48]
abbrev u139_22:=qS [oK 49 38 .eql 2,oM 48 49] u139_23 [0,1,6,38]
abbrev u139_20:=qK u139_21 u139_22 (.t 39) [0,1,6,38,39]
abbrev u139_19:=qS [oK 40 38 .eql 1,oM 39 40] u139_20 [0,1,6,38]
abbrev u139_18:=qJ u139_19 1 [0,1,6,38]
abbrev u139_17:=qS [oM 37 0,oC 38 53 [.t 37,.k (.int .i64 3)]] u139_18 [0,1,6]
abbrev u139_25:=qS [oM 61 6,oM 4 61] .ret [6]
abbrev u139_16:=qQ u139_17 u139_25 [0,1,6]
abbrev u139_15:=qS [oM 28 0,oC 29 25 [.t 28,.k (.int .i64 1)],oP 30 (.bin .add (.k (.string ⟨#[105,102,32]⟩)) (.t 29)),oP 31 (.bin .add (.t 30) (.k (.string ⟨#[32]⟩))),oM 32 0,oM 33 1,oK 34 33 .sub 1,oC 35 107 [.t 32,.t 34],oB 36 31 35 .add,oM 6 36] u139_16 [0,1]
abbrev u139_28:=qS [oM 64 0,oC 65 24 [.t 64,.k (.int .i64 0)],oP 66 (.bin .add (.k (.string ⟨#[114,101,112,101,97,116,32]⟩)) (.t 65)),oP 67 (.bin .add (.t 66) (.k (.string ⟨#[32]⟩))),oM 68 0,oM 69 1,oK 70 69 .sub 1,oC 71 107 [.t 68,.t 70],oB 72 67 71 .add,oM 4 72] .ret [0,1]
abbrev u139_32:=qE [oK 75 24 .eql 5,oM 73 75] [0,24]
abbrev u139_31:=qK .skip u139_32 (.t 73) [0,24,73]
abbrev u139_30:=qS [oK 74 24 .eql 4,oM 73 74] u139_31 [0,24]
abbrev u139_34:=qS [oM 76 0,oC 77 24 [.t 76,.k (.int .i64 1)],oP 78 (.bin .add (.k (.string ⟨#[115,99,111,114,101,32]⟩)) (.t 77)),oP 79 (.bin .add (.t 78) (.k (.string ⟨#[59]⟩))),oM 4 79] .ret [0]
abbrev u139_37:=qD [⟨some 82,.new (.bsl 1 3 #[.string ⟨#[]⟩] [(0,.k (.string ⟨#[102,105,114,101,32]⟩)),(1,.k (.string ⟨#[104,111,108,100,32]⟩)),(2,.k (.string ⟨#[114,101,108,101,97,115,101,32]⟩))]),none⟩,oM 83 0,oC 84 53 [.t 83,.k (.int .i64 3)],oA 85 82 84 1,oL 86 85,oM 87 0,oC 88 54 [.t 87,.k (.string ⟨#[99,111,105,108]⟩),.k (.int .i64 3)],oB 89 86 88 .add,oP 90 (.bin .add (.t 89) (.k (.string ⟨#[59]⟩))),oM 4 90] .ret [(0,none),(1,none),(5,none),(2,some [0,5]),(3,none),(4,none),(6,some [0,3,4]),(7,none),(8,none),(9,some [])] 10 [0]
abbrev u139_40:=qS [oM 93 0,oC 94 54 [.t 93,.k (.string ⟨#[108,97,109,112]⟩),.k (.int .i64 4)],oP 95 (.bin .add (.k (.string ⟨#[108,105,103,104,116,32]⟩)) (.t 94)),oP 96 (.bin .add (.t 95) (.k (.string ⟨#[32]⟩))),oM 97 0,oC 98 24 [.t 97,.k (.int .i64 0)],oB 99 96 98 .add,oP 100 (.bin .add (.t 99) (.k (.string ⟨#[59]⟩))),oM 4 100] .ret [0]
abbrev u139_44:=qS [oM 110 7,oP 111 (.bin .add (.t 110) (.k (.string ⟨#[44,32]⟩))),oM 112 0,oC 113 24 [.t 112,.k (.int .i64 0)],oB 114 111 113 .add,oP 115 (.bin .add (.t 114) (.k (.string ⟨#[59]⟩))),oM 4 115] .ret [0,7]
abbrev u139_43:=qS [oM 103 0,oC 104 54 [.t 103,.k (.string ⟨#[108,97,109,112]⟩),.k (.int .i64 4)],oP 105 (.bin .add (.k (.string ⟨#[98,108,105,110,107,32]⟩)) (.t 104)),oP 106 (.bin .add (.t 105) (.k (.string ⟨#[32]⟩))),oM 107 0,oC 108 24 [.t 107,.k (.int .i64 0)],oB 109 106 108 .add,oM 7 109] u139_44 [0]
abbrev u139_47:=qS [oM 118 0,oC 119 54 [.t 118,.k (.string ⟨#[116,109]⟩),.k (.int .i64 2)],oP 120 (.bin .add (.k (.string ⟨#[115,116,97,114,116,32]⟩)) (.t 119)),oP 121 (.bin .add (.t 120) (.k (.string ⟨#[32]⟩))),oM 122 0,oC 123 24 [.t 122,.k (.int .i64 1)],oB 124 121 123 .add,oP 125 (.bin .add (.t 124) (.k (.string ⟨#[59]⟩))),oM 4 125] .ret [0]
abbrev u139_50:=qS [oM 128 0,oC 129 54 [.t 128,.k (.string ⟨#[116,109]⟩),.k (.int .i64 2)],oP 130 (.bin .add (.k (.string ⟨#[115,116,111,112,32]⟩)) (.t 129)),oP 131 (.bin .add (.t 130) (.k (.string ⟨#[59]⟩))),oM 4 131] .ret [0]
abbrev u139_53:=qS [oM 134 0,oC 135 54 [.t 134,.k (.string ⟨#[109,111,100,101]⟩),.k (.int .i64 3)],oP 136 (.bin .add (.k (.string ⟨#[98,101,103,105,110,32]⟩)) (.t 135)),oP 137 (.bin .add (.t 136) (.k (.string ⟨#[59]⟩))),oM 4 137] .ret [0]
abbrev u139_56:=qS [oM 140 0,oC 141 54 [.t 140,.k (.string ⟨#[109,111,100,101]⟩),.k (.int .i64 3)],oP 142 (.bin .add (.k (.string ⟨#[101,110,100,32]⟩)) (.t 141)),oP 143 (.bin .add (.t 142) (.k (.string ⟨#[59]⟩))),oM 4 143] .ret [0]
abbrev u139_59:=qS [oM 146 0,oC 147 54 [.t 146,.k (.string ⟨#[101,118]⟩),.k (.int .i64 2)],oP 148 (.bin .add (.k (.string ⟨#[112,111,115,116,32]⟩)) (.t 147)),oP 149 (.bin .add (.t 148) (.k (.string ⟨#[59]⟩))),oM 4 149] .ret [0]
abbrev u139_62:=qS [oM 152 0,oC 153 54 [.t 152,.k (.string ⟨#[115,110,100]⟩),.k (.int .i64 2)],oP 154 (.bin .add (.k (.string ⟨#[112,108,97,121,32]⟩)) (.t 153)),oP 155 (.bin .add (.t 154) (.k (.string ⟨#[59]⟩))),oM 4 155] .ret [0]
abbrev u139_65:=qD [⟨some 158,.new (.bsl 1 2 #[.string ⟨#[]⟩] [(0,.k (.string ⟨#[114,117,110,32]⟩)),(1,.k (.string ⟨#[104,97,108,116,32]⟩))]),none⟩,oM 159 0,oC 160 53 [.t 159,.k (.int .i64 2)],oA 161 158 160 1,oL 162 161,oM 163 0,oC 164 54 [.t 163,.k (.string ⟨#[115,104,111,119]⟩),.k (.int .i64 2)],oB 165 162 164 .add,oP 166 (.bin .add (.t 165) (.k (.string ⟨#[59]⟩))),oM 4 166] .ret [(0,none),(1,none),(5,none),(2,some [0,5]),(3,none),(4,none),(6,some [0,3,4]),(7,none),(8,none),(9,some [])] 10 [0]
abbrev u139_68:=qD [⟨some 169,.new (.bsl 1 4 #[.string ⟨#[]⟩] [(0,.k (.string ⟨#[103,111]⟩)),(1,.k (.string ⟨#[106,97,99,107,112,111,116]⟩)),(2,.k (.string ⟨#[97,92,34,98]⟩)),(3,.k (.string ⟨#[]⟩))]),none⟩,oM 170 0,oC 171 53 [.t 170,.k (.int .i64 4)],oA 172 169 171 1,oL 173 172,oP 174 (.bin .add (.k (.string ⟨#[116,101,120,116,32,34]⟩)) (.t 173)),oP 175 (.bin .add (.t 174) (.k (.string ⟨#[34,44,32]⟩))),oM 176 0,oC 177 24 [.t 176,.k (.int .i64 0)],oB 178 175 177 .add,oP 179 (.bin .add (.t 178) (.k (.string ⟨#[59]⟩))),oM 4 179] .ret [(0,none),(1,none),(7,none),(2,some [0,7]),(3,none),(4,none),(5,none),(6,none),(8,some [0,3,4,5,6]),(9,none),(10,none),(11,some [])] 12 [0]
abbrev u139_71:=qS [oV 4 (.string ⟨#[99,111,110,115,117,109,101,59]⟩)] .ret []
abbrev u139_70:=qK u139_71 .skip (.t 180) [0,180]
abbrev u139_69:=qS [oK 181 24 .eql 17,oM 180 181] u139_70 [0,24]
abbrev u139_67:=qK u139_68 u139_69 (.t 167) [0,24,167]
abbrev u139_66:=qS [oK 168 24 .eql 16,oM 167 168] u139_67 [0,24]
abbrev u139_64:=qK u139_65 u139_66 (.t 156) [0,24,156]
abbrev u139_63:=qS [oK 157 24 .eql 15,oM 156 157] u139_64 [0,24]
abbrev u139_61:=qK u139_62 u139_63 (.t 150) [0,24,150]
abbrev u139_60:=qS [oK 151 24 .eql 14,oM 150 151] u139_61 [0,24]
abbrev u139_58:=qK u139_59 u139_60 (.t 144) [0,24,144]
abbrev u139_57:=qS [oK 145 24 .eql 13,oM 144 145] u139_58 [0,24]
abbrev u139_55:=qK u139_56 u139_57 (.t 138) [0,24,138]
abbrev u139_54:=qS [oK 139 24 .eql 12,oM 138 139] u139_55 [0,24]
abbrev u139_52:=qK u139_53 u139_54 (.t 132) [0,24,132]
abbrev u139_51:=qS [oK 133 24 .eql 11,oM 132 133] u139_52 [0,24]
abbrev u139_49:=qK u139_50 u139_51 (.t 126) [0,24,126]
abbrev u139_48:=qS [oK 127 24 .eql 10,oM 126 127] u139_49 [0,24]
abbrev u139_46:=qK u139_47 u139_48 (.t 116) [0,24,116]
abbrev u139_45:=qS [oK 117 24 .eql 9,oM 116 117] u139_46 [0,24]
abbrev u139_42:=qK u139_43 u139_45 (.t 101) [0,24,101]
abbrev u139_41:=qS [oK 102 24 .eql 8,oM 101 102] u139_42 [0,24]
abbrev u139_39:=qK u139_40 u139_41 (.t 91) [0,24,91]
abbrev u139_38:=qS [oK 92 24 .eql 7,oM 91 92] u139_39 [0,24]
abbrev u139_36:=qK u139_37 u139_38 (.t 80) [0,24,80]
abbrev u139_35:=qS [oK 81 24 .eql 6,oM 80 81] u139_36 [0,24]
abbrev u139_33:=qK u139_34 u139_35 (.t 73) [0,24,73]
abbrev u139_29:=qQ u139_30 u139_33 [0,24]
abbrev u139_27:=qK u139_28 u139_29 (.t 62) [0,1,24,62]
abbrev u139_26:=qS [oK 63 24 .eql 3,oM 62 63] u139_27 [0,1,24]
abbrev u139_14:=qK u139_15 u139_26 (.t 25) [0,1,24,25]
abbrev u139_10:=qQ u139_11 u139_14 [0,1,24]
abbrev u139_9:=qJ u139_10 0 [0,1,24]
abbrev u139_8:=qS [oM 24 5] u139_9 [0,1,5]
abbrev u139_72:=qS [oM 182 0,oC 183 54 [.t 182,.k (.string ⟨#[118]⟩),.k (.int .i64 3)],oP 184 (.bin .add (.t 183) (.k (.string ⟨#[32,61,32]⟩))),oM 185 0,oC 186 24 [.t 185,.k (.int .i64 2)],oB 187 184 186 .add,oP 188 (.bin .add (.t 187) (.k (.string ⟨#[59]⟩))),oM 4 188] .ret [0]
abbrev u139_7:=qQ u139_8 u139_72 [0,1,5]
abbrev u139_3:=qQ u139_4 u139_7 [0,1,5]
abbrev u139_2:=qS [oM 8 0,oC 9 53 [.t 8,.k (.int .i64 20)],oM 5 9] u139_3 [0,1]
abbrev u139_1:=qS [oV 4 (.string ⟨#[]⟩)] u139_2 [0,1]
def u139:IFn:=⟨189,u139_1,[.tmp 4]⟩
theorem isU139:A7 Tryz.prog 139 u139:=by unfold A7;kernel_rfl
abbrev u107_8:=qK .skip (.exit 0) (.t 10) [0,1,5,6,10]
abbrev u107_7:=qS [oM 9 6,oK 10 9 .gtr 0] u107_8 [0,1,5,6]
abbrev u107_10:=qE [oM 13 5,oP 14 (.bin .add (.t 13) (.k (.string ⟨#[32]⟩))),oM 15 0,oM 16 1,oC 17 139 [.t 15,.t 16],oB 18 14 17 .add,oM 5 18] [0,1,5,6]
abbrev u107_11:=qE [oM 11 6,oK 12 11 .sub 1,oM 6 12] [0,1,5,6]
abbrev u107_9:=qB u107_10 u107_11 1 [0,1,5,6]
abbrev u107_6:=qQ u107_7 u107_9 [0,1,5,6]
abbrev u107_5:=qJ (.loop u107_6) 0 [0,1,5,6]
abbrev u107_4:=qS [oM 7 0,oC 8 53 [.t 7,.k (.int .i64 4)],oM 6 8] u107_5 [0,1,5]
abbrev u107_12:=qS [oM 19 5,oP 20 (.bin .add (.t 19) (.k (.string ⟨#[32,125]⟩))),oM 4 20] .ret [5]
abbrev u107_3:=qQ u107_4 u107_12 [0,1,5]
abbrev u107_2:=qS [oV 5 (.string ⟨#[123]⟩)] u107_3 [0,1]
abbrev u107_1:=qS [oV 4 (.string ⟨#[]⟩)] u107_2 [0,1]
def u107:IFn:=⟨21,u107_1,[.tmp 4]⟩
theorem isU107:A7 Tryz.prog 107 u107:=by unfold A7;kernel_rfl
abbrev u69_6:=qE [oM 25 0,oC 26 54 [.t 25,.k (.string ⟨#[115,119]⟩),.k (.int .i64 4)],oP 27 (.bin .add (.k (.string ⟨#[99,108,111,115,101,32]⟩)) (.t 26)),oM 5 27] [0]
abbrev u69_5:=qK u69_6 .skip (.t 24) [0,5,24]
abbrev u69_4:=qS [oM 11 0,oN 12 11,oF 13 12 2,oL 14 13,oK 15 14 .gtr 0,oM 16 15,gM 17 0 16,gM 18 0 16,gN 19 18 16,gF 20 19 2 16,gL 21 20 16,⟨some 22,.call 53 [.t 17,.t 21],some (16,true)⟩,gK 23 22 16 .eql 1,oJ 24 16 23] u69_5 [0,5]
abbrev u69_7:=qS [oM 28 5,oP 29 (.bin .add (.k (.string ⟨#[111,110,32]⟩)) (.t 28)),oP 30 (.bin .add (.t 29) (.k (.string ⟨#[32]⟩))),oM 31 0,oC 32 107 [.t 31,.k (.int .i64 2)],oB 33 30 32 .add,oM 4 33] .ret [0,5]
abbrev u69_3:=qQ u69_4 u69_7 [0,5]
abbrev u69_2:=qS [⟨some 6,.new (.bsl 1 11 #[.string ⟨#[]⟩] [(0,.k (.string ⟨#[115,116,97,114,116]⟩)),(1,.k (.string ⟨#[115,116,111,112]⟩)),(2,.k (.string ⟨#[99,108,111,115,101,32,115,119,48]⟩)),(3,.k (.string ⟨#[111,112,101,110,32,115,119,48]⟩)),(4,.k (.string ⟨#[99,108,111,115,101,32,115,119,49]⟩)),(5,.k (.string ⟨#[99,108,111,115,101,32,115,119,50]⟩)),(6,.k (.string ⟨#[116,105,109,101,114,32,116,109,48]⟩)),(7,.k (.string ⟨#[116,105,109,101,114,32,116,109,49]⟩)),(8,.k (.string ⟨#[101,118,101,110,116,32,101,118,48]⟩)),(9,.k (.string ⟨#[101,118,101,110,116,32,101,118,49]⟩)),(10,.k (.string ⟨#[111,112,101,110,32,115,119,51]⟩))]),none⟩,oM 7 1,oK 8 7 .rem 11,oA 9 6 8 1,oL 10 9,oM 5 10] u69_3 [0,1]
abbrev u69_1:=qS [oV 4 (.string ⟨#[]⟩)] u69_2 [0,1]
def u69:IFn:=⟨34,u69_1,[.tmp 4]⟩
theorem isU69:A7 Tryz.prog 69 u69:=by unfold A7;kernel_rfl
abbrev u35_9:=qK .skip (.exit 0) (.t 17) [0,3,4,17]
abbrev u35_8:=qS [oM 16 4,oK 17 16 .lss 3] u35_9 [0,3,4]
abbrev u35_18:=qK .skip (.exit 2) (.t 36) [0,3,4,5,6,36]
abbrev u35_17:=qS [oM 35 6,oK 36 35 .gtr 0] u35_18 [0,3,4,5,6]
abbrev u35_21:=qE [oM 45 5,oK 46 45 .add 1,oM 5 46] [0,3,4,5,6]
abbrev u35_20:=qS [oM 39 3,oM 40 0,oM 41 5,oC 42 69 [.t 40,.t 41],oB 43 39 42 .add,oP 44 (.bin .add (.t 43) (.k (.string ⟨#[10]⟩))),oM 3 44] u35_21 [0,3,4,5,6]
abbrev u35_22:=qE [oM 37 6,oK 38 37 .sub 1,oM 6 38] [0,3,4,5,6]
abbrev u35_19:=qB u35_20 u35_22 3 [0,3,4,5,6]
abbrev u35_16:=qQ u35_17 u35_19 [0,3,4,5,6]
abbrev u35_15:=qJ (.loop u35_16) 2 [0,3,4,5,6]
abbrev u35_14:=qS [oM 33 0,oC 34 53 [.t 33,.k (.int .i64 5)],oM 6 34] u35_15 [0,3,4,5]
abbrev u35_23:=qE [oM 47 3,oP 48 (.bin .add (.t 47) (.k (.string ⟨#[125,10]⟩))),oM 3 48] [0,3,4]
abbrev u35_13:=qQ u35_14 u35_23 [0,3,4,5]
abbrev u35_12:=qS [oM 31 0,oC 32 53 [.t 31,.k (.int .i64 11)],oM 5 32] u35_13 [0,3,4]
abbrev u35_11:=qS [oM 20 3,oP 21 (.bin .add (.t 20) (.k (.string ⟨#[109,111,100,101,32,109,111,100,101]⟩))),oM 22 4,oC 23 55 [.t 22],oB 24 21 23 .add,oP 25 (.bin .add (.t 24) (.k (.string ⟨#[32]⟩))),oM 26 0,oC 27 53 [.t 26,.k (.int .i64 4)],oC 28 55 [.t 27],oB 29 25 28 .add,oP 30 (.bin .add (.t 29) (.k (.string ⟨#[32,123,10]⟩))),oM 3 30] u35_12 [0,3,4]
abbrev u35_24:=qE [oM 18 4,oK 19 18 .add 1,oM 4 19] [0,3,4]
abbrev u35_10:=qB u35_11 u35_24 1 [0,3,4]
abbrev u35_7:=qQ u35_8 u35_10 [0,3,4]
abbrev u35_6:=qJ (.loop u35_7) 0 [0,3,4]
abbrev u35_5:=qS [oI 4 0] u35_6 [0,3]
abbrev u35_25:=qS [oM 49 3,oM 2 49] .ret [3]
abbrev u35_4:=qQ u35_5 u35_25 [0,3]
abbrev u35_3:=qS [oM 7 3,oP 8 (.bin .add (.t 7) (.k (.string ⟨#[118,97,114,32,118,48,32]⟩))),⟨some 9,.new (.bsl 1 4 #[.string ⟨#[]⟩] [(0,.k (.string ⟨#[48]⟩)),(1,.k (.string ⟨#[53]⟩)),(2,.k (.string ⟨#[45,55]⟩)),(3,.k (.string ⟨#[50,49,52,55,52,56,51,54,52,55]⟩))]),none⟩,oM 10 0,oC 11 53 [.t 10,.k (.int .i64 4)],oA 12 9 11 1,oL 13 12,oB 14 8 13 .add,oP 15 (.bin .add (.t 14) (.k (.string ⟨#[59,32,118,97,114,32,118,49,32,49,59,32,118,97,114,32,118,50,32,48,59,32,116,105,109,101,114,32,116,109,48,59,32,116,105,109,101,114,32,116,109,49,59,32,101,118,101,110,116,32,101,118,48,59,32,101,118,101,110,116,32,101,118,49,59,10]⟩))),oM 3 15] u35_4 [0,3]
abbrev u35_2:=qS [oV 3 (.string ⟨#[115,119,105,116,99,104,32,115,119,48,32,51,59,32,115,119,105,116,99,104,32,115,119,49,32,57,59,32,115,119,105,116,99,104,32,115,119,50,32,52,48,59,32,115,119,105,116,99,104,32,115,119,51,32,54,51,59,10,99,111,105,108,32,99,111,105,108,48,32,48,59,32,99,111,105,108,32,99,111,105,108,49,32,55,59,32,99,111,105,108,32,99,111,105,108,50,32,51,49,59,10,108,97,109,112,32,108,97,109,112,48,32,48,59,32,108,97,109,112,32,108,97,109,112,49,32,57,59,32,108,97,109,112,32,108,97,109,112,50,32,51,51,59,32,108,97,109,112,32,108,97,109,112,51,32,54,51,59,10,115,111,117,110,100,32,115,110,100,48,32,48,59,32,115,111,117,110,100,32,115,110,100,49,32,53,59,32,115,104,111,119,32,115,104,111,119,48,32,48,59,32,115,104,111,119,32,115,104,111,119,49,32,49,59,10]⟩)] u35_3 [0]
abbrev u35_1:=qS [oV 2 (.string ⟨#[]⟩)] u35_2 [0]
def u35:IFn:=⟨50,u35_1,[.tmp 2]⟩
theorem isU35:A7 Tryz.prog 35 u35:=by unfold A7;kernel_rfl
abbrev u14_8:=qS [oM 41 8,oK 42 41 .eql 44,oM 43 42,gM 44 7 43,gK 45 44 43 .eql 38,oJ 46 43 45,oM 47 46,gM 48 10 47,gK 49 48 47 .eql 0,oJ 50 47 49,oM 51 50,gM 52 11 51,oG 53 (.len (.t 52)) 51,gK 54 53 51 .eql 1,oJ 55 51 54,oM 56 55,gM 57 11 56,oG 58 (.iad 1 (.t 57) (.k (.int .i64 0))) 56,gL 59 58 56,oG 60 (.bin .eql (.t 59) (.k (.string ⟨#[118]⟩))) 56,oJ 61 56 60,oM 62 61,gM 63 12 62,gK 64 63 62 .eql 3,oJ 65 62 64,oM 66 65,gM 67 13 66,gK 68 67 66 .eql 3,oJ 69 66 68,oM 0 69] .ret [7,8,10,11,12,13]
abbrev u14_7:=qS [oD 37 4 2,oC 38 28 [.t 37,.k (.string ⟨#[108]⟩)],oM 36 38,oE 39 36 0,oE 40 36 1,oM 12 39,oM 13 40] u14_8 [4,7,8,10,11]
abbrev u14_6:=qS [oD 34 4 2,oC 35 21 [.t 34],oM 11 35] u14_7 [4,7,8,10]
abbrev u14_5:=qS [oD 30 4 2,oC 31 17 [.t 30],oM 29 31,oE 32 29 0,oE 33 29 1,oM 9 32,oM 10 33] u14_6 [4,7,8]
abbrev u14_4:=qS [oD 25 1 2,oC 26 17 [.t 25],oM 24 26,oE 27 24 0,oE 28 24 1,oM 7 27,oM 8 28] u14_5 [1,4]
abbrev u14_3:=qS [oC 20 15 [.k (.string ⟨#[108,97,109,112,32,108,32,51,59,32,118,97,114,32,118,32,48,59,32,109,111,100,101,32,109,32,49,32,123,32,111,110,32,115,116,97,114,116,32,123,32,108,105,103,104,116,32,108,32,56,59,32,125,32,125]⟩)],oM 19 20,oE 21 19 0,oE 22 19 1,oE 23 19 2,oW 4 (.agg #[.slice none 0 0,.slice none 0 0]),oS 4 21 2,oM 5 22,oM 6 23] u14_4 [1]
abbrev u14_2:=qS [oC 15 15 [.k (.string ⟨#[108,97,109,112,32,108,32,51,59,32,109,111,100,101,32,109,32,49,32,123,32,111,110,32,115,116,97,114,116,32,123,32,115,99,111,114,101,32,108,59,32,125,32,125]⟩)],oM 14 15,oE 16 14 0,oE 17 14 1,oE 18 14 2,oW 1 (.agg #[.slice none 0 0,.slice none 0 0]),oS 1 16 2,oM 2 17,oM 3 18] u14_3 []
abbrev u14_1:=qS [oV 0 (.bool false)] u14_2 []
def u14:IFn:=⟨70,u14_1,[.tmp 0]⟩
theorem isU14:A7 Tryz.prog 14 u14:=by unfold A7;kernel_rfl
abbrev u12_4:=qS [oM 17 3,oM 18 5,oB 19 17 18 .eql,oM 20 19,gM 21 4 20,gM 22 6 20,oG 23 (.bin .eql (.t 21) (.t 22)) 20,oJ 24 20 23,oM 2 24] .ret [3,4,5,6]
abbrev u12_3:=qS [oD 13 1 2,oC 14 34 [.t 13],oM 12 14,oE 15 12 0,oE 16 12 1,oM 5 15,oM 6 16] u12_4 [1,3,4]
abbrev u12_2:=qS [oD 8 1 2,oC 9 17 [.t 8],oM 7 9,oE 10 7 0,oE 11 7 1,oM 3 10,oM 4 11] u12_3 [1]
abbrev u12_1:=qS [oX 1 0,oV 2 (.bool false)] u12_2 [0]
def u12:IFn:=⟨25,u12_1,[.tmp 2]⟩
theorem isU12:A7 Tryz.prog 12 u12:=by unfold A7;kernel_rfl
abbrev u3_2:=qS [oM 5 0,oM 6 1,oC 7 13 [.t 5,.t 6],oC 8 12 [.t 7],oM 9 8,⟨some 10,.call 14 [],some (9,true)⟩,oJ 11 9 10,oM 4 11] .ret [0,1]
abbrev u3_1:=qS [oV 4 (.bool false)] u3_2 [0,1]
def u3:IFn:=⟨12,u3_1,[.tmp 4]⟩
abbrev u4_3:=qS [oD 16 5 2,oC 17 12 [.t 16],oM 18 17,⟨some 19,.call 14 [],some (18,true)⟩,oJ 20 18 19,oM 4 20] .ret [5]
abbrev u4_2:=qS [oM 9 0,oM 10 1,oC 11 16 [.t 9,.t 10],oC 12 15 [.t 11],oM 8 12,oE 13 8 0,oE 14 8 1,oE 15 8 2,oW 5 (.agg #[.slice none 0 0,.slice none 0 0]),oS 5 13 2,oM 6 14,oM 7 15] u4_3 [0,1]
abbrev u4_1:=qS [oV 4 (.bool false)] u4_2 [0,1]
def u4:IFn:=⟨21,u4_1,[.tmp 4]⟩
theorem isU4:A7 Tryz.prog 4 u4:=by unfold A7;kernel_rfl
abbrev u10_17:=qK (.exit 1) .skip (.t 73) [7,17,64,65,66,73]
abbrev u10_16:=qS [oF 70 17 3,oL 71 70,oH 72 71,oK 73 72 .gtr 4] u10_17 [7,17,64,65,66]
abbrev u10_22:=qS [oV 6 (.bool false)] .ret []
abbrev u10_21:=qK u10_22 .skip (.t 100) [7,64,65,66,100]
abbrev u10_20:=qS [oM 88 18,oM 89 21,oB 90 88 89 .neq,oM 91 90,hM 92 19 91,hM 93 22 91,oR 94 (.bin .neq (.t 92) (.t 93)) 91,oO 95 91 94,oM 96 95,hM 97 20 96,hM 98 23 96,oR 99 (.bin .neq (.t 97) (.t 98)) 96,oO 100 96 99] u10_21 [7,18,19,20,21,22,23,64,65,66]
abbrev u10_19:=qS [oD 82 7 2,oD 83 17 5,oC 84 27 [.t 82,.t 83],oM 81 84,oE 85 81 0,oE 86 81 1,oE 87 81 2,oM 21 85,oM 22 86,oM 23 87] u10_20 [7,17,18,19,20,64,65,66]
abbrev u10_18:=qS [oD 75 7 2,oD 76 17 5,oC 77 26 [.t 75,.t 76],oM 74 77,oE 78 74 0,oE 79 74 1,oE 80 74 2,oM 18 78,oM 19 79,oM 20 80] u10_19 [7,17,64,65,66]
abbrev u10_15:=qQ u10_16 u10_18 [7,17,64,65,66]
abbrev u10_14:=qS [oA 68 64 66 5,oD 69 68 5,oW 17 (.agg #[.int .i64 0,.int .i64 0,.string ⟨#[]⟩,.slice none 0 0,.int .i64 0]),oS 17 69 5] u10_15 [7,64,65,66]
abbrev u10_23:=qE [oK 101 66 .add 1,oM 66 101] [7,64,65,66]
abbrev u10_13:=qB u10_14 u10_23 1 [7,64,65,66]
abbrev u10_12:=qC .skip u10_13 (.exit 0) (.t 67) [7,64,65,66,67]
abbrev u10_11:=qS [oB 67 66 65 .lss] u10_12 [7,64,65,66]
abbrev u10_10:=qJ (.loop u10_11) 0 [7,64,65,66]
abbrev u10_9:=qS [oD 56 9 5,oD 57 12 5,oD 58 15 5,oD 59 4 5,oD 60 12 5,oD 61 12 5,⟨some 62,.new (.bsl 5 2 #[.int .i64 0,.int .i64 0,.string ⟨#[]⟩,.slice none 0 0,.int .i64 0] [(0,.t 60),(1,.t 61)]),none⟩,oP 63 (.bld #[.int .i64 0,.int .i64 0,.string ⟨#[]⟩,.slice none 0 0,.int .i64 0] [(0,1),(1,1),(2,1),(3,1),(4,1)] [(0,.k (.int .i64 21)),(3,.t 62)]),⟨some 64,.new (.bsl 5 5 #[.int .i64 0,.int .i64 0,.string ⟨#[]⟩,.slice none 0 0,.int .i64 0] [(0,.t 56),(1,.t 57),(2,.t 58),(3,.t 59),(4,.t 63)]),none⟩,oH 65 64,oI 66 0] u10_10 [4,7,9,12,15]
abbrev u10_24:=qS [oC 102 14 [],oM 6 102] .ret []
abbrev u10_8:=qQ u10_9 u10_24 [4,7,9,12,15]
abbrev u10_7:=qS [oM 48 2,oP 49 (.bin .rem (.t 48) (.k (.int .u8 15))),oP 50 (.cvi .i64 (.t 49)),oK 51 50 .add 10,oD 52 9 5,oD 53 12 5,⟨some 54,.new (.bsl 5 2 #[.int .i64 0,.int .i64 0,.string ⟨#[]⟩,.slice none 0 0,.int .i64 0] [(0,.t 52),(1,.t 53)]),none⟩,oP 55 (.bld #[.int .i64 0,.int .i64 0,.string ⟨#[]⟩,.slice none 0 0,.int .i64 0] [(0,1),(1,1),(2,1),(3,1),(4,1)] [(0,.t 51),(3,.t 54),(4,.k (.int .i64 5))]),oW 15 (.agg #[.int .i64 0,.int .i64 0,.string ⟨#[]⟩,.slice none 0 0,.int .i64 0]),oS 15 55 5] u10_8 [2,4,7,9,12]
abbrev u10_6:=qS [oM 42 8,oC 43 25 [.t 42,.k (.int .i64 3)],oC 44 23 [.t 43],oM 41 44,oE 45 41 0,oE 46 41 1,oE 47 41 2,oW 12 (.agg #[.int .i64 0,.int .i64 0,.string ⟨#[]⟩,.slice none 0 0,.int .i64 0]),oS 12 45 5,oM 13 46,oM 14 47] u10_7 [2,4,7,8,9]
abbrev u10_5:=qS [oM 35 8,oC 36 24 [.t 35,.k (.int .i64 3)],oC 37 23 [.t 36],oM 34 37,oE 38 34 0,oE 39 34 1,oE 40 34 2,oW 9 (.agg #[.int .i64 0,.int .i64 0,.string ⟨#[]⟩,.slice none 0 0,.int .i64 0]),oS 9 38 5,oM 10 39,oM 11 40] u10_6 [2,4,7,8]
abbrev u10_4:=qS [oM 28 8,oM 29 2,oP 30 (.bin .rem (.t 29) (.k (.int .u8 9))),oP 31 (.cvi .i64 (.t 30)),oN 32 28,oF 33 32 2,oS 33 31 1] u10_5 [2,4,7,8]
abbrev u10_3:=qS [oM 26 0,oC 27 22 [.t 26],oM 8 27] u10_4 [0,2,4,7]
abbrev u10_2:=qS [oM 24 0,oC 25 13 [.t 24,.k (.int .u8 0)],oW 7 (.agg #[.slice none 0 0,.slice none 0 0]),oS 7 25 2] u10_3 [0,2,4]
abbrev u10_1:=qS [oX 4 1,oV 6 (.bool false)] u10_2 [0,1,2]
def u10:IFn:=⟨103,u10_1,[.tmp 6]⟩
abbrev u18_8:=qK .skip (.exit 0) (.t 12) [1,2,4,5,6,12]
abbrev u18_7:=qS [oM 8 6,oF 9 2 0,oL 10 9,oH 11 10,oB 12 8 11 .lss] u18_8 [1,2,4,5,6]
abbrev u18_10:=qG [oF 15 5 0,oL 16 15,oF 17 2 0,oL 18 17,oM 19 6,oM 20 1,oB 21 19 20 .add,oF 22 2 0,oL 23 22,oH 24 23,oB 25 21 24 .rem,oA 26 18 25 4,oD 27 26 4,⟨some 28,.new (.bsl 4 1 #[.int .i64 0,.string ⟨#[]⟩,.int .i64 0,.int .i64 0] [(0,.t 27)]),none⟩,oT 29 16 28 4 40,oF 30 5 0,oS 30 29 1] [(0,none),(1,none),(2,none),(3,none),(4,none),(5,none),(6,none),(7,none),(8,none),(9,none),(10,none),(11,none),(12,none),(13,none),(14,some []),(15,none),(16,some [])] 17 [1,2,4,5,6]
abbrev u18_11:=qE [oM 13 6,oK 14 13 .add 1,oM 6 14] [1,2,4,5,6]
abbrev u18_9:=qB u18_10 u18_11 1 [1,2,4,5,6]
abbrev u18_6:=qQ u18_7 u18_9 [1,2,4,5,6]
abbrev u18_5:=qJ (.loop u18_6) 0 [1,2,4,5,6]
abbrev u18_4:=qS [oI 6 0] u18_5 [1,2,4,5]
abbrev u18_17:=qK .skip (.exit 2) (.t 35) [1,2,4,5,7,35]
abbrev u18_16:=qS [oM 31 7,oF 32 2 1,oL 33 32,oH 34 33,oB 35 31 34 .lss] u18_17 [1,2,4,5,7]
abbrev u18_19:=qG [oF 38 5 1,oL 39 38,oF 40 2 1,oL 41 40,oM 42 7,oM 43 1,oB 44 42 43 .add,oF 45 2 1,oL 46 45,oH 47 46,oB 48 44 47 .rem,oA 49 41 48 4,oD 50 49 4,⟨some 51,.new (.bsl 4 1 #[.string ⟨#[]⟩,.int .i64 0,.slice none 0 0,.int .i64 0] [(0,.t 50)]),none⟩,oT 52 39 51 4 56,oF 53 5 1,oS 53 52 1] [(0,none),(1,none),(2,none),(3,none),(4,none),(5,none),(6,none),(7,none),(8,none),(9,none),(10,none),(11,none),(12,none),(13,none),(14,some []),(15,none),(16,some [])] 17 [1,2,4,5,7]
abbrev u18_20:=qE [oM 36 7,oK 37 36 .add 1,oM 7 37] [1,2,4,5,7]
abbrev u18_18:=qB u18_19 u18_20 3 [1,2,4,5,7]
abbrev u18_15:=qQ u18_16 u18_18 [1,2,4,5,7]
abbrev u18_14:=qJ (.loop u18_15) 2 [1,2,4,5,7]
abbrev u18_13:=qS [oI 7 0] u18_14 [1,2,4,5]
abbrev u18_21:=qS [oD 54 5 2,oS 4 54 2] .ret [4,5]
abbrev u18_12:=qQ u18_13 u18_21 [1,2,4,5]
abbrev u18_3:=qQ u18_4 u18_12 [1,2,4,5]
abbrev u18_2:=qS [oW 5 (.agg #[.slice none 0 0,.slice none 0 0])] u18_3 [1,2,4]
abbrev u18_1:=qS [oX 2 0,oW 4 (.agg #[.slice none 0 0,.slice none 0 0])] u18_2 [0,1]
def u18:IFn:=⟨55,u18_1,[.cell 4 2 true]⟩
abbrev u8_7:=qS [oC 21 14 [],oM 2 21] .ret []
abbrev u8_6:=qK u8_7 .skip (.t 20) [3,20]
abbrev u8_5:=qS [oM 19 5,oK 20 19 .neq 0] u8_6 [3,5]
abbrev u8_4:=qS [oD 15 3 2,oC 16 17 [.t 15],oM 14 16,oE 17 14 0,oE 18 14 1,oM 4 17,oM 5 18] u8_5 [3]
abbrev u8_13:=qS [oV 2 (.bool false)] .ret []
abbrev u8_12:=qK u8_13 .skip (.t 38) [6,38]
abbrev u8_11:=qS [oM 31 8,oK 32 31 .neq 0,oM 33 32,oR 34 (.ld 2 true (.t 6)) 33,⟨some 35,.call 21 [.t 34],some (33,false)⟩,oR 36 (.len (.t 35)) 33,hK 37 36 33 .neq 0,oO 38 33 37] u8_12 [6,8]
abbrev u8_10:=qS [oD 27 6 2,oC 28 17 [.t 27],oM 26 28,oE 29 26 0,oE 30 26 1,oM 7 29,oM 8 30] u8_11 [6]
abbrev u8_19:=qK .skip (.exit 0) (.t 43) [6,9,43]
abbrev u8_18:=qS [oM 39 9,oF 40 6 0,oL 41 40,oH 42 41,oB 43 39 42 .lss] u8_19 [6,9]
abbrev u8_24:=qS [oV 2 (.bool false)] .ret []
abbrev u8_23:=qK u8_24 .skip (.t 60) [6,9,60]
abbrev u8_22:=qS [oM 59 11,oK 60 59 .neq 8] u8_23 [6,9,11]
abbrev u8_21:=qD [oD 47 6 2,oF 48 6 0,oL 49 48,oM 50 9,oA 51 49 50 4,oF 52 51 1,oL 53 52,⟨some 54,.new (.bsl 1 1 #[.string ⟨#[]⟩] [(0,.t 53)]),none⟩,oC 55 20 [.t 47,.t 54],oC 56 17 [.t 55],oM 46 56,oE 57 46 0,oE 58 46 1,oM 10 57,oM 11 58] u8_22 [(0,none),(1,none),(2,none),(3,none),(4,none),(5,none),(6,none),(7,none),(8,some []),(9,some []),(10,none),(11,none),(12,none),(13,some [12]),(14,some [])] 15 [6,9]
abbrev u8_25:=qE [oM 44 9,oK 45 44 .add 1,oM 9 45] [6,9]
abbrev u8_20:=qB u8_21 u8_25 1 [6,9]
abbrev u8_17:=qQ u8_18 u8_20 [6,9]
abbrev u8_16:=qJ (.loop u8_17) 0 [6,9]
abbrev u8_15:=qS [oI 9 0] u8_16 [6]
abbrev u8_26:=qS [oC 61 14 [],oM 2 61] .ret []
abbrev u8_14:=qQ u8_15 u8_26 [6]
abbrev u8_9:=qQ u8_10 u8_14 [6]
abbrev u8_8:=qD [oD 22 3 2,oD 23 3 2,oC 24 21 [.t 23],oC 25 20 [.t 22,.t 24],oW 6 (.agg #[.slice none 0 0,.slice none 0 0]),oS 6 25 2] u8_9 [(0,none),(1,none),(4,none),(2,some [0,4]),(3,some [4]),(5,some [])] 6 [3]
abbrev u8_3:=qQ u8_4 u8_8 [3]
abbrev u8_2:=qS [oM 12 0,oC 13 13 [.t 12,.k (.int .u8 0)],oW 3 (.agg #[.slice none 0 0,.slice none 0 0]),oS 3 13 2] u8_3 [0]
abbrev u8_1:=qS [oV 2 (.bool false)] u8_2 [0]
def u8:IFn:=⟨62,u8_1,[.tmp 2]⟩
abbrev u9_3:=qS [oM 11 4,oK 12 11 .eql 0,oM 13 12,⟨some 14,.call 14 [],some (13,true)⟩,oJ 15 13 14,oM 2 15] .ret [4]
abbrev u9_2:=qS [oM 6 0,oC 7 13 [.t 6,.k (.int .u8 0)],oC 8 17 [.t 7],oM 5 8,oE 9 5 0,oE 10 5 1,oM 3 9,oM 4 10] u9_3 [0]
abbrev u9_1:=qS [oV 2 (.bool false)] u9_2 [0]
def u9:IFn:=⟨16,u9_1,[.tmp 2]⟩
abbrev u16_9:=qK .skip (.exit 0) (.t 36) [1,5,8,9,36]
abbrev u16_8:=qS [oM 23 9,oK 24 23 .add 1,oM 25 1,oH 26 25,oB 27 24 26 .lss,oM 28 27,gM 29 9 28,gK 30 29 28 .lss 6,oJ 31 28 30,oM 32 31,gM 33 5 32,oG 34 (.len (.t 33)) 32,gK 35 34 32 .gtr 0,oJ 36 32 35] u16_9 [1,5,8,9]
abbrev u16_17:=qG [oM 83 5,oM 84 10,oP 85 (.slc 4 (.t 83) none (some (.t 84))),⟨some 86,.eff (.app 4 40 (.k (.slice none 0 0)) (.t 85)),none⟩,oM 87 11,oT 88 86 87 4 40,oM 89 5,oM 90 10,oK 91 90 .add 1,oP 92 (.slc 4 (.t 89) (some (.t 91)) none),oT 93 88 92 4 40,oM 5 93] [(0,none),(1,none),(2,none),(4,none),(6,none),(7,none),(8,none),(9,none),(3,some [4,6,7,8,9]),(5,some [6,7,8,9]),(10,some []),(11,some [])] 12 [1,5,8,9,10,11]
abbrev u16_20:=qG [oM 96 5,oM 97 10,oP 98 (.slc 4 (.t 96) none (some (.t 97))),⟨some 99,.eff (.app 4 40 (.k (.slice none 0 0)) (.t 98)),none⟩,oM 100 5,oM 101 10,oK 102 101 .add 1,oP 103 (.slc 4 (.t 100) (some (.t 102)) none),oT 104 99 103 4 40,oM 5 104] [(0,none),(1,none),(2,none),(4,none),(5,none),(6,none),(7,none),(3,some [4,5,6,7]),(8,some []),(9,some [])] 10 [1,5,8,9,10]
abbrev u16_21:=qG [oM 71 5,oM 72 10,oP 73 (.slc 4 (.t 71) none (some (.t 72))),⟨some 74,.eff (.app 4 40 (.k (.slice none 0 0)) (.t 73)),none⟩,oM 75 11,oT 76 74 75 4 40,oM 77 5,oM 78 10,oP 79 (.slc 4 (.t 77) (some (.t 78)) none),oT 80 76 79 4 40,oM 5 80] [(0,none),(1,none),(2,none),(4,none),(6,none),(7,none),(8,none),(3,some [4,6,7,8]),(5,some [6,7,8]),(9,some []),(10,some [])] 11 [1,5,8,9,10,11]
abbrev u16_19:=qK u16_20 u16_21 (.t 94) [1,5,8,9,10,11,94]
abbrev u16_18:=qS [oP 95 (.bin .eql (.t 70) (.k (.int .u8 1))),oM 94 95] u16_19 [1,5,8,9,10,11,70]
abbrev u16_16:=qK u16_17 u16_18 (.t 81) [1,5,8,9,10,11,70,81]
abbrev u16_15:=qS [oP 82 (.bin .eql (.t 70) (.k (.int .u8 0))),oM 81 82] u16_16 [1,5,8,9,10,11,70]
abbrev u16_14:=qJ u16_15 2 [1,5,8,9,10,11,70]
abbrev u16_13:=qS [oM 65 1,oM 66 9,oK 67 66 .add 1,oA 68 65 67 1,oL 69 68,oP 70 (.bin .quo (.t 69) (.k (.int .u8 90)))] u16_14 [1,5,8,9,10,11]
abbrev u16_12:=qS [oM 49 8,oM 50 1,oM 51 9,oK 52 51 .add 1,oA 53 50 52 1,oL 54 53,oP 55 (.cvi .i64 (.t 54)),oM 56 8,oH 57 56,oB 58 55 57 .rem,oA 59 49 58 1,oL 60 59,oC 61 36 [.t 60],oM 48 61,oE 62 48 0,oE 63 48 1,oE 64 48 2,oM 11 62,oM 12 63,oM 13 64] u16_13 [1,5,8,9,10]
abbrev u16_11:=qS [oM 39 1,oM 40 9,oA 41 39 40 1,oL 42 41,oP 43 (.cvi .i64 (.t 42)),oM 44 5,oH 45 44,oB 46 43 45 .mul,oK 47 46 .quo 256,oM 10 47] u16_12 [1,5,8,9]
abbrev u16_22:=qE [oM 37 9,oK 38 37 .add 2,oM 9 38] [1,5,8,9]
abbrev u16_10:=qB u16_11 u16_22 1 [1,5,8,9]
abbrev u16_7:=qQ u16_8 u16_10 [1,5,8,9]
abbrev u16_6:=qJ (.loop u16_7) 0 [1,5,8,9]
abbrev u16_5:=qS [oI 9 0] u16_6 [1,5,8]
abbrev u16_23:=qS [oM 105 5,oC 106 39 [.t 105],oM 4 106] .ret [5]
abbrev u16_4:=qQ u16_5 u16_23 [1,5,8]
abbrev u16_3:=qS [⟨some 22,.new (.bsl 1 30 #[.string ⟨#[]⟩] [(0,.k (.string ⟨#[123]⟩)),(1,.k (.string ⟨#[125]⟩)),(2,.k (.string ⟨#[40]⟩)),(3,.k (.string ⟨#[41]⟩)),(4,.k (.string ⟨#[59]⟩)),(5,.k (.string ⟨#[44]⟩)),(6,.k (.string ⟨#[61]⟩)),(7,.k (.string ⟨#[43]⟩)),(8,.k (.string ⟨#[45]⟩)),(9,.k (.string ⟨#[42]⟩)),(10,.k (.string ⟨#[33]⟩)),(11,.k (.string ⟨#[60]⟩)),(12,.k (.string ⟨#[61,61]⟩)),(13,.k (.string ⟨#[38,38]⟩)),(14,.k (.string ⟨#[105,102]⟩)),(15,.k (.string ⟨#[101,108,115,101]⟩)),(16,.k (.string ⟨#[114,101,112,101,97,116]⟩)),(17,.k (.string ⟨#[111,110]⟩)),(18,.k (.string ⟨#[109,111,100,101]⟩)),(19,.k (.string ⟨#[120]⟩)),(20,.k (.string ⟨#[55]⟩)),(21,.k (.string ⟨#[34,115,34]⟩)),(22,.k (.string ⟨#[99,108,111,115,101,100]⟩)),(23,.k (.string ⟨#[108,101,102,116]⟩)),(24,.k (.string ⟨#[116,114,117,101]⟩)),(25,.k (.string ⟨#[115,116,97,114,116]⟩)),(26,.k (.string ⟨#[116,105,109,101,114]⟩)),(27,.k (.string ⟨#[118,97,114]⟩)),(28,.k (.string ⟨#[115,99,111,114,101]⟩)),(29,.k (.string ⟨#[99,111,110,115,117,109,101]⟩))]),none⟩,oM 8 22] u16_4 [1,5]
abbrev u16_2:=qS [oM 15 0,oC 16 22 [.t 15],oC 17 35 [.t 16],oC 18 36 [.t 17],oM 14 18,oE 19 14 0,oE 20 14 1,oE 21 14 2,oM 5 19,oM 6 20,oM 7 21] u16_3 [0,1]
abbrev u16_1:=qS [oV 4 (.string ⟨#[]⟩)] u16_2 [0,1]
def u16:IFn:=⟨107,u16_1,[.tmp 4]⟩
theorem isU16:A7 Tryz.prog 16 u16:=by unfold A7;kernel_rfl
end Go.Proofs.YtnmkkggfgdfmeaaGreatDoor
set_option maxHeartbeats 8000000
namespace Go.Proofs.YtnmkkggfgdfmeaaGreatDoor
open Go.Eng (IC IOper DReg IFn A7)
open Go.Sym Go.Pb
theorem D1c (r:Ru):∃ a b:Int,A7q r=.tup [I64 a,I64 b]:=by
 unfold A7q erV;repeat' split
 all_goals exact ⟨_,_,rfl⟩
theorem c_checks (r:Ru) (hB:r.sz<4000000):PC Tryz.prog 12 [r.v] (.bool true):=by
 have h1:=c_Check32 r hB;have h2:=c_CheckR r hB;obtain ⟨a,b,hab⟩:=D1c r;rw [hab] at h1 h2;refine PC.of A9 isU12 (A0B rfl) (by simp [Ru.v,DV.nlL,DV.nl,G6,G5]) rfl ?_;have hrv:r.v=.agg [D4 r.decls,E0 r.modes]:=rfl;rw [hrv] at h1 h2 ⊢;show IW Tryz.prog 25 u12_1 ⟨B7 _,_,_⟩ (rt [.tmp 2] _);repeat' ((with_reducible first|apply wr|refine cpc h1 ?_|refine cpc h2 ?_|fail)<;>try simp only [go_sem,seval])
 all_goals exact A6 rfl
def C5c:List UInt8:=[108,97,109,112,32,108,32,51,59,32,109,111,100,101,32,109,32,49,32,123,32,111,110,32,115,116,97,114,116,32,123,32,115,99,111,114,101,32,108,59,32,125,32,125]
def C5b:List UInt8:=[108,97,109,112,32,108,32,51,59,32,118,97,114,32,118,32,48,59,32,109,111,100,101,32,109,32,49,32,123,32,111,110,32,115,116,97,114,116,32,123,32,108,105,103,104,116,32,108,32,56,59,32,125,32,125]
def ru1:Ru:=⟨[⟨3,[108],3,0⟩],[⟨[109],1,[⟨1,[],[.mk 4 [] [] [.mk 2 0 [108] [] 38] [] [] 32],21⟩],10⟩]⟩
def ru2:Ru:=⟨[⟨3,[108],3,0⟩,⟨6,[118],0,10⟩],[⟨[109],1,[⟨1,[],[.mk 8 [108] [] [.mk 1 8 [] [] 49] [] [] 41],30⟩],19⟩]⟩
theorem C0j {s:List UInt8} {L:List Tok} {r:Ru} {i:Nat} {p o q:Int} (h1:F4 s=(L,0,0)) (N:Nat) (h2:∀ n,A4a L s.length (n+N) rd0=some (r,⟨i,0,p,o,q⟩)):X2 s=(r,0,0):=by
 have hE:Evt (fun f=>A4a L s.length f rd0) (r,⟨i,0,p,o,q⟩):=⟨N,fun f hf=>by
  obtain ⟨n,rfl⟩:∃ n,f=n+N:=⟨f-N,by omega⟩;exact h2 n⟩
 have hr:=Evt.uniq (A4b L s.length) hE;unfold X2;dsimp only;rw [h1];dsimp only;rw [if_neg (by decide),hr,if_neg (by show ¬ ((0:Int) == 0)=false;decide)]
theorem par1:X2 C5c=(ru1,0,0):=C0j (L:=(F4 C5c).1) (by decide +kernel) 40 (fun n=>rfl)
theorem par2:X2 C5b=(ru2,0,0):=C0j (L:=(F4 C5b).1) (by decide +kernel) 40 (fun n=>rfl)
theorem chk1:A7q ru1=.tup [I64 38,I64 44]:=by rfl
theorem chk2:A7q ru2=.tup [I64 0,I64 0]:=by rfl
theorem unu2:B8q ru2=.lst [.str [118]]:=by rfl
theorem lok2:C0z ru2 [108]=.tup [I64 3,I64 3]:=by rfl
theorem c_sane:PC Tryz.prog 14 [] (.bool true):=by
 have p1:=c_Parse C5c (by decide);have p2:=c_Parse C5b (by decide);rw [par1] at p1;rw [par2] at p2;have k1:=c_Check32 ru1 (by decide);have k2:=c_Check32 ru2 (by decide);rw [chk1] at k1;rw [chk2] at k2;have u2:=c_Unused32 ru2 (by decide);rw [unu2] at u2;have l2:=c_Lookup32 ru2 [108] (by decide);rw [lok2] at l2;dsimp only [C0k] at p1 p2;have e1:ru1.v=.agg [D4 ru1.decls,E0 ru1.modes]:=rfl;have e2:ru2.v=.agg [D4 ru2.decls,E0 ru2.modes]:=rfl;rw [e1] at p1 k1;rw [e2] at p2 k2 u2 l2;generalize ru1.decls.map Dc.v=d1 at *;generalize ru1.modes.map Md.v=m1 at *;generalize ru2.decls.map Dc.v=d2 at *;generalize ru2.modes.map Md.v=m2 at *;unfold C5c at p1;unfold C5b at p2;refine PC.of A9 isU14 (A0B rfl) (by simp [DV.nlL,DV.nl]) (by simp [DV.nlL,DV.nl]) ?_;show IW Tryz.prog 70 u14_1 ⟨B7 _,_,_⟩ (rt [.tmp 0] _);repeat' ((with_reducible first|apply wr|refine cpc p1 ?_|refine cpc p2 ?_|refine cpc k1 ?_|refine cpc k2 ?_|refine cpc u2 ?_|refine cpc l2 ?_|fail)<;>try simp only [go_sem,seval])
 all_goals exact A6 rfl
end Go.Proofs.YtnmkkggfgdfmeaaGreatDoor
namespace Go.Pb
variable [Go.Sym.Tab]
open Go.Sym
def nxK (L:List UInt8) (n i:Nat):Nat × Nat:=if h:i<L.length then ((L[i]).toNat % n,i+1) else (0,i)
def A0a:List (List UInt8):=[[115,119,48],[99,111,105,108,48],[108,97,109,112,48],[118,48],[116,109,48],[101,118,48],[109,111,100,101,48],[110,111,110,101],[115,110,100,48],[115,104,111,119,48]]
def nmK (L:List UInt8) (w:Nat) (p:List UInt8) (n i:Nat):List UInt8 × Nat :=
 let a:=nxK L w i
 if 0<w/\a.1+1=w then
  let b:=nxK L 10 a.2
  (A0a.getD b.1 [],b.2)
 else
  let b:=nxK L n (if 0<w then a.2 else i)
  (p++Q5 (b.1:Int),b.2)
theorem U8 (L:List UInt8) {n:Nat} (i:Nat) (h:0<n):(nxK L n i).1<n:=by
 unfold nxK;split
 ·exact Nat.mod_lt _ h
 ·exact h
abbrev Mk:=List UInt8 × Nat
def D4m:List (List UInt8):=[[50,49,52,55,52,56,51,54,52,55],[49,48,48,48,48,48,48],[54,53,53,51,54],[49,48,48,48,48,48]]
def B8j:List (List UInt8):=[[43],[45],[42],[47],[37]]
def C2s:List (List UInt8):=[[60],[60,61],[62],[62,61],[61,61],[33,61]]
def bl0 (L:List UInt8) (w i:Nat):Mk :=
 let k:=nxK L 5 i
 if k.1=0 then ([116,114,117,101],k.2)
 else if k.1=1 then ([102,97,108,115,101],k.2)
 else if k.1=2 then let a:=nmK L w [109,111,100,101] 3 k.2;([97,99,116,105,118,101,32]++a.1,a.2)
 else let a:=nmK L w [115,119] 4 k.2;([99,108,111,115,101,100,32]++a.1,a.2)
def in1 (L:List UInt8) (w i:Nat):Mk :=
 let k:=nxK L 7 i
 if k.1=0\/k.1=1 then nmK L w [118] 3 k.2
 else if k.1=2 then ([112,108,97,121,101,114],k.2)
 else if k.1=3 then ([98,97,108,108],k.2)
 else if k.1=4 then let a:=nmK L w [116,109] 2 k.2;([108,101,102,116,32]++a.1,a.2)
 else if k.1=5 then let j:=nxK L 4 k.2;(D4m.getD j.1 [],j.2)
 else let j:=nxK L 12 k.2;(Q5 (j.1:Int),j.2)
def wlK (L:List UInt8) (w:Nat) (f g:Nat->Mk) (i:Nat):Mk :=
 let k:=nxK L (4 * w) i
 if 0<w/\k.1=1 then f k.2 else g (if 0<w then k.2 else i)
def in0 (L:List UInt8) (w:Nat):Nat->Mk:=wlK L w (bl0 L w) (in1 L w)
mutual
def inK (L:List UInt8) (w:Nat):Nat->Nat->Mk
 | 0,i=>in0 L w i
 | d+1,i=>wlK L w (blK L w d) (fun i =>
   let k:=nxK L 5 i
   if k.1=0 then in0 L w k.2
   else if k.1=1 then let a:=in0 L w k.2;([45]++a.1,a.2)
   else
    let a:=inK L w d k.2
    let c:=inK L w d a.2
    let o:=nxK L 5 c.2
    (((((([40]++a.1)++[32])++B8j.getD o.1 [])++[32])++c.1)++[41],o.2)) i
def blK (L:List UInt8) (w:Nat):Nat->Nat->Mk
 | 0,i=>bl0 L w i
 | d+1,i =>
  let k:=nxK L 6 i
  if k.1=0 then let a:=bl0 L w k.2;([33]++a.1,a.2)
  else if k.1=1 then
   let a:=blK L w d k.2
   let c:=blK L w d a.2
   (((([40]++a.1)++[32,38,38,32])++c.1)++[41],c.2)
  else if k.1=2 then
   let a:=blK L w d k.2
   let c:=blK L w d a.2
   (((([40]++a.1)++[32,124,124,32])++c.1)++[41],c.2)
  else
   let a:=inK L w d k.2
   let o:=nxK L 6 a.2
   let c:=inK L w d o.2
   (((a.1++[32])++C2s.getD o.1 [])++[32]++c.1,c.2)
end
end Go.Pb
namespace Go.Proofs.YtnmkkggfgdfmeaaGreatDoor
open Go.Eng (IC IOper DReg IFn A7)
open Go.Sym Go.Pb
abbrev mkB (L:List UInt8) (w i:Nat):Blk:=⟨0,true,[.lst (bytesC L),I64 i,I64 w]⟩
theorem A2o {L:List UInt8} {i:Nat} {b:UInt8} (h:L[i]? = some b):(bytesC L)[i]? = some (.int .u8 (b.toNat:Int)):=by
 simp [bytesC,h]
theorem c_Next (L:List UInt8) (hL:L.length<=300) (w i:Nat) (hi:i<=300) (n:Nat) (hn:0<n) (hn2:n<=1000) (H:Hp) (cc t:Nat) (ht:H t=some (mkB L w i)) (htc:t<cc) :
  AC Tryz.prog 53 [.ptr t 0,I64 n] H cc (fun v H' c'=>v=I64 (nxK L n i).1/\H'=H.upd t (mkB L w (nxK L n i).2)):=by
 refine AC.body A9 isU53 (A0B rfl) fun hfr=>?_;show IW Tryz.prog 36 u53_1 ⟨B7 _,_,_⟩ (rt [.tmp 4] _);have hlen:(bytesC L).length=L.length:=by simp [bytesC]
 unfold nxK;by_cases hlt:i<L.length
 ·have hd:decide ((i:Int)≥L.length)=false:=by simp;omega
  have hg:=A2o (A0C hlt);rw [dif_pos hlt];generalize L[i]=b at hg;have hw:=w64 (n:=(i:Int)+1) (by omega) (by omega);have hw3:IntKind.i64.wrap ((i:Int)+1-1)=(i:Int):=by rw [w64 (by omega) (by omega)];omega
  have hb:=b.toNat_lt;have hw4:=w64 (n:=(b.toNat:Int)) (by omega) (by omega);have hrm:binR .rem (.int .i64 (b.toNat:Int)) (I64 (n:Int))=some (I64 ((b.toNat % n:Nat):Int)):=by
   rw [A8p (by omega)];rfl
  repeat' ((with_reducible apply wr)<;>try simp only [go_sem,seval,ht,hd,hg,hw,hw3,hw4,hrm,hlen,A0,A1])
  exact ⟨_,_,GL.refl _ _,rfl,rfl⟩
 ·have hd:decide ((i:Int)≥L.length)=true:=by simp;omega
  rw [dif_neg hlt];repeat' ((with_reducible apply wr)<;>try simp only [go_sem,seval,ht,hd,hlen,A0,A1])
  exact ⟨_,_,GL.refl _ _,rfl,(upd_same ht).symm⟩
theorem F8 {L:List UInt8} (hL:L.length<=300) {n i:Nat} (hi:i<=300):(nxK L n i).2<=300:=by
 unfold nxK;split<;>simp<;>omega
theorem c_name32 (L:List UInt8) (hL:L.length<=300) (w i:Nat) (hw:w<=100) (hi:i<=300) (p:List UInt8) (hp:p.length<=100) (n:Nat) (hn:0<n) (hn2:n<=1000) (H:Hp) (cc t:Nat) (ht:H t=some (mkB L w i)) (htc:t<cc) :
  AC Tryz.prog 54 [.ptr t 0,.str p,I64 n] H cc (fun v H' c'=>v=.str (nmK L w p n i).1/\H'=H.upd t (mkB L w (nmK L w p n i).2)):=by
 refine AC.body A9 isU54 (A0B rfl) fun hfr=>?_;show IW Tryz.prog 37 u54_1 ⟨B7 _,_,_⟩ (rt [.tmp 6] _);unfold nmK;by_cases h0:0<w
 ·have q0:decide ((w:Int)>0)=true:=by simpa using h0
  repeat' ((with_reducible apply wr)<;>try simp only [go_sem,seval,ht,q0,A0,A1])
  refine AC.call (c_Next L hL w i hi w h0 (by omega) _ _ t ht (by omega)) ?_;rintro v' H' c2 ⟨rfl,rfl⟩ hc2;have hi2:=F8 hL (n:=w) hi;have hw1:=w64 (n:=(w:Int)-1) (by omega) (by omega);simp only [go_sem,seval,A0,A1];repeat' ((with_reducible apply wr)<;>try simp only [go_sem,seval,A0,A1,hw1])
  refine ⟨by and_intros<;>(rw [A2 (by omega)];exact hfr _ (by omega)),?_⟩;by_cases hq:(nxK L w i).1+1=w
  ·have qq:(((nxK L w i).1:Int) == IntKind.i64.wrap ((w:Int)-1))=true:=by rw [hw1];simp;omega
   rw [if_pos ⟨h0,hq⟩];repeat' ((with_reducible apply wr)<;>try simp only [go_sem,seval,A0,A1,qq])
   refine AC.call (c_Next L hL w _ hi2 10 (by decide) (by decide) _ _ t (by rw [A2 (by omega)];exact A0) (by omega)) ?_;rintro v' H' c3 ⟨rfl,rfl⟩ hc3;have hlt:=U8 L (nxK L w i).2 (n:=10) (by decide);generalize (nxK L 10 (nxK L w i).2)=kq at hlt ⊢;obtain ⟨k,i3⟩:=kq;dsimp only at hlt ⊢;have hia:M6 1 (.slc c2 0 10) (I64 (k:Int))=some (.ptr c2 k):=by simp [M6];omega
   have hld:([.str [115,119,48],.str [99,111,105,108,48],.str [108,97,109,112,48],.str [118,48],.str [116,109,48],.str [101,118,48],.str [109,111,100,101,48],.str [110,111,110,101],.str [115,110,100,48],.str [115,104,111,119,48]]:List DV)[k]? = some (.str (A0a.getD k [])):=by
    match k,hlt with
    | 0,_=>rfl
    | 1,_=>rfl
    | 2,_=>rfl
    | 3,_=>rfl
    | 4,_=>rfl
    | 5,_=>rfl
    | 6,_=>rfl
    | 7,_=>rfl
    | 8,_=>rfl
    | 9,_=>rfl
   have ne0:=L2 t c2 (by omega);generalize hWL:([.str [115,119,48],.str [99,111,105,108,48],.str [108,97,109,112,48],.str [118,48],.str [116,109,48],.str [101,118,48],.str [109,111,100,101,48],.str [110,111,110,101],.str [115,110,100,48],.str [115,104,111,119,48]]:List DV)=WL at hld ⊢;simp only [go_sem,seval,A0,A1,ne0,hia,hld];repeat' ((with_reducible apply wr)<;>try simp only [go_sem,seval,A0,A1,ne0,hia,hld])
   refine ⟨_,_,GL.less' (fun j b hj=>?_),rfl,rfl⟩;by_cases e:j=t
   ·subst e;rw [A0] at hj ⊢;exact hj
   ·rw [A2 e] at hj;have:j≠c2:=by rintro rfl;rw [hfr _ (by omega)] at hj;cases hj
    rw [A2 e,A2 this,A2 e];exact hj
  ·have qq:(((nxK L w i).1:Int) == IntKind.i64.wrap ((w:Int)-1))=false:=by rw [hw1];simp;omega
   rw [if_neg (fun h=>hq h.2),if_pos h0];repeat' ((with_reducible apply wr)<;>try simp only [go_sem,seval,A0,A1,qq])
   refine AC.call (c_Next L hL w _ hi2 n hn hn2 _ _ t A0 (by omega)) ?_;rintro v' H' c3 ⟨rfl,rfl⟩ hc3;have hlt:=U8 L (nxK L w i).2 hn;have hdc:=c_Dec' ((nxK L n (nxK L w i).2).1:Int) (by omega) (by omega);have hdl:=P5 (n:=((nxK L n (nxK L w i).2).1:Int)) (by omega) (by omega);have hadd:=M8 (s:=p) (t:=Q5 ((nxK L n (nxK L w i).2).1:Int)) (by omega);simp only [go_sem,seval,A1];repeat' ((with_reducible first|apply wr|refine cpc hdc ?_|fail)<;>try simp only [go_sem,seval,A0,A1,hadd])
   exact ⟨_,_,GL.refl _ _,rfl,rfl⟩
 ·have q0:decide ((w:Int)>0)=false:=by simpa using h0
  rw [if_neg (fun h=>h0 h.1),if_neg h0];repeat' ((with_reducible apply wr)<;>try simp only [go_sem,seval,ht,q0,A0,A1])
  refine ⟨by and_intros<;>exact hfr _ (by omega),?_⟩;repeat' ((with_reducible apply wr)<;>try simp only [go_sem,seval,ht,q0,A0,A1])
  refine AC.call (c_Next L hL w i hi n hn hn2 _ _ t ht (by omega)) ?_;rintro v' H' c2 ⟨rfl,rfl⟩ hc2;have hlt:=U8 L i hn;have hdc:=c_Dec' ((nxK L n i).1:Int) (by omega) (by omega);have hdl:=P5 (n:=((nxK L n i).1:Int)) (by omega) (by omega);have hadd:=M8 (s:=p) (t:=Q5 ((nxK L n i).1:Int)) (by omega);simp only [go_sem,seval];repeat' ((with_reducible first|apply wr|refine cpc hdc ?_|fail)<;>try simp only [go_sem,seval,A0,A1,hadd])
  exact ⟨_,_,GL.refl _ _,rfl,rfl⟩
theorem A3f {L:List UInt8} (hL:L.length<=300) {w n i:Nat} {p:List UInt8} (hi:i<=300):(nmK L w p n i).2<=300:=by
 unfold nmK;dsimp only;split
 ·exact F8 hL (F8 hL hi)
 ·split
  ·exact F8 hL (F8 hL hi)
  ·exact F8 hL hi
theorem W4 {L:List UInt8} {w n i:Nat} {p:List UInt8} (hn:0<n) (hn2:n<=1000):(nmK L w p n i).1.length<=p.length+100:=by
 unfold nmK;dsimp only;split
 ·have:=U8 L (nxK L w i).2 (n:=10) (by decide);generalize (nxK L 10 (nxK L w i).2).1=k at this
  match k,this with
  | 0,_=>simp [A0a]
  | 1,_=>simp [A0a]
  | 2,_=>simp [A0a]
  | 3,_=>simp [A0a]
  | 4,_=>simp [A0a]
  | 5,_=>simp [A0a]
  | 6,_=>simp [A0a]
  | 7,_=>simp [A0a]
  | 8,_=>simp [A0a]
  | 9,_=>simp [A0a]
 ·have:=U8 L (if 0<w then (nxK L w i).2 else i) hn;have h:=P5 (n:=((nxK L n (if 0<w then (nxK L w i).2 else i)).1:Int)) (by omega) (by omega);rw [A0A];omega
theorem c_bl0 (L:List UInt8) (hL:L.length<=300) (w:Nat) (hw:w<=100) (i:Nat) (hi:i<=300) (d:Int) (hd:d<=0) (H:Hp) (cc t:Nat) (ht:H t=some (mkB L w i)) (htc:t<cc) :
  AC Tryz.prog 25 [.ptr t 0,I64 d] H cc (fun v H' c'=>v=.str (bl0 L w i).1/\H'=H.upd t (mkB L w (bl0 L w i).2)):=by
 refine AC.body A9 isU25 (A0B rfl) fun hfr=>?_;show IW Tryz.prog 79 u25_1 ⟨B7 _,_,_⟩ (rt [.tmp 4] _);have qd:decide (d<=0)=true:=by simpa using hd
 unfold bl0;repeat' ((with_reducible apply wr)<;>try simp only [go_sem,seval,qd])
 refine AC.call (c_Next L hL w i hi 5 (by decide) (by decide) _ _ t ht (by omega)) ?_;rintro v' H' c2 ⟨rfl,rfl⟩ hc2;have hi2:=F8 hL (n:=5) hi;generalize nxK L 5 i=k at hi2 ⊢;obtain ⟨k,i2⟩:=k;dsimp only at hi2 ⊢;by_cases k0:k=0
 ·subst k0;simp only [go_sem,seval];repeat' ((with_reducible apply wr)<;>try simp only [go_sem,seval])
  exact ⟨_,_,GL.refl _ _,rfl,rfl⟩
 have q0:((k:Int) == 0)=false:=by simpa using k0
 rw [if_neg k0];by_cases k1:k=1
 ·subst k1;simp only [go_sem,seval];repeat' ((with_reducible apply wr)<;>try simp only [go_sem,seval])
  exact ⟨_,_,GL.refl _ _,rfl,rfl⟩
 have q1:((k:Int) == 1)=false:=by simp;omega
 rw [if_neg k1];by_cases k2:k=2
 ·subst k2;rw [if_pos rfl];simp only [go_sem,seval];repeat' ((with_reducible apply wr)<;>try simp only [go_sem,seval])
  refine AC.call (c_name32 L hL w i2 hw hi2 [109,111,100,101] (by decide) 3 (by decide) (by decide) _ _ t A0 (by omega)) ?_;rintro v' H' c3 ⟨rfl,rfl⟩ hc3;have hl:=W4 (L:=L) (w:=w) (i:=i2) (p:=[109,111,100,101]) (n:=3) (by decide) (by decide);generalize nmK L w [109,111,100,101] 3 i2=a at hl ⊢;have hadd:=M8 (s:=[97,99,116,105,118,101,32]) (t:=a.1) (by simp at hl ⊢;omega);simp only [go_sem,seval,A1,hadd];repeat' ((with_reducible apply wr)<;>try simp only [go_sem,seval,A1,hadd])
  exact ⟨_,_,GL.refl _ _,rfl,rfl⟩
 have q2:((k:Int) == 2)=false:=by simp;omega
 rw [if_neg k2];simp only [go_sem,seval,q0,q1,q2];repeat' ((with_reducible apply wr)<;>try simp only [go_sem,seval,q0,q1,q2])
 refine AC.call (c_name32 L hL w i2 hw hi2 [115,119] (by decide) 4 (by decide) (by decide) _ _ t A0 (by omega)) ?_;rintro v' H' c3 ⟨rfl,rfl⟩ hc3;have hl:=W4 (L:=L) (w:=w) (i:=i2) (p:=[115,119]) (n:=4) (by decide) (by decide);generalize nmK L w [115,119] 4 i2=a at hl ⊢;have hadd:=M8 (s:=[99,108,111,115,101,100,32]) (t:=a.1) (by simp at hl ⊢;omega);simp only [go_sem,seval,A1,hadd];repeat' ((with_reducible apply wr)<;>try simp only [go_sem,seval,A1,hadd])
 exact ⟨_,_,GL.refl _ _,rfl,rfl⟩
theorem A1n {H:Hp} {cc t c2:Nat} {b0 b1 b:Blk} {ds:List DV} (hfr:∀ i,cc<=i->H i=none) (htc:t<cc) (hc:cc<=c2):GL (((H.upd t b0).upd c2 b1).upd t b) ds (H.upd t b) ds:=GL.less' fun j q hj=>by
 by_cases e:j=t
 ·subst e;rw [A0] at hj ⊢;exact hj
 ·rw [A2 e] at hj;have:j≠c2:=by rintro rfl;rw [hfr _ (by omega)] at hj;cases hj
  rw [A2 e,A2 this,A2 e];exact hj
theorem c_in0 (L:List UInt8) (hL:L.length<=300) (w:Nat) (hw:w<=100) (i:Nat) (hi:i<=300) (d:Int) (hd:d<=0) (hd2 : -1000<=d) (H:Hp) (cc t:Nat) (ht:H t=some (mkB L w i)) (htc:t<cc) :
  AC Tryz.prog 24 [.ptr t 0,I64 d] H cc (fun v H' c'=>v=.str (in0 L w i).1/\H'=H.upd t (mkB L w (in0 L w i).2)):=by
 refine AC.body A9 isU24 (A0B rfl) fun hfr=>?_;show IW Tryz.prog 86 u24_1 ⟨B7 _,_,_⟩ (rt [.tmp 4] _);have qd:decide (d<=0)=true:=by simpa using hd
 have kI:∀ (j c0:Nat),j<=300->cc<=c0->IW Tryz.prog 86 u24_6 ⟨tm [(0,.ptr t 0),(1,I64 d)],H.upd t (mkB L w j),c0⟩ (rt [.tmp 4] fun v H' c' => ∃ v2 H2,GL H' [v] H2 [v2]/\v2=.str (in1 L w j).1/\H2=H.upd t (mkB L w (in1 L w j).2)):=by
  intro j c0 hj hc0;unfold in1;repeat' ((with_reducible apply wr)<;>try simp only [go_sem,seval,qd])
  refine AC.call (c_Next L hL w j hj 7 (by decide) (by decide) _ _ t A0 (by omega)) ?_;rintro v' H' c2 ⟨rfl,rfl⟩ hc2;rw [A1];have hi2:=F8 hL (n:=7) hj;generalize nxK L 7 j=k at hi2 ⊢;obtain ⟨k,i2⟩:=k;dsimp only at hi2 ⊢;by_cases k0:k=0
  ·subst k0;rw [if_pos (.inl rfl)];simp only [go_sem,seval];repeat' ((with_reducible apply wr)<;>try simp only [go_sem,seval])
   refine AC.call (c_name32 L hL w i2 hw hi2 [118] (by decide) 3 (by decide) (by decide) _ _ t A0 (by omega)) ?_;rintro v' H' c3 ⟨rfl,rfl⟩ hc3;rw [A1];simp only [go_sem,seval];repeat' ((with_reducible apply wr)<;>try simp only [go_sem,seval])
   exact ⟨_,_,GL.refl _ _,rfl,rfl⟩
  have q0:((k:Int) == 0)=false:=by simpa using k0
  by_cases k1:k=1
  ·subst k1;rw [if_pos (.inr rfl)];simp only [go_sem,seval];repeat' ((with_reducible apply wr)<;>try simp only [go_sem,seval])
   refine AC.call (c_name32 L hL w i2 hw hi2 [118] (by decide) 3 (by decide) (by decide) _ _ t A0 (by omega)) ?_;rintro v' H' c3 ⟨rfl,rfl⟩ hc3;rw [A1];simp only [go_sem,seval];repeat' ((with_reducible apply wr)<;>try simp only [go_sem,seval])
   exact ⟨_,_,GL.refl _ _,rfl,rfl⟩
  have q1:((k:Int) == 1)=false:=by simp;omega
  rw [if_neg (by omega)];by_cases k2:k=2
  ·subst k2;simp only [go_sem,seval];repeat' ((with_reducible apply wr)<;>try simp only [go_sem,seval])
   exact ⟨_,_,GL.refl _ _,rfl,rfl⟩
  have q2:((k:Int) == 2)=false:=by simp;omega
  rw [if_neg k2];by_cases k3:k=3
  ·subst k3;simp only [go_sem,seval];repeat' ((with_reducible apply wr)<;>try simp only [go_sem,seval])
   exact ⟨_,_,GL.refl _ _,rfl,rfl⟩
  have q3:((k:Int) == 3)=false:=by simp;omega
  rw [if_neg k3];by_cases k4:k=4
  ·subst k4;rw [if_pos rfl];simp only [go_sem,seval];repeat' ((with_reducible apply wr)<;>try simp only [go_sem,seval])
   refine AC.call (c_name32 L hL w i2 hw hi2 [116,109] (by decide) 2 (by decide) (by decide) _ _ t A0 (by omega)) ?_;rintro v' H' c3 ⟨rfl,rfl⟩ hc3;have hl:=W4 (L:=L) (w:=w) (i:=i2) (p:=[116,109]) (n:=2) (by decide) (by decide);generalize nmK L w [116,109] 2 i2=a at hl ⊢;have hadd:=M8 (s:=[108,101,102,116,32]) (t:=a.1) (by simp at hl ⊢;omega);simp only [go_sem,seval,A1,hadd];repeat' ((with_reducible apply wr)<;>try simp only [go_sem,seval,A1,hadd])
   exact ⟨_,_,GL.refl _ _,rfl,rfl⟩
  have q4:((k:Int) == 4)=false:=by simp;omega
  rw [if_neg k4];by_cases k5:k=5
  ·subst k5;rw [if_pos rfl];simp only [go_sem,seval];repeat' ((with_reducible apply wr)<;>try simp only [go_sem,seval])
   refine AC.call (c_Next L hL w i2 hi2 4 (by decide) (by decide) _ _ t (by rw [A2 (by omega)];exact A0) (by omega)) ?_;rintro v' H' c3 ⟨rfl,rfl⟩ hc3;have hlt:=U8 L i2 (n:=4) (by decide);generalize (nxK L 4 i2)=kq at hlt ⊢;obtain ⟨k,i3⟩:=kq;dsimp only at hlt ⊢;have hia:M6 1 (.slc c2 0 4) (I64 (k:Int))=some (.ptr c2 k):=by simp [M6];omega
   have hld:([.str [50,49,52,55,52,56,51,54,52,55],.str [49,48,48,48,48,48,48],.str [54,53,53,51,54],.str [49,48,48,48,48,48]]:List DV)[k]? = some (.str (D4m.getD k [])):=by
    match k,hlt with
    | 0,_=>rfl
    | 1,_=>rfl
    | 2,_=>rfl
    | 3,_=>rfl
   have ne0:=L2 t c2 (by omega);generalize hWL:([.str [50,49,52,55,52,56,51,54,52,55],.str [49,48,48,48,48,48,48],.str [54,53,53,51,54],.str [49,48,48,48,48,48]]:List DV)=WL at hld ⊢;simp only [go_sem,seval,A0,A1,ne0,hia,hld];repeat' ((with_reducible apply wr)<;>try simp only [go_sem,seval,A0,A1,ne0,hia,hld])
   exact ⟨_,_,A1n hfr htc (by omega),rfl,rfl⟩
  have q5:((k:Int) == 5)=false:=by simp;omega
  rw [if_neg k5];simp only [go_sem,seval,q0,q1,q2,q3,q4,q5];repeat' ((with_reducible apply wr)<;>try simp only [go_sem,seval,q0,q1,q2,q3,q4,q5])
  refine AC.call (c_Next L hL w i2 hi2 12 (by decide) (by decide) _ _ t A0 (by omega)) ?_;rintro v' H' c3 ⟨rfl,rfl⟩ hc3;rw [A1];have hlt:=U8 L i2 (n:=12) (by decide);have hdc:=c_Dec' ((nxK L 12 i2).1:Int) (by omega) (by omega);simp only [go_sem,seval];repeat' ((with_reducible first|apply wr|refine cpc hdc ?_|fail)<;>try simp only [go_sem,seval])
  exact ⟨_,_,GL.refl _ _,rfl,rfl⟩
 unfold in0 wlK;by_cases h0:0<w
 ·have q0:decide ((w:Int)>0)=true:=by simpa using h0
  have hw4:IntKind.i64.wrap (4 * (w:Int))=((4 * w:Nat):Int):=by rw [w64 (by omega) (by omega)];omega
  repeat' ((with_reducible apply wr)<;>try simp only [go_sem,seval,ht,q0,hw4])
  refine AC.call (c_Next L hL w i hi (4 * w) (by omega) (by omega) _ _ t ht (by omega)) ?_;rintro v' H' c2 ⟨rfl,rfl⟩ hc2;have hi2:=F8 hL (n:=4 * w) hi;generalize nxK L (4 * w) i=k at hi2 ⊢;obtain ⟨k,i2⟩:=k;dsimp only at hi2 ⊢;by_cases k1:k=1
  ·subst k1;rw [if_pos ⟨h0,rfl⟩];have hw1:=w64 (n:=d-1) (by omega) (by omega);simp only [go_sem,seval];repeat' ((with_reducible apply wr)<;>try simp only [go_sem,seval,hw1])
   refine AC.call (c_bl0 L hL w hw i2 hi2 (d-1) (by omega) _ _ t A0 (by omega)) ?_;rintro v' H' c3 ⟨rfl,rfl⟩ hc3;rw [A1];simp only [go_sem,seval];repeat' ((with_reducible apply wr)<;>try simp only [go_sem,seval])
   exact ⟨_,_,GL.refl _ _,rfl,rfl⟩
  have q1:((k:Int) == 1)=false:=by simp;omega
  rw [if_neg (fun h=>k1 h.2),if_pos h0];simp only [go_sem,seval,q1];repeat' ((with_reducible first|refine G8 (p:=IW _ _ u24_6 _ _) ?_|refine wr ?_|fail)<;>try simp only [go_sem,seval,q1])
  exact IW.stage (by simp [C1,tm,Tm.upd]) (kI i2 _ hi2 hc2)
 ·have q0:decide ((w:Int)>0)=false:=by simpa using h0
  rw [if_neg (fun h=>h0 h.1),if_neg h0];have hHt:H=H.upd t (mkB L w i):=(upd_same ht).symm;repeat' ((with_reducible first|refine G8 (p:=IW _ _ u24_6 _ _) ?_|refine wr ?_|fail)<;>try simp only [go_sem,seval,ht,q0])
  have:=kI i cc hi (A0I _);rw [upd_same ht] at this;exact IW.stage (by simp [C1,tm,Tm.upd]) this
def lnB:Nat->Nat
 | 0=>300
 | d+1=>2 * lnB d+300
theorem C5a (d:Nat):300<=lnB d:=by cases d<;>simp only [lnB]<;>omega
def A7w (n:Nat) (f:Nat->Mk):Prop:=∀ i,i<=300->(f i).1.length<=n/\(f i).2<=300
theorem B0e {L:List UInt8} (hL:L.length<=300) (w:Nat):A7w 300 (bl0 L w):=by
 intro i hi;unfold bl0;dsimp only;have h2:=F8 hL (n:=5) hi;split
 ·exact ⟨by simp,h2⟩
 ·split
  ·exact ⟨by simp,h2⟩
  ·split
   ·have:=W4 (L:=L) (w:=w) (i:=(nxK L 5 i).2) (p:=[109,111,100,101]) (n:=3) (by decide) (by decide);exact ⟨by simp at this ⊢;omega,A3f hL h2⟩
   ·have:=W4 (L:=L) (w:=w) (i:=(nxK L 5 i).2) (p:=[115,119]) (n:=4) (by decide) (by decide);exact ⟨by simp at this ⊢;omega,A3f hL h2⟩
theorem N3 {l:List (List UInt8)} {n:Nat} (h:∀ x∈l,x.length<=n) (k:Nat):(l.getD k []).length<=n:=by
 rw [A1C];cases hk:l[k]? with
 | none=>simp
 | some x=>exact h x (A0V hk)
theorem C9j {L:List UInt8} (hL:L.length<=300) (w:Nat):A7w 300 (in1 L w):=by
 intro i hi;unfold in1;dsimp only;have h2:=F8 hL (n:=7) hi;split
 ·have:=W4 (L:=L) (w:=w) (i:=(nxK L 7 i).2) (p:=[118]) (n:=3) (by decide) (by decide);exact ⟨by simp at this ⊢;omega,A3f hL h2⟩
 ·split
  ·exact ⟨by simp,h2⟩
  ·split
   ·exact ⟨by simp,h2⟩
   ·split
    ·have:=W4 (L:=L) (w:=w) (i:=(nxK L 7 i).2) (p:=[116,109]) (n:=2) (by decide) (by decide);exact ⟨by simp at this ⊢;omega,A3f hL h2⟩
    ·split
     ·exact ⟨A1G (N3 (n:=300) (by decide) _) (by decide),F8 hL h2⟩
     ·have hlt:=U8 L (nxK L 7 i).2 (n:=12) (by decide);have h:=P5 (n:=((nxK L 12 (nxK L 7 i).2).1:Int)) (by omega) (by omega);exact ⟨A1G h (by decide),F8 hL h2⟩
theorem C6r {L:List UInt8} (hL:L.length<=300) {w n:Nat} {f g:Nat->Mk} (hf:A7w n f) (hg:A7w n g):A7w n (wlK L w f g):=by
 intro i hi;unfold wlK;dsimp only;have h2:=F8 hL (n:=4 * w) hi;split
 ·exact hf _ h2
 ·split
  ·exact hg _ h2
  ·exact hg _ hi
theorem A7w.mono {n m:Nat} {f:Nat->Mk} (h:A7w n f) (hnm:n<=m):A7w m f:=fun i hi=>⟨A1G (h i hi).1 hnm,(h i hi).2⟩
theorem B0d {L:List UInt8} (hL:L.length<=300) (w:Nat):A7w 300 (in0 L w):=C6r hL (B0e hL w) (C9j hL w)
theorem A3d {L:List UInt8} (hL:L.length<=300) (w:Nat):∀ d,A7w (lnB d) (inK L w d)/\A7w (lnB d) (blK L w d)
 | 0=>⟨fun i hi=>by rw [inK];exact B0d hL w i hi,fun i hi=>by rw [blK];exact B0e hL w i hi⟩
 | d+1=>by
  obtain ⟨h1,h2⟩:=A3d hL w d;have h300:=C5a d;have e:lnB (d+1)=2 * lnB d+300:=rfl;refine ⟨fun i hi=>?_,fun i hi=>?_⟩
  ·rw [inK];refine C6r hL (h2.mono (by omega)) (fun i hi=>?_) i hi;dsimp only;have hk:=F8 hL (n:=5) hi;split
   ·exact (B0d hL w).mono (by omega) _ hk
   ·split
    ·have:=B0d hL w _ hk;exact ⟨by simp;omega,this.2⟩
    ·have ha:=h1 _ hk;have hc:=h1 _ ha.2;refine ⟨?_,F8 hL hc.2⟩;have ho:=N3 (l:=B8j) (n:=5) (by decide) (nxK L 5 (inK L w d (inK L w d (nxK L 5 i).2).2).2).1;simp only [A0A,A0E,A0F];omega
  ·rw [blK];dsimp only;have hk:=F8 hL (n:=6) hi;split
   ·have:=B0e hL w _ hk;exact ⟨by simp;omega,this.2⟩
   ·split
    ·have ha:=h2 _ hk;have hc:=h2 _ ha.2;exact ⟨by simp only [A0A,A0E,A0F];omega,hc.2⟩
    ·split
     ·have ha:=h2 _ hk;have hc:=h2 _ ha.2;exact ⟨by simp only [A0A,A0E,A0F];omega,hc.2⟩
     ·have ha:=h1 _ hk;have ho:=F8 hL (n:=6) ha.2;have hc:=h1 _ ho;have hg:=N3 (l:=C2s) (n:=5) (by decide) (nxK L 6 (inK L w d (nxK L 6 i).2).2).1;exact ⟨by simp only [A0A,A0E,A0F];omega,hc.2⟩
def InC (L:List UInt8) (w d:Nat):Prop:=∀ (i:Nat) (hi:i<=300) (H:Hp) (cc t:Nat) (ht:H t=some (mkB L w i)) (htc:t<cc),
  AC Tryz.prog 24 [.ptr t 0,I64 d] H cc (fun v H' c'=>v=.str (inK L w d i).1/\H'=H.upd t (mkB L w (inK L w d i).2))
def BlC (L:List UInt8) (w d:Nat):Prop:=∀ (i:Nat) (hi:i<=300) (H:Hp) (cc t:Nat) (ht:H t=some (mkB L w i)) (htc:t<cc),
  AC Tryz.prog 25 [.ptr t 0,I64 d] H cc (fun v H' c'=>v=.str (blK L w d i).1/\H'=H.upd t (mkB L w (blK L w d i).2))
theorem B6j {G:Hp} {k t:Nat} {b:Blk} (h:¬ t=k):L3 (G.upd k b) [k] t=G t:=by
 simp only [L3];rw [if_neg (by simpa using h),A2 h]
theorem A6b {X:Hp} {k t:Nat} {B:Blk} (h:¬ t=k):H8 [k] X ((L3 X [k]).upd t B)=X.upd t B:=by
 funext j
 simp only [H8];by_cases e:j=k
 ·subst e;rw [if_pos (by simp),A2 (Ne.symm h)]
 ·rw [if_neg (by simpa using e)];by_cases e2:j=t
  ·subst e2;rw [A0,A0]
  ·rw [A2 e2,A2 e2];simp only [L3];rw [if_neg (by simpa using e)]
theorem c_bl1 (L:List UInt8) (hL:L.length<=300) (w:Nat) (hw:w<=100) (d:Nat) (hd:d<=10) (h1:InC L w d) (h2:BlC L w d):BlC L w (d+1):=by
 intro i hi H cc t ht htc;obtain ⟨o1,o2⟩:=A3d hL w d;have hB:lnB d<=1000000:=by
  have:∀ d,d<=10->lnB d<=1000000:=by decide
  exact this d hd
 refine AC.body A9 isU25 (A0B rfl) fun hfr=>?_;show IW Tryz.prog 79 u25_1 ⟨B7 _,_,_⟩ (rt [.tmp 4] _);have qd:decide (((d+1:Nat):Int)<=0)=false:=by simp<;>omega
 have hw1:IntKind.i64.wrap (((d+1:Nat):Int)-1)=(d:Int):=by rw [w64 (by omega) (by omega)];omega
 rw [blK];dsimp only;generalize hD:((d+1:Nat):Int)=D at qd hw1 ⊢;repeat' ((with_reducible apply wr)<;>try simp only [go_sem,seval,qd])
 refine AC.call (c_Next L hL w i hi 6 (by decide) (by decide) _ _ t ht (by omega)) ?_;rintro v' H' c2 ⟨rfl,rfl⟩ hc2;have hi2:=F8 hL (n:=6) hi;generalize nxK L 6 i=k at hi2 ⊢;obtain ⟨k,i2⟩:=k;dsimp only at hi2 ⊢;by_cases k0:k=0
 ·subst k0;rw [if_pos rfl];simp only [go_sem,seval];repeat' ((with_reducible apply wr)<;>try simp only [go_sem,seval])
  refine AC.call (c_bl0 L hL w hw i2 hi2 0 (by omega) _ _ t A0 (by omega)) ?_;rintro v' H' c3 ⟨rfl,rfl⟩ hc3;have hl:=(B0e hL w i2 hi2).1;have hadd:=M8 (s:=[33]) (t:=(bl0 L w i2).1) (by simp;omega);rw [A1];simp only [go_sem,seval,hadd];repeat' ((with_reducible apply wr)<;>try simp only [go_sem,seval,hadd])
  exact ⟨_,_,GL.refl _ _,rfl,rfl⟩
 have q0:((k:Int) == 0)=false:=by simpa using k0
 rw [if_neg k0];by_cases k1:k=1
 ·subst k1;rw [if_pos rfl];simp only [go_sem,seval];repeat' ((with_reducible apply wr)<;>try simp only [go_sem,seval,hw1])
  refine AC.call (h2 i2 hi2 _ _ t A0 (by omega)) ?_;rintro v' H' c3 ⟨rfl,rfl⟩ hc3;have hl:=o2 i2 hi2;generalize blK L w d i2=a at hl ⊢;have a1:=M8 (s:=[40]) (t:=a.1) (by simp;omega);have a2:=M8 (s:=40 :: a.1) (t:=[32,38,38,32]) (by simp;omega);rw [A1];simp only [go_sem,seval,a1,a2];repeat' ((with_reducible apply wr)<;>try simp only [go_sem,seval,hw1,a1,a2])
  refine AC.call (h2 a.2 hl.2 _ _ t A0 (by omega)) ?_;rintro v' H' c4 ⟨rfl,rfl⟩ hc4;have hl2:=o2 a.2 hl.2;generalize blK L w d a.2=c at hl2 ⊢;have a3:=M8 (s:=40 :: (a.1++[32,38,38,32])) (t:=c.1) (by simp;omega);have a4:=M8 (s:=40 :: (a.1++[32,38,38,32]++c.1)) (t:=[41]) (by simp;omega);rw [A1];simp only [go_sem,seval,a3,a4];repeat' ((with_reducible apply wr)<;>try simp only [go_sem,seval,a3,a4])
  refine ⟨_,_,GL.refl _ _,?_,rfl⟩;simp
 have q1:((k:Int) == 1)=false:=by simp;omega
 rw [if_neg k1];by_cases k2:k=2
 ·subst k2;rw [if_pos rfl];simp only [go_sem,seval];repeat' ((with_reducible apply wr)<;>try simp only [go_sem,seval,hw1])
  refine AC.call (h2 i2 hi2 _ _ t A0 (by omega)) ?_;rintro v' H' c3 ⟨rfl,rfl⟩ hc3;have hl:=o2 i2 hi2;generalize blK L w d i2=a at hl ⊢;have a1:=M8 (s:=[40]) (t:=a.1) (by simp;omega);have a2:=M8 (s:=40 :: a.1) (t:=[32,124,124,32]) (by simp;omega);rw [A1];simp only [go_sem,seval,a1,a2];repeat' ((with_reducible apply wr)<;>try simp only [go_sem,seval,hw1,a1,a2])
  refine AC.call (h2 a.2 hl.2 _ _ t A0 (by omega)) ?_;rintro v' H' c4 ⟨rfl,rfl⟩ hc4;have hl2:=o2 a.2 hl.2;generalize blK L w d a.2=c at hl2 ⊢;have a3:=M8 (s:=40 :: (a.1++[32,124,124,32])) (t:=c.1) (by simp;omega);have a4:=M8 (s:=40 :: (a.1++[32,124,124,32]++c.1)) (t:=[41]) (by simp;omega);rw [A1];simp only [go_sem,seval,a3,a4];repeat' ((with_reducible apply wr)<;>try simp only [go_sem,seval,a3,a4])
  refine ⟨_,_,GL.refl _ _,?_,rfl⟩;simp
 have q2:((k:Int) == 2)=false:=by simp;omega
 rw [if_neg k2];simp only [go_sem,seval,q0,q1,q2];repeat' ((with_reducible apply wr)<;>try simp only [go_sem,seval,q0,q1,q2,hw1])
 refine AC.call (h1 i2 hi2 _ _ t A0 (by omega)) ?_;rintro v' H' c3 ⟨rfl,rfl⟩ hc3;have hl:=o1 i2 hi2;generalize inK L w d i2=a at hl ⊢;have a1:=M8 (s:=a.1) (t:=[32]) (by simp;omega);rw [A1];simp only [go_sem,seval,a1,hw1];repeat' ((with_reducible apply wr)<;>try simp only [go_sem,seval,hw1,a1])
 refine AC.call (c_Next L hL w a.2 hl.2 6 (by decide) (by decide) _ _ t (by rw [B6j (by omega)];exact A0) (by omega)) ?_;rintro v' H' c4 ⟨rfl,rfl⟩ hc4;have hlt:=U8 L a.2 (n:=6) (by decide);have ho2:=F8 hL (n:=6) hl.2;generalize nxK L 6 a.2=kq at hlt ho2 ⊢;obtain ⟨k3,i3⟩:=kq;dsimp only at hlt ho2 ⊢;have hmg:∀ (X:Hp) (B:Blk),H8 [c3+2] X ((L3 X [c3+2]).upd t B)=X.upd t B:=fun X B=>A6b (by omega);have hia:M6 1 (.slc (c3+2) 0 6) (I64 (k3:Int))=some (.ptr (c3+2) k3):=by simp [M6];omega
 have hld:([.str [60],.str [60,61],.str [62],.str [62,61],.str [61,61],.str [33,61]]:List DV)[k3]? = some (.str (C2s.getD k3 [])):=by
  match k3,hlt with
  | 0,_=>rfl
  | 1,_=>rfl
  | 2,_=>rfl
  | 3,_=>rfl
  | 4,_=>rfl
  | 5,_=>rfl
 have hg:=N3 (l:=C2s) (n:=5) (by decide) k3;generalize C2s.getD k3 []=og at hg hld ⊢;generalize hWL:([.str [60],.str [60,61],.str [62],.str [62,61],.str [61,61],.str [33,61]]:List DV)=WL at hld ⊢;have ne0:=L2 t (c3+2) (by omega);have a2:=M8 (s:=a.1++[32]) (t:=og) (by simp;omega);have a3:=M8 (s:=a.1++[32]++og) (t:=[32]) (by simp;omega);simp only [go_sem,seval,hmg,A0,A1,ne0,hia,hld,a1,a2,a3,hw1];refine ⟨by and_intros<;>first|rfl|(rw [<- hWL];done)|((repeat rw [A2 (by omega)]);exact hfr _ (by omega)),?_⟩;refine AC.call (h1 i3 ho2 _ _ t (by simp only [L3];rw [if_neg (by simp;omega)];exact A0) (by omega)) ?_;rintro v' H' c5 ⟨rfl,rfl⟩ hc5;have hl3:=o1 i3 ho2;generalize inK L w d i3=c at hl3 ⊢;have a4:=M8 (s:=a.1++[32]++og++[32]) (t:=c.1) (by simp;omega);simp only [go_sem,seval,hmg,A0,A1,ne0,hia,hld,a1,a2,a3,a4,hw1];refine ⟨by and_intros<;>first|rfl|(rw [<- hWL];done)|((repeat rw [A2 (by omega)]);exact hfr _ (by omega)),?_⟩;repeat' ((with_reducible apply wr)<;>try simp only [go_sem,seval])
 exact ⟨_,_,A1n hfr htc (by omega),by simp,rfl⟩
def in2 (L:List UInt8) (w d i:Nat):Mk :=
 let k:=nxK L 5 i
 if k.1=0 then in0 L w k.2
 else if k.1=1 then let a:=in0 L w k.2;([45]++a.1,a.2)
 else
  let a:=inK L w d k.2
  let c:=inK L w d a.2
  let o:=nxK L 5 c.2
  (((((([40]++a.1)++[32])++B8j.getD o.1 [])++[32])++c.1)++[41],o.2)
theorem c_in2 (L:List UInt8) (hL:L.length<=300) (w:Nat) (hw:w<=100) (d:Nat) (hd:d<=10) (h1:InC L w d) (h2:BlC L w d):InC L w (d+1):=by
 intro i hi H cc t ht htc;obtain ⟨o1,o2⟩:=A3d hL w d;have hB:lnB d<=1000000:=by
  have:∀ d,d<=10->lnB d<=1000000:=by decide
  exact this d hd
 refine AC.body A9 isU24 (A0B rfl) fun hfr=>?_;show IW Tryz.prog 86 u24_1 ⟨B7 _,_,_⟩ (rt [.tmp 4] _);have qd:decide (((d+1:Nat):Int)<=0)=false:=by simp<;>omega
 have hw1:IntKind.i64.wrap (((d+1:Nat):Int)-1)=(d:Int):=by rw [w64 (by omega) (by omega)];omega
 rw [show inK L w (d+1) i=wlK L w (blK L w d) (in2 L w d) i from by rw [inK];rfl];generalize hD:((d+1:Nat):Int)=D at qd hw1 ⊢;have kI:∀ (j c0:Nat),j<=300->cc<=c0->IW Tryz.prog 86 u24_6 ⟨tm [(0,.ptr t 0),(1,I64 D)],H.upd t (mkB L w j),c0⟩ (rt [.tmp 4] fun v H' c' => ∃ v2 H2,GL H' [v] H2 [v2]/\v2=.str (in2 L w d j).1/\H2=H.upd t (mkB L w (in2 L w d j).2)):=by
  intro j c0 hj hc0;unfold in2;repeat' ((with_reducible apply wr)<;>try simp only [go_sem,seval,qd])
  refine AC.call (c_Next L hL w j hj 5 (by decide) (by decide) _ _ t A0 (by omega)) ?_;rintro v' H' c2 ⟨rfl,rfl⟩ hc2;rw [A1];have hi2:=F8 hL (n:=5) hj;generalize nxK L 5 j=k at hi2 ⊢;obtain ⟨k,i2⟩:=k;dsimp only at hi2 ⊢;by_cases k0:k=0
  ·subst k0;rw [if_pos rfl];simp only [go_sem,seval];repeat' ((with_reducible apply wr)<;>try simp only [go_sem,seval])
   refine AC.call (c_in0 L hL w hw i2 hi2 0 (by omega) (by omega) _ _ t A0 (by omega)) ?_;rintro v' H' c3 ⟨rfl,rfl⟩ hc3;rw [A1];simp only [go_sem,seval];repeat' ((with_reducible apply wr)<;>try simp only [go_sem,seval])
   exact ⟨_,_,GL.refl _ _,rfl,rfl⟩
  have q0:((k:Int) == 0)=false:=by simpa using k0
  rw [if_neg k0];by_cases k1:k=1
  ·subst k1;rw [if_pos rfl];simp only [go_sem,seval];repeat' ((with_reducible apply wr)<;>try simp only [go_sem,seval])
   refine AC.call (c_in0 L hL w hw i2 hi2 0 (by omega) (by omega) _ _ t A0 (by omega)) ?_;rintro v' H' c3 ⟨rfl,rfl⟩ hc3;rw [A1];have hl:=(B0d hL w i2 hi2).1;have hadd:=M8 (s:=[45]) (t:=(in0 L w i2).1) (by simp;omega);simp only [go_sem,seval,hadd];repeat' ((with_reducible apply wr)<;>try simp only [go_sem,seval,hadd])
   exact ⟨_,_,GL.refl _ _,rfl,rfl⟩
  have q1:((k:Int) == 1)=false:=by simp;omega
  rw [if_neg k1];simp only [go_sem,seval,q0,q1];repeat' ((with_reducible apply wr)<;>try simp only [go_sem,seval,q0,q1,hw1])
  refine AC.call (h1 i2 hi2 _ _ t A0 (by omega)) ?_;rintro v' H' c3 ⟨rfl,rfl⟩ hc3;have hl:=o1 i2 hi2;generalize inK L w d i2=a at hl ⊢;rw [A1];simp only [go_sem,seval,hw1];repeat' ((with_reducible apply wr)<;>try simp only [go_sem,seval,hw1])
  refine AC.call (h1 a.2 hl.2 _ _ t A0 (by omega)) ?_;rintro v' H' c4 ⟨rfl,rfl⟩ hc4;have hl2:=o1 a.2 hl.2;generalize inK L w d a.2=c at hl2 ⊢;rw [A1];have a1:=M8 (s:=[40]) (t:=a.1) (by simp;omega);have a2:=M8 (s:=40 :: a.1) (t:=[32]) (by simp;omega);simp only [go_sem,seval,a1,a2];repeat' ((with_reducible apply wr)<;>try simp only [go_sem,seval,a1,a2])
  refine AC.call (c_Next L hL w c.2 hl2.2 5 (by decide) (by decide) _ _ t (by rw [A2 (by omega)];exact A0) (by omega)) ?_;rintro v' H' c5 ⟨rfl,rfl⟩ hc5;have hlt:=U8 L c.2 (n:=5) (by decide);generalize nxK L 5 c.2=kq at hlt ⊢;obtain ⟨k3,i3⟩:=kq;dsimp only at hlt ⊢;have hia:M6 1 (.slc c4 0 5) (I64 (k3:Int))=some (.ptr c4 k3):=by simp [M6];omega
  have hld:([.str [43],.str [45],.str [42],.str [47],.str [37]]:List DV)[k3]? = some (.str (B8j.getD k3 [])):=by
   match k3,hlt with
   | 0,_=>rfl
   | 1,_=>rfl
   | 2,_=>rfl
   | 3,_=>rfl
   | 4,_=>rfl
  have hg:=N3 (l:=B8j) (n:=5) (by decide) k3;generalize B8j.getD k3 []=og at hg hld ⊢;generalize hWL:([.str [43],.str [45],.str [42],.str [47],.str [37]]:List DV)=WL at hld ⊢;have ne0:=L2 t c4 (by omega);have a3:=M8 (s:=40 :: (a.1++[32])) (t:=og) (by simp;omega);have a4:=M8 (s:=40 :: (a.1++[32]++og)) (t:=[32]) (by simp;omega);have a5:=M8 (s:=40 :: (a.1++[32]++og++[32])) (t:=c.1) (by simp;omega);have a6:=M8 (s:=40 :: (a.1++[32]++og++[32]++c.1)) (t:=[41]) (by simp;omega);simp only [go_sem,seval,A0,A1,ne0,hia,hld,a3,a4,a5,a6];repeat' ((with_reducible apply wr)<;>try simp only [go_sem,seval,A0,A1,ne0,hia,hld,a3,a4,a5,a6])
  exact ⟨_,_,A1n hfr htc (by omega),by simp,rfl⟩
 unfold wlK;by_cases h0:0<w
 ·have q0:decide ((w:Int)>0)=true:=by simpa using h0
  have hw4:IntKind.i64.wrap (4 * (w:Int))=((4 * w:Nat):Int):=by rw [w64 (by omega) (by omega)];omega
  repeat' ((with_reducible apply wr)<;>try simp only [go_sem,seval,ht,q0,hw4])
  refine AC.call (c_Next L hL w i hi (4 * w) (by omega) (by omega) _ _ t ht (by omega)) ?_;rintro v' H' c2 ⟨rfl,rfl⟩ hc2;have hi2:=F8 hL (n:=4 * w) hi;generalize nxK L (4 * w) i=k at hi2 ⊢;obtain ⟨k,i2⟩:=k;dsimp only at hi2 ⊢;by_cases k1:k=1
  ·subst k1;rw [if_pos ⟨h0,rfl⟩];simp only [go_sem,seval];repeat' ((with_reducible apply wr)<;>try simp only [go_sem,seval,hw1])
   refine AC.call (h2 i2 hi2 _ _ t A0 (by omega)) ?_;rintro v' H' c3 ⟨rfl,rfl⟩ hc3;rw [A1];simp only [go_sem,seval];repeat' ((with_reducible apply wr)<;>try simp only [go_sem,seval])
   exact ⟨_,_,GL.refl _ _,rfl,rfl⟩
  have q1:((k:Int) == 1)=false:=by simp;omega
  rw [if_neg (fun h=>k1 h.2),if_pos h0];simp only [go_sem,seval,q1];repeat' ((with_reducible first|refine G8 (p:=IW _ _ u24_6 _ _) ?_|refine wr ?_|fail)<;>try simp only [go_sem,seval,q1])
  exact IW.stage (by simp [C1,tm,Tm.upd]) (kI i2 _ hi2 hc2)
 ·have q0:decide ((w:Int)>0)=false:=by simpa using h0
  rw [if_neg (fun h=>h0 h.1),if_neg h0];repeat' ((with_reducible first|refine G8 (p:=IW _ _ u24_6 _ _) ?_|refine wr ?_|fail)<;>try simp only [go_sem,seval,ht,q0])
  have:=kI i cc hi (A0I _);rw [upd_same ht] at this;exact IW.stage (by simp [C1,tm,Tm.upd]) this
theorem c_exK (L:List UInt8) (hL:L.length<=300) (w:Nat) (hw:w<=100):∀ d,d<=10->InC L w d/\BlC L w d
 | 0,_=>⟨fun i hi H cc t ht htc=>by rw [inK];exact c_in0 L hL w hw i hi 0 (by omega) (by omega) H cc t ht htc,fun i hi H cc t ht htc=>by rw [blK];exact c_bl0 L hL w hw i hi 0 (by omega) H cc t ht htc⟩
 | d+1,h=>by
  obtain ⟨h1,h2⟩:=c_exK L hL w hw d (by omega);exact ⟨c_in2 L hL w hw d (by omega) h1 h2,c_bl1 L hL w hw d (by omega) h1 h2⟩
def MC (f:Nat) (xs:List DV) (L:List UInt8) (w n:Nat) (Q:List UInt8->Prop):Prop:=∀ (i:Nat) (hi:i<=300) (H:Hp) (cc t:Nat) (ht:H t=some (mkB L w i)) (htc:t<cc),
  AC Tryz.prog f (.ptr t 0 :: xs) H cc (fun v H' c' => ∃ s j,Q s/\s.length<=n/\j<=300/\v=.str s/\H'=H.upd t (mkB L w j))
def NmS (L:List UInt8) (w:Nat) (p:List UInt8) (n:Nat) (s:List UInt8):Prop:=∃ i,i<=300/\s=(nmK L w p n i).1
def InS (L:List UInt8) (w d:Nat) (s:List UInt8):Prop:=∃ i,i<=300/\s=(inK L w d i).1
def BlS (L:List UInt8) (w d:Nat) (s:List UInt8):Prop:=∃ i,i<=300/\s=(blK L w d i).1
theorem L8 (L:List UInt8) (hL:L.length<=300) (w:Nat) (hw:w<=100) (p:List UInt8) (hp:p.length<=100) (n:Nat) (hn:0<n) (hn2:n<=1000):MC 54 [.str p,I64 n] L w 200 (NmS L w p n):=by
 intro i hi H cc t ht htc;refine (c_name32 L hL w i hw hi p hp n hn hn2 H cc t ht htc).mono ?_;rintro v H' c' ⟨rfl,rfl⟩;have:=W4 (L:=L) (w:=w) (i:=i) (p:=p) (n:=n) hn hn2;exact ⟨_,_,⟨i,hi,rfl⟩,by omega,A3f hL hi,rfl,rfl⟩
theorem C1a {d:Nat} (h:d<=2):lnB d<=2100:=by
 have:∀ d,d<=2->lnB d<=2100:=by decide
 exact this d h
theorem W6 (L:List UInt8) (hL:L.length<=300) (w:Nat) (hw:w<=100) (d:Nat) (hd:d<=2):MC 24 [I64 d] L w 2100 (InS L w d):=by
 intro i hi H cc t ht htc;refine ((c_exK L hL w hw d (by omega)).1 i hi H cc t ht htc).mono ?_;rintro v H' c' ⟨rfl,rfl⟩;have h1:=(A3d hL w d).1 i hi;have h2:=C1a hd;exact ⟨_,_,⟨i,hi,rfl⟩,by omega,h1.2,rfl,rfl⟩
theorem B0l (L:List UInt8) (hL:L.length<=300) (w:Nat) (hw:w<=100) (d:Nat) (hd:d<=2):MC 25 [I64 d] L w 2100 (BlS L w d):=by
 intro i hi H cc t ht htc;refine ((c_exK L hL w hw d (by omega)).2 i hi H cc t ht htc).mono ?_;rintro v H' c' ⟨rfl,rfl⟩;have h1:=(A3d hL w d).2 i hi;have h2:=C1a hd;exact ⟨_,_,⟨i,hi,rfl⟩,by omega,h1.2,rfl,rfl⟩
theorem T3 (L:List UInt8) (hL:L.length<=300) (w:Nat) (n:Nat) (hn:0<n) (hn2:n<=1000) (i:Nat) (hi:i<=300) (H:Hp) (cc t:Nat) (ht:H t=some (mkB L w i)) (htc:t<cc) :
  AC Tryz.prog 53 [.ptr t 0,I64 n] H cc (fun v H' c' => ∃ k j,k<n/\j<=300/\v=I64 (k:Nat)/\H'=H.upd t (mkB L w j)):=by
 refine (c_Next L hL w i hi n hn hn2 H cc t ht htc).mono ?_;rintro v H' c' ⟨rfl,rfl⟩;exact ⟨_,_,U8 L i hn,F8 hL hi,rfl,rfl⟩
theorem D9 (a b:List UInt8) (h:a.length+b.length<=100000000):∃ x,x=a++b/\x.length=a.length+b.length/\binR .add (.str a) (.str b)=some (.str x) :=
 ⟨_,rfl,by simp,M8 (by omega)⟩
def C5s:List (List UInt8):=[[102,105,114,101,32],[104,111,108,100,32],[114,101,108,101,97,115,101,32]]
def C3z:List (List UInt8):=[[114,117,110,32],[104,97,108,116,32]]
def C3i:List (List UInt8):=[[103,111],[106,97,99,107,112,111,116],[97,92,34,98],[]]
def B7k:List (List UInt8 × List UInt8 × Nat):=[([115,116,111,112,32],[116,109],2),([98,101,103,105,110,32],[109,111,100,101],3),([101,110,100,32],[109,111,100,101],3),([112,111,115,116,32],[101,118],2),([112,108,97,121,32],[115,110,100],2)]
inductive StG (L:List UInt8) (w:Nat) (K:List UInt8->Prop):List UInt8->Prop where
 | ifA {b x:List UInt8}:BlS L w 1 b->K x->StG L w K ((([105,102,32]++b)++[32])++x)
 | ifB {b x y:List UInt8}:BlS L w 1 b->K x->K y->StG L w K ((((([105,102,32]++b)++[32])++x)++[32,101,108,115,101,32])++y)
 | ifC {b x c y:List UInt8}:BlS L w 1 b->K x->BlS L w 0 c->K y->StG L w K ((((((([105,102,32]++b)++[32])++x)++[32,101,108,115,101,32,105,102,32])++c)++[32])++y)
 | rep {e x:List UInt8}:InS L w 0 e->K x->StG L w K ((([114,101,112,101,97,116,32]++e)++[32])++x)
 | sco {e:List UInt8}:InS L w 1 e->StG L w K (([115,99,111,114,101,32]++e)++[59])
 | fir {k:Nat} {n:List UInt8}:k<3->NmS L w [99,111,105,108] 3 n->StG L w K ((C5s.getD k []++n)++[59])
 | lig {n e:List UInt8}:NmS L w [108,97,109,112] 4 n->InS L w 0 e->StG L w K (((([108,105,103,104,116,32]++n)++[32])++e)++[59])
 | bli {n e f:List UInt8}:NmS L w [108,97,109,112] 4 n->InS L w 0 e->InS L w 0 f->StG L w K (((((([98,108,105,110,107,32]++n)++[32])++e)++[44,32])++f)++[59])
 | sta {n e:List UInt8}:NmS L w [116,109] 2 n->InS L w 1 e->StG L w K (((([115,116,97,114,116,32]++n)++[32])++e)++[59])
 | one {q:List UInt8 × List UInt8 × Nat} {n:List UInt8}:q∈B7k->NmS L w q.2.1 q.2.2 n->StG L w K ((q.1++n)++[59])
 | run {k:Nat} {n:List UInt8}:k<2->NmS L w [115,104,111,119] 2 n->StG L w K ((C3z.getD k []++n)++[59])
 | txt {k:Nat} {e:List UInt8}:k<4->InS L w 0 e->StG L w K (((([116,101,120,116,32,34]++C3i.getD k [])++[34,44,32])++e)++[59])
 | con:StG L w K [99,111,110,115,117,109,101,59]
 | asg {n e:List UInt8}:NmS L w [118] 3 n->InS L w 2 e->StG L w K (((n++[32,61,32])++e)++[59])
theorem c_Stmt (L:List UInt8) (hL:L.length<=300) (w:Nat) (hw:w<=100) (D:Int) (hD2:D<=10) (hD3 : -10<=D) (kb:Nat) (hkb:kb<=10000000) (K:List UInt8->Prop) (hK:D<=0\/MC 107 [I64 (D-1)] L w kb K) :
  MC 139 [I64 D] L w (2 * kb+8000) (StG L w K):=by
 intro i hi H cc t ht htc;refine AC.body A9 isU139 (A0B rfl) fun hfr=>?_;show IW Tryz.prog 189 u139_1 ⟨B7 _,_,_⟩ (rt [.tmp 4] _);have hw1:IntKind.i64.wrap (D-1)=D-1:=w64 (by omega) (by omega);obtain ⟨qd,hqd⟩:∃ b:Bool,decide (D<=0)=b:=⟨_,rfl⟩;have hqt:qd=true->D<=0:=fun e=>by rw [e] at hqd;simpa using hqd
 have hqf:qd=false->¬ D<=0:=fun e=>by rw [e] at hqd;simpa using hqd
 repeat' ((with_reducible apply wr)<;>try simp only [go_sem,seval,hqd])
 refine AC.call (T3 L hL w 20 (by decide) (by decide) i hi _ _ t ht (by omega)) ?_;rintro v' H' c2 ⟨k,j,hlt,hj,rfl,rfl⟩ hc2;by_cases k4:k=4
 ·subst k4;cases qd;all_goals
   simp only [go_sem,seval,hqd];repeat' ((with_reducible apply wr)<;>try simp only [go_sem,seval,hqd,hw1])
   refine AC.call (W6 L hL w hw 1 (by decide) j hj _ _ t A0 (by omega)) ?_;rintro v' H' c3 ⟨r1,j1,g1,l1,b1,rfl,rfl⟩ hc3;rw [A1];obtain ⟨x1,e1,m1,a1⟩:=D9 [115,99,111,114,101,32] r1 (by (try simp)<;>omega);try simp only [A0E,A0F] at m1
   obtain ⟨x2,e2,m2,a2⟩:=D9 x1 [59] (by (try simp)<;>omega);try simp only [A0E,A0F] at m2
   simp only [go_sem,seval,a1,a2,hw1];repeat' ((with_reducible apply wr)<;>try simp only [go_sem,seval,a1,a2,hw1])
   exact ⟨_,_,GL.refl _ _,x2,j1,by rw [e2,e1];exact .sco g1,by omega,b1,rfl,rfl⟩
 by_cases k5:k=5
 ·subst k5;cases qd;all_goals
   simp only [go_sem,seval,hqd];repeat' ((with_reducible apply wr)<;>try simp only [go_sem,seval,hqd,hw1])
   refine AC.call (W6 L hL w hw 1 (by decide) j hj _ _ t A0 (by omega)) ?_;rintro v' H' c3 ⟨r1,j1,g1,l1,b1,rfl,rfl⟩ hc3;rw [A1];obtain ⟨x1,e1,m1,a1⟩:=D9 [115,99,111,114,101,32] r1 (by (try simp)<;>omega);try simp only [A0E,A0F] at m1
   obtain ⟨x2,e2,m2,a2⟩:=D9 x1 [59] (by (try simp)<;>omega);try simp only [A0E,A0F] at m2
   simp only [go_sem,seval,a1,a2,hw1];repeat' ((with_reducible apply wr)<;>try simp only [go_sem,seval,a1,a2,hw1])
   exact ⟨_,_,GL.refl _ _,x2,j1,by rw [e2,e1];exact .sco g1,by omega,b1,rfl,rfl⟩
 by_cases k7:k=7
 ·subst k7;cases qd;all_goals
   simp only [go_sem,seval,hqd];repeat' ((with_reducible apply wr)<;>try simp only [go_sem,seval,hqd,hw1])
   refine AC.call (L8 L hL w hw [108,97,109,112] (by decide) 4 (by decide) (by decide) j hj _ _ t A0 (by omega)) ?_;rintro v' H' c3 ⟨r1,j1,g1,l1,b1,rfl,rfl⟩ hc3;rw [A1];obtain ⟨x1,e1,m1,a1⟩:=D9 [108,105,103,104,116,32] r1 (by (try simp)<;>omega);try simp only [A0E,A0F] at m1
   obtain ⟨x2,e2,m2,a2⟩:=D9 x1 [32] (by (try simp)<;>omega);try simp only [A0E,A0F] at m2
   simp only [go_sem,seval,a1,a2,hw1];repeat' ((with_reducible apply wr)<;>try simp only [go_sem,seval,a1,a2,hw1])
   refine AC.call (W6 L hL w hw 0 (by decide) j1 b1 _ _ t A0 (by omega)) ?_;rintro v' H' c4 ⟨r2,j2,g2,l2,b2,rfl,rfl⟩ hc4;rw [A1];obtain ⟨x3,e3,m3,a3⟩:=D9 x2 r2 (by (try simp)<;>omega);try simp only [A0E,A0F] at m3
   obtain ⟨x4,e4,m4,a4⟩:=D9 x3 [59] (by (try simp)<;>omega);try simp only [A0E,A0F] at m4
   simp only [go_sem,seval,a3,a4,hw1];repeat' ((with_reducible apply wr)<;>try simp only [go_sem,seval,a3,a4,hw1])
   exact ⟨_,_,GL.refl _ _,x4,j2,by rw [e4,e3,e2,e1];exact .lig g1 g2,by omega,b2,rfl,rfl⟩
 by_cases k8:k=8
 ·subst k8;cases qd;all_goals
   simp only [go_sem,seval,hqd];repeat' ((with_reducible apply wr)<;>try simp only [go_sem,seval,hqd,hw1])
   refine AC.call (L8 L hL w hw [108,97,109,112] (by decide) 4 (by decide) (by decide) j hj _ _ t A0 (by omega)) ?_;rintro v' H' c3 ⟨r1,j1,g1,l1,b1,rfl,rfl⟩ hc3;rw [A1];obtain ⟨x1,e1,m1,a1⟩:=D9 [98,108,105,110,107,32] r1 (by (try simp)<;>omega);try simp only [A0E,A0F] at m1
   obtain ⟨x2,e2,m2,a2⟩:=D9 x1 [32] (by (try simp)<;>omega);try simp only [A0E,A0F] at m2
   simp only [go_sem,seval,a1,a2,hw1];repeat' ((with_reducible apply wr)<;>try simp only [go_sem,seval,a1,a2,hw1])
   refine AC.call (W6 L hL w hw 0 (by decide) j1 b1 _ _ t A0 (by omega)) ?_;rintro v' H' c4 ⟨r2,j2,g2,l2,b2,rfl,rfl⟩ hc4;rw [A1];obtain ⟨x3,e3,m3,a3⟩:=D9 x2 r2 (by (try simp)<;>omega);try simp only [A0E,A0F] at m3
   obtain ⟨x4,e4,m4,a4⟩:=D9 x3 [44,32] (by (try simp)<;>omega);try simp only [A0E,A0F] at m4
   simp only [go_sem,seval,a3,a4,hw1];repeat' ((with_reducible apply wr)<;>try simp only [go_sem,seval,a3,a4,hw1])
   refine AC.call (W6 L hL w hw 0 (by decide) j2 b2 _ _ t A0 (by omega)) ?_;rintro v' H' c5 ⟨r3,j3,g3,l3,b3,rfl,rfl⟩ hc5;rw [A1];obtain ⟨x5,e5,m5,a5⟩:=D9 x4 r3 (by (try simp)<;>omega);try simp only [A0E,A0F] at m5
   obtain ⟨x6,e6,m6,a6⟩:=D9 x5 [59] (by (try simp)<;>omega);try simp only [A0E,A0F] at m6
   simp only [go_sem,seval,a5,a6,hw1];repeat' ((with_reducible apply wr)<;>try simp only [go_sem,seval,a5,a6,hw1])
   exact ⟨_,_,GL.refl _ _,x6,j3,by rw [e6,e5,e4,e3,e2,e1];exact .bli g1 g2 g3,by omega,b3,rfl,rfl⟩
 by_cases k9:k=9
 ·subst k9;cases qd;all_goals
   simp only [go_sem,seval,hqd];repeat' ((with_reducible apply wr)<;>try simp only [go_sem,seval,hqd,hw1])
   refine AC.call (L8 L hL w hw [116,109] (by decide) 2 (by decide) (by decide) j hj _ _ t A0 (by omega)) ?_;rintro v' H' c3 ⟨r1,j1,g1,l1,b1,rfl,rfl⟩ hc3;rw [A1];obtain ⟨x1,e1,m1,a1⟩:=D9 [115,116,97,114,116,32] r1 (by (try simp)<;>omega);try simp only [A0E,A0F] at m1
   obtain ⟨x2,e2,m2,a2⟩:=D9 x1 [32] (by (try simp)<;>omega);try simp only [A0E,A0F] at m2
   simp only [go_sem,seval,a1,a2,hw1];repeat' ((with_reducible apply wr)<;>try simp only [go_sem,seval,a1,a2,hw1])
   refine AC.call (W6 L hL w hw 1 (by decide) j1 b1 _ _ t A0 (by omega)) ?_;rintro v' H' c4 ⟨r2,j2,g2,l2,b2,rfl,rfl⟩ hc4;rw [A1];obtain ⟨x3,e3,m3,a3⟩:=D9 x2 r2 (by (try simp)<;>omega);try simp only [A0E,A0F] at m3
   obtain ⟨x4,e4,m4,a4⟩:=D9 x3 [59] (by (try simp)<;>omega);try simp only [A0E,A0F] at m4
   simp only [go_sem,seval,a3,a4,hw1];repeat' ((with_reducible apply wr)<;>try simp only [go_sem,seval,a3,a4,hw1])
   exact ⟨_,_,GL.refl _ _,x4,j2,by rw [e4,e3,e2,e1];exact .sta g1 g2,by omega,b2,rfl,rfl⟩
 by_cases k10:k=10
 ·subst k10;cases qd;all_goals
   simp only [go_sem,seval,hqd];repeat' ((with_reducible apply wr)<;>try simp only [go_sem,seval,hqd,hw1])
   refine AC.call (L8 L hL w hw [116,109] (by decide) 2 (by decide) (by decide) j hj _ _ t A0 (by omega)) ?_;rintro v' H' c3 ⟨r1,j1,g1,l1,b1,rfl,rfl⟩ hc3;rw [A1];obtain ⟨x1,e1,m1,a1⟩:=D9 [115,116,111,112,32] r1 (by (try simp)<;>omega);try simp only [A0E,A0F] at m1
   obtain ⟨x2,e2,m2,a2⟩:=D9 x1 [59] (by (try simp)<;>omega);try simp only [A0E,A0F] at m2
   simp only [go_sem,seval,a1,a2,hw1];repeat' ((with_reducible apply wr)<;>try simp only [go_sem,seval,a1,a2,hw1])
   exact ⟨_,_,GL.refl _ _,x2,j1,by rw [e2,e1];exact .one (q:=([115,116,111,112,32],[116,109],2)) (by simp [B7k]) g1,by omega,b1,rfl,rfl⟩
 by_cases k11:k=11
 ·subst k11;cases qd;all_goals
   simp only [go_sem,seval,hqd];repeat' ((with_reducible apply wr)<;>try simp only [go_sem,seval,hqd,hw1])
   refine AC.call (L8 L hL w hw [109,111,100,101] (by decide) 3 (by decide) (by decide) j hj _ _ t A0 (by omega)) ?_;rintro v' H' c3 ⟨r1,j1,g1,l1,b1,rfl,rfl⟩ hc3;rw [A1];obtain ⟨x1,e1,m1,a1⟩:=D9 [98,101,103,105,110,32] r1 (by (try simp)<;>omega);try simp only [A0E,A0F] at m1
   obtain ⟨x2,e2,m2,a2⟩:=D9 x1 [59] (by (try simp)<;>omega);try simp only [A0E,A0F] at m2
   simp only [go_sem,seval,a1,a2,hw1];repeat' ((with_reducible apply wr)<;>try simp only [go_sem,seval,a1,a2,hw1])
   exact ⟨_,_,GL.refl _ _,x2,j1,by rw [e2,e1];exact .one (q:=([98,101,103,105,110,32],[109,111,100,101],3)) (by simp [B7k]) g1,by omega,b1,rfl,rfl⟩
 by_cases k12:k=12
 ·subst k12;cases qd;all_goals
   simp only [go_sem,seval,hqd];repeat' ((with_reducible apply wr)<;>try simp only [go_sem,seval,hqd,hw1])
   refine AC.call (L8 L hL w hw [109,111,100,101] (by decide) 3 (by decide) (by decide) j hj _ _ t A0 (by omega)) ?_;rintro v' H' c3 ⟨r1,j1,g1,l1,b1,rfl,rfl⟩ hc3;rw [A1];obtain ⟨x1,e1,m1,a1⟩:=D9 [101,110,100,32] r1 (by (try simp)<;>omega);try simp only [A0E,A0F] at m1
   obtain ⟨x2,e2,m2,a2⟩:=D9 x1 [59] (by (try simp)<;>omega);try simp only [A0E,A0F] at m2
   simp only [go_sem,seval,a1,a2,hw1];repeat' ((with_reducible apply wr)<;>try simp only [go_sem,seval,a1,a2,hw1])
   exact ⟨_,_,GL.refl _ _,x2,j1,by rw [e2,e1];exact .one (q:=([101,110,100,32],[109,111,100,101],3)) (by simp [B7k]) g1,by omega,b1,rfl,rfl⟩
 by_cases k13:k=13
 ·subst k13;cases qd;all_goals
   simp only [go_sem,seval,hqd];repeat' ((with_reducible apply wr)<;>try simp only [go_sem,seval,hqd,hw1])
   refine AC.call (L8 L hL w hw [101,118] (by decide) 2 (by decide) (by decide) j hj _ _ t A0 (by omega)) ?_;rintro v' H' c3 ⟨r1,j1,g1,l1,b1,rfl,rfl⟩ hc3;rw [A1];obtain ⟨x1,e1,m1,a1⟩:=D9 [112,111,115,116,32] r1 (by (try simp)<;>omega);try simp only [A0E,A0F] at m1
   obtain ⟨x2,e2,m2,a2⟩:=D9 x1 [59] (by (try simp)<;>omega);try simp only [A0E,A0F] at m2
   simp only [go_sem,seval,a1,a2,hw1];repeat' ((with_reducible apply wr)<;>try simp only [go_sem,seval,a1,a2,hw1])
   exact ⟨_,_,GL.refl _ _,x2,j1,by rw [e2,e1];exact .one (q:=([112,111,115,116,32],[101,118],2)) (by simp [B7k]) g1,by omega,b1,rfl,rfl⟩
 by_cases k14:k=14
 ·subst k14;cases qd;all_goals
   simp only [go_sem,seval,hqd];repeat' ((with_reducible apply wr)<;>try simp only [go_sem,seval,hqd,hw1])
   refine AC.call (L8 L hL w hw [115,110,100] (by decide) 2 (by decide) (by decide) j hj _ _ t A0 (by omega)) ?_;rintro v' H' c3 ⟨r1,j1,g1,l1,b1,rfl,rfl⟩ hc3;rw [A1];obtain ⟨x1,e1,m1,a1⟩:=D9 [112,108,97,121,32] r1 (by (try simp)<;>omega);try simp only [A0E,A0F] at m1
   obtain ⟨x2,e2,m2,a2⟩:=D9 x1 [59] (by (try simp)<;>omega);try simp only [A0E,A0F] at m2
   simp only [go_sem,seval,a1,a2,hw1];repeat' ((with_reducible apply wr)<;>try simp only [go_sem,seval,a1,a2,hw1])
   exact ⟨_,_,GL.refl _ _,x2,j1,by rw [e2,e1];exact .one (q:=([112,108,97,121,32],[115,110,100],2)) (by simp [B7k]) g1,by omega,b1,rfl,rfl⟩
 by_cases k17:k=17
 ·subst k17;cases qd;all_goals
   simp only [go_sem,seval,hqd];repeat' ((with_reducible apply wr)<;>try simp only [go_sem,seval,hqd,hw1])
   exact ⟨_,_,GL.refl _ _,_,j,.con,by first|(simp;done)|(simp;omega),hj,rfl,rfl⟩
 by_cases k6:k=6
 ·subst k6;cases qd;all_goals
   simp only [go_sem,seval,hqd];repeat' ((with_reducible apply wr)<;>try simp only [go_sem,seval,hqd,hw1])
   refine AC.call (T3 L hL w 3 (by decide) (by decide) j hj _ _ t (by rw [B6j (by omega)];exact A0) (by omega)) ?_;rintro v' H' c3 ⟨k3,j1,hlt3,b1,rfl,rfl⟩ hc3;have hmg:∀ (X:Hp) (B:Blk),H8 [c2] X ((L3 X [c2]).upd t B)=X.upd t B:=fun X B=>A6b (by omega);have hia:M6 1 (.slc c2 0 3) (I64 (k3:Int))=some (.ptr c2 k3):=by simp [M6];omega
   have hld:([.str [102,105,114,101,32],.str [104,111,108,100,32],.str [114,101,108,101,97,115,101,32]]:List DV)[k3]? = some (.str (C5s.getD k3 [])):=by
    match k3,hlt3 with
    | 0,_=>rfl
    | 1,_=>rfl
    | 2,_=>rfl
   have hg:=N3 (l:=C5s) (n:=10) (by decide) k3;generalize hog:C5s.getD k3 []=og at hg hld;generalize hWL:([.str [102,105,114,101,32],.str [104,111,108,100,32],.str [114,101,108,101,97,115,101,32]]:List DV)=WL at hld ⊢;have ne0:=L2 t c2 (by omega);simp only [go_sem,seval,hmg,A0,A1,ne0,hia,hld,hw1];refine ⟨by and_intros<;>first|rfl|(rw [<- hWL];done)|((repeat rw [A2 (by omega)]);exact hfr _ (by omega)),?_⟩;refine AC.call (L8 L hL w hw [99,111,105,108] (by decide) 3 (by decide) (by decide) j1 b1 _ _ t (by simp only [L3];rw [if_neg (by simp;omega)];exact A0) (by omega)) ?_;rintro v' H' c4 ⟨r1,j2,g1,l1,b2,rfl,rfl⟩ hc4;obtain ⟨x1,e1,m1,a1⟩:=D9 og r1 (by (try simp)<;>omega);try simp only [A0E,A0F] at m1
   obtain ⟨x2,e2,m2,a2⟩:=D9 x1 [59] (by (try simp)<;>omega);try simp only [A0E,A0F] at m2
   simp only [go_sem,seval,hmg,A0,A1,ne0,hia,hld,hw1,a1,a2];refine ⟨by and_intros<;>first|rfl|(rw [<- hWL];done)|((repeat rw [A2 (by omega)]);exact hfr _ (by omega)),?_⟩;repeat' ((with_reducible apply wr)<;>try simp only [go_sem,seval])
   exact ⟨_,_,A1n hfr htc (by omega),x2,j2,by rw [e2,e1, <- hog];exact .fir hlt3 g1,by omega,b2,rfl,rfl⟩
 by_cases k15:k=15
 ·subst k15;cases qd;all_goals
   simp only [go_sem,seval,hqd];repeat' ((with_reducible apply wr)<;>try simp only [go_sem,seval,hqd,hw1])
   refine AC.call (T3 L hL w 2 (by decide) (by decide) j hj _ _ t (by rw [B6j (by omega)];exact A0) (by omega)) ?_;rintro v' H' c3 ⟨k3,j1,hlt3,b1,rfl,rfl⟩ hc3;have hmg:∀ (X:Hp) (B:Blk),H8 [c2] X ((L3 X [c2]).upd t B)=X.upd t B:=fun X B=>A6b (by omega);have hia:M6 1 (.slc c2 0 2) (I64 (k3:Int))=some (.ptr c2 k3):=by simp [M6];omega
   have hld:([.str [114,117,110,32],.str [104,97,108,116,32]]:List DV)[k3]? = some (.str (C3z.getD k3 [])):=by
    match k3,hlt3 with
    | 0,_=>rfl
    | 1,_=>rfl
   have hg:=N3 (l:=C3z) (n:=10) (by decide) k3;generalize hog:C3z.getD k3 []=og at hg hld;generalize hWL:([.str [114,117,110,32],.str [104,97,108,116,32]]:List DV)=WL at hld ⊢;have ne0:=L2 t c2 (by omega);simp only [go_sem,seval,hmg,A0,A1,ne0,hia,hld,hw1];refine ⟨by and_intros<;>first|rfl|(rw [<- hWL];done)|((repeat rw [A2 (by omega)]);exact hfr _ (by omega)),?_⟩;refine AC.call (L8 L hL w hw [115,104,111,119] (by decide) 2 (by decide) (by decide) j1 b1 _ _ t (by simp only [L3];rw [if_neg (by simp;omega)];exact A0) (by omega)) ?_;rintro v' H' c4 ⟨r1,j2,g1,l1,b2,rfl,rfl⟩ hc4;obtain ⟨x1,e1,m1,a1⟩:=D9 og r1 (by (try simp)<;>omega);try simp only [A0E,A0F] at m1
   obtain ⟨x2,e2,m2,a2⟩:=D9 x1 [59] (by (try simp)<;>omega);try simp only [A0E,A0F] at m2
   simp only [go_sem,seval,hmg,A0,A1,ne0,hia,hld,hw1,a1,a2];refine ⟨by and_intros<;>first|rfl|(rw [<- hWL];done)|((repeat rw [A2 (by omega)]);exact hfr _ (by omega)),?_⟩;repeat' ((with_reducible apply wr)<;>try simp only [go_sem,seval])
   exact ⟨_,_,A1n hfr htc (by omega),x2,j2,by rw [e2,e1, <- hog];exact .run hlt3 g1,by omega,b2,rfl,rfl⟩
 by_cases k16:k=16
 ·subst k16;cases qd;all_goals
   simp only [go_sem,seval,hqd];repeat' ((with_reducible apply wr)<;>try simp only [go_sem,seval,hqd,hw1])
   refine AC.call (T3 L hL w 4 (by decide) (by decide) j hj _ _ t (by rw [B6j (by omega)];exact A0) (by omega)) ?_;rintro v' H' c3 ⟨k3,j1,hlt3,b1,rfl,rfl⟩ hc3;have hmg:∀ (X:Hp) (B:Blk),H8 [c2] X ((L3 X [c2]).upd t B)=X.upd t B:=fun X B=>A6b (by omega);have hia:M6 1 (.slc c2 0 4) (I64 (k3:Int))=some (.ptr c2 k3):=by simp [M6];omega
   have hld:([.str [103,111],.str [106,97,99,107,112,111,116],.str [97,92,34,98],.str []]:List DV)[k3]? = some (.str (C3i.getD k3 [])):=by
    match k3,hlt3 with
    | 0,_=>rfl
    | 1,_=>rfl
    | 2,_=>rfl
    | 3,_=>rfl
   have hg:=N3 (l:=C3i) (n:=10) (by decide) k3;generalize hog:C3i.getD k3 []=og at hg hld;generalize hWL:([.str [103,111],.str [106,97,99,107,112,111,116],.str [97,92,34,98],.str []]:List DV)=WL at hld ⊢;have ne0:=L2 t c2 (by omega);obtain ⟨x1,e1,m1,a1⟩:=D9 [116,101,120,116,32,34] og (by (try simp)<;>omega);try simp only [A0E,A0F] at m1
   obtain ⟨x2,e2,m2,a2⟩:=D9 x1 [34,44,32] (by (try simp)<;>omega);try simp only [A0E,A0F] at m2
   simp only [go_sem,seval,hmg,A0,A1,ne0,hia,hld,hw1,a1,a2];refine ⟨by and_intros<;>first|rfl|(rw [<- hWL];done)|((repeat rw [A2 (by omega)]);exact hfr _ (by omega)),?_⟩;refine AC.call (W6 L hL w hw 0 (by decide) j1 b1 _ _ t (by simp only [L3];rw [if_neg (by simp;omega)];exact A0) (by omega)) ?_;rintro v' H' c4 ⟨r1,j2,g1,l1,b2,rfl,rfl⟩ hc4;obtain ⟨x3,e3,m3,a3⟩:=D9 x2 r1 (by (try simp)<;>omega);try simp only [A0E,A0F] at m3
   obtain ⟨x4,e4,m4,a4⟩:=D9 x3 [59] (by (try simp)<;>omega);try simp only [A0E,A0F] at m4
   simp only [go_sem,seval,hmg,A0,A1,ne0,hia,hld,hw1,a1,a2,a3,a4];refine ⟨by and_intros<;>first|rfl|(rw [<- hWL];done)|((repeat rw [A2 (by omega)]);exact hfr _ (by omega)),?_⟩;repeat' ((with_reducible apply wr)<;>try simp only [go_sem,seval])
   exact ⟨_,_,A1n hfr htc (by omega),x4,j2,by rw [e4,e3,e2,e1, <- hog];exact .txt hlt3 g1,by omega,b2,rfl,rfl⟩
 by_cases k18:k=18
 ·subst k18;cases qd;all_goals
   simp only [go_sem,seval,hqd];repeat' ((with_reducible apply wr)<;>try simp only [go_sem,seval,hqd,hw1])
   refine AC.call (L8 L hL w hw [118] (by decide) 3 (by decide) (by decide) j hj _ _ t A0 (by omega)) ?_;rintro v' H' c3 ⟨r1,j1,g1,l1,b1,rfl,rfl⟩ hc3;rw [A1];obtain ⟨x1,e1,m1,a1⟩:=D9 r1 [32,61,32] (by (try simp)<;>omega);try simp only [A0E,A0F] at m1
   simp only [go_sem,seval,a1,hw1];repeat' ((with_reducible apply wr)<;>try simp only [go_sem,seval,a1,hw1])
   refine AC.call (W6 L hL w hw 2 (by decide) j1 b1 _ _ t A0 (by omega)) ?_;rintro v' H' c4 ⟨r2,j2,g2,l2,b2,rfl,rfl⟩ hc4;rw [A1];obtain ⟨x2,e2,m2,a2⟩:=D9 x1 r2 (by (try simp)<;>omega);try simp only [A0E,A0F] at m2
   obtain ⟨x3,e3,m3,a3⟩:=D9 x2 [59] (by (try simp)<;>omega);try simp only [A0E,A0F] at m3
   simp only [go_sem,seval,a2,a3,hw1];repeat' ((with_reducible apply wr)<;>try simp only [go_sem,seval,a2,a3,hw1])
   exact ⟨_,_,GL.refl _ _,x3,j2,by rw [e3,e2,e1];exact .asg g1 g2,by omega,b2,rfl,rfl⟩
 by_cases k19:k=19
 ·subst k19;cases qd;all_goals
   simp only [go_sem,seval,hqd];repeat' ((with_reducible apply wr)<;>try simp only [go_sem,seval,hqd,hw1])
   refine AC.call (L8 L hL w hw [118] (by decide) 3 (by decide) (by decide) j hj _ _ t A0 (by omega)) ?_;rintro v' H' c3 ⟨r1,j1,g1,l1,b1,rfl,rfl⟩ hc3;rw [A1];obtain ⟨x1,e1,m1,a1⟩:=D9 r1 [32,61,32] (by (try simp)<;>omega);try simp only [A0E,A0F] at m1
   simp only [go_sem,seval,a1,hw1];repeat' ((with_reducible apply wr)<;>try simp only [go_sem,seval,a1,hw1])
   refine AC.call (W6 L hL w hw 2 (by decide) j1 b1 _ _ t A0 (by omega)) ?_;rintro v' H' c4 ⟨r2,j2,g2,l2,b2,rfl,rfl⟩ hc4;rw [A1];obtain ⟨x2,e2,m2,a2⟩:=D9 x1 r2 (by (try simp)<;>omega);try simp only [A0E,A0F] at m2
   obtain ⟨x3,e3,m3,a3⟩:=D9 x2 [59] (by (try simp)<;>omega);try simp only [A0E,A0F] at m3
   simp only [go_sem,seval,a2,a3,hw1];repeat' ((with_reducible apply wr)<;>try simp only [go_sem,seval,a2,a3,hw1])
   exact ⟨_,_,GL.refl _ _,x3,j2,by rw [e3,e2,e1];exact .asg g1 g2,by omega,b2,rfl,rfl⟩
 by_cases k0:k=0
 ·subst k0;cases qd;all_goals
   simp only [go_sem,seval,hqd];repeat' ((with_reducible apply wr)<;>try simp only [go_sem,seval,hqd,hw1])
   refine AC.call (L8 L hL w hw [118] (by decide) 3 (by decide) (by decide) j hj _ _ t A0 (by omega)) ?_;rintro v' H' c3 ⟨r1,j1,g1,l1,b1,rfl,rfl⟩ hc3;rw [A1];obtain ⟨x1,e1,m1,a1⟩:=D9 r1 [32,61,32] (by (try simp)<;>omega);try simp only [A0E,A0F] at m1
   simp only [go_sem,seval,a1,hw1];repeat' ((with_reducible apply wr)<;>try simp only [go_sem,seval,a1,hw1])
   refine AC.call (W6 L hL w hw 2 (by decide) j1 b1 _ _ t A0 (by omega)) ?_;rintro v' H' c4 ⟨r2,j2,g2,l2,b2,rfl,rfl⟩ hc4;rw [A1];obtain ⟨x2,e2,m2,a2⟩:=D9 x1 r2 (by (try simp)<;>omega);try simp only [A0E,A0F] at m2
   obtain ⟨x3,e3,m3,a3⟩:=D9 x2 [59] (by (try simp)<;>omega);try simp only [A0E,A0F] at m3
   simp only [go_sem,seval,a2,a3,hw1];repeat' ((with_reducible apply wr)<;>try simp only [go_sem,seval,a2,a3,hw1])
   exact ⟨_,_,GL.refl _ _,x3,j2,by rw [e3,e2,e1];exact .asg g1 g2,by omega,b2,rfl,rfl⟩
 by_cases k3:k=3
 ·subst k3;cases qd
  rotate_left
  ·simp only [go_sem,seval,hqd];repeat' ((with_reducible apply wr)<;>try simp only [go_sem,seval,hqd,hw1])
   refine AC.call (L8 L hL w hw [118] (by decide) 3 (by decide) (by decide) j hj _ _ t A0 (by omega)) ?_;rintro v' H' c3 ⟨r1,j1,g1,l1,b1,rfl,rfl⟩ hc3;rw [A1];obtain ⟨x1,e1,m1,a1⟩:=D9 r1 [32,61,32] (by (try simp)<;>omega);try simp only [A0E,A0F] at m1
   simp only [go_sem,seval,a1,hw1];repeat' ((with_reducible apply wr)<;>try simp only [go_sem,seval,a1,hw1])
   refine AC.call (W6 L hL w hw 2 (by decide) j1 b1 _ _ t A0 (by omega)) ?_;rintro v' H' c4 ⟨r2,j2,g2,l2,b2,rfl,rfl⟩ hc4;rw [A1];obtain ⟨x2,e2,m2,a2⟩:=D9 x1 r2 (by (try simp)<;>omega);try simp only [A0E,A0F] at m2
   obtain ⟨x3,e3,m3,a3⟩:=D9 x2 [59] (by (try simp)<;>omega);try simp only [A0E,A0F] at m3
   simp only [go_sem,seval,a2,a3,hw1];repeat' ((with_reducible apply wr)<;>try simp only [go_sem,seval,a2,a3,hw1])
   exact ⟨_,_,GL.refl _ _,x3,j2,by rw [e3,e2,e1];exact .asg g1 g2,by omega,b2,rfl,rfl⟩
  have hK':=hK.resolve_left (hqf rfl);simp only [go_sem,seval,hqd];repeat' ((with_reducible apply wr)<;>try simp only [go_sem,seval,hqd,hw1])
  refine AC.call (W6 L hL w hw 0 (by decide) j hj _ _ t A0 (by omega)) ?_;rintro v' H' c3 ⟨r1,j1,g1,l1,b1,rfl,rfl⟩ hc3;rw [A1];obtain ⟨x1,e1,m1,a1⟩:=D9 [114,101,112,101,97,116,32] r1 (by (try simp)<;>omega);try simp only [A0E,A0F] at m1
  obtain ⟨x2,e2,m2,a2⟩:=D9 x1 [32] (by (try simp)<;>omega);try simp only [A0E,A0F] at m2
  simp only [go_sem,seval,a1,a2,hw1];repeat' ((with_reducible apply wr)<;>try simp only [go_sem,seval,a1,a2,hw1])
  refine AC.call (hK' j1 b1 _ _ t A0 (by omega)) ?_;rintro v' H' c4 ⟨r2,j2,g2,l2,b2,rfl,rfl⟩ hc4;rw [A1];obtain ⟨x3,e3,m3,a3⟩:=D9 x2 r2 (by (try simp)<;>omega);try simp only [A0E,A0F] at m3
  simp only [go_sem,seval,a3,hw1];repeat' ((with_reducible apply wr)<;>try simp only [go_sem,seval,a3,hw1])
  exact ⟨_,_,GL.refl _ _,x3,j2,by rw [e3,e2,e1];exact .rep g1 g2,by omega,b2,rfl,rfl⟩
 by_cases k1:k=1
 ·subst k1;cases qd
  rotate_left
  ·simp only [go_sem,seval,hqd];repeat' ((with_reducible apply wr)<;>try simp only [go_sem,seval,hqd,hw1])
   refine AC.call (L8 L hL w hw [118] (by decide) 3 (by decide) (by decide) j hj _ _ t A0 (by omega)) ?_;rintro v' H' c3 ⟨r1,j1,g1,l1,b1,rfl,rfl⟩ hc3;rw [A1];obtain ⟨x1,e1,m1,a1⟩:=D9 r1 [32,61,32] (by (try simp)<;>omega);try simp only [A0E,A0F] at m1
   simp only [go_sem,seval,a1,hw1];repeat' ((with_reducible apply wr)<;>try simp only [go_sem,seval,a1,hw1])
   refine AC.call (W6 L hL w hw 2 (by decide) j1 b1 _ _ t A0 (by omega)) ?_;rintro v' H' c4 ⟨r2,j2,g2,l2,b2,rfl,rfl⟩ hc4;rw [A1];obtain ⟨x2,e2,m2,a2⟩:=D9 x1 r2 (by (try simp)<;>omega);try simp only [A0E,A0F] at m2
   obtain ⟨x3,e3,m3,a3⟩:=D9 x2 [59] (by (try simp)<;>omega);try simp only [A0E,A0F] at m3
   simp only [go_sem,seval,a2,a3,hw1];repeat' ((with_reducible apply wr)<;>try simp only [go_sem,seval,a2,a3,hw1])
   exact ⟨_,_,GL.refl _ _,x3,j2,by rw [e3,e2,e1];exact .asg g1 g2,by omega,b2,rfl,rfl⟩
  have hK':=hK.resolve_left (hqf rfl);simp only [go_sem,seval,hqd];repeat' ((with_reducible apply wr)<;>try simp only [go_sem,seval,hqd,hw1])
  refine AC.call (B0l L hL w hw 1 (by decide) j hj _ _ t A0 (by omega)) ?_;rintro v' H' c3 ⟨r1,j1,g1,l1,b1,rfl,rfl⟩ hc3;rw [A1];obtain ⟨x1,e1,m1,a1⟩:=D9 [105,102,32] r1 (by (try simp)<;>omega);try simp only [A0E,A0F] at m1
  obtain ⟨x2,e2,m2,a2⟩:=D9 x1 [32] (by (try simp)<;>omega);try simp only [A0E,A0F] at m2
  simp only [go_sem,seval,a1,a2,hw1];repeat' ((with_reducible apply wr)<;>try simp only [go_sem,seval,a1,a2,hw1])
  refine AC.call (hK' j1 b1 _ _ t A0 (by omega)) ?_;rintro v' H' c4 ⟨r2,j2,g2,l2,b2,rfl,rfl⟩ hc4;rw [A1];obtain ⟨x3,e3,m3,a3⟩:=D9 x2 r2 (by (try simp)<;>omega);try simp only [A0E,A0F] at m3
  simp only [go_sem,seval,a3,hw1];repeat' ((with_reducible apply wr)<;>try simp only [go_sem,seval,a3,hw1])
  refine AC.call (T3 L hL w 3 (by decide) (by decide) j2 b2 _ _ t A0 (by omega)) ?_;rintro v' H' c5 ⟨q,j3,hq,b3,rfl,rfl⟩ hc5;rw [A1];by_cases q1:q=1
  ·subst q1;obtain ⟨x4,e4,m4,a4⟩:=D9 x3 [32,101,108,115,101,32] (by (try simp)<;>omega);try simp only [A0E,A0F] at m4
   simp only [go_sem,seval,a4,hw1];repeat' ((with_reducible apply wr)<;>try simp only [go_sem,seval,a4,hw1])
   refine AC.call (hK' j3 b3 _ _ t A0 (by omega)) ?_;rintro v' H' c6 ⟨r4,j4,g4,l4,b4,rfl,rfl⟩ hc6;rw [A1];obtain ⟨x5,e5,m5,a5⟩:=D9 x4 r4 (by (try simp)<;>omega);try simp only [A0E,A0F] at m5
   simp only [go_sem,seval,a5,hw1];repeat' ((with_reducible apply wr)<;>try simp only [go_sem,seval,a5,hw1])
   exact ⟨_,_,GL.refl _ _,x5,j4,by rw [e5,e4,e3,e2,e1];exact .ifB g1 g2 g4,by omega,b4,rfl,rfl⟩
  by_cases q2:q=2
  ·subst q2;obtain ⟨x4,e4,m4,a4⟩:=D9 x3 [32,101,108,115,101,32,105,102,32] (by (try simp)<;>omega);try simp only [A0E,A0F] at m4
   simp only [go_sem,seval,a4,hw1];repeat' ((with_reducible apply wr)<;>try simp only [go_sem,seval,a4,hw1])
   refine AC.call (B0l L hL w hw 0 (by decide) j3 b3 _ _ t A0 (by omega)) ?_;rintro v' H' c6 ⟨r4,j4,g4,l4,b4,rfl,rfl⟩ hc6;rw [A1];obtain ⟨x5,e5,m5,a5⟩:=D9 x4 r4 (by (try simp)<;>omega);try simp only [A0E,A0F] at m5
   obtain ⟨x6,e6,m6,a6⟩:=D9 x5 [32] (by (try simp)<;>omega);try simp only [A0E,A0F] at m6
   simp only [go_sem,seval,a5,a6,hw1];repeat' ((with_reducible apply wr)<;>try simp only [go_sem,seval,a5,a6,hw1])
   refine AC.call (hK' j4 b4 _ _ t A0 (by omega)) ?_;rintro v' H' c7 ⟨r5,j5,g5,l5,b5,rfl,rfl⟩ hc7;rw [A1];obtain ⟨x7,e7,m7,a7⟩:=D9 x6 r5 (by (try simp)<;>omega);try simp only [A0E,A0F] at m7
   simp only [go_sem,seval,a7,hw1];repeat' ((with_reducible apply wr)<;>try simp only [go_sem,seval,a7,hw1])
   exact ⟨_,_,GL.refl _ _,x7,j5,by rw [e7,e6,e5,e4,e3,e2,e1];exact .ifC g1 g2 g4 g5,by omega,b5,rfl,rfl⟩
  obtain rfl:q=0:=by omega
  simp only [go_sem,seval];repeat' ((with_reducible apply wr)<;>try simp only [go_sem,seval])
  exact ⟨_,_,GL.refl _ _,x3,j3,by rw [e3,e2,e1];exact .ifA g1 g2,by omega,b3,rfl,rfl⟩
 by_cases k2:k=2
 ·subst k2;cases qd
  rotate_left
  ·simp only [go_sem,seval,hqd];repeat' ((with_reducible apply wr)<;>try simp only [go_sem,seval,hqd,hw1])
   refine AC.call (L8 L hL w hw [118] (by decide) 3 (by decide) (by decide) j hj _ _ t A0 (by omega)) ?_;rintro v' H' c3 ⟨r1,j1,g1,l1,b1,rfl,rfl⟩ hc3;rw [A1];obtain ⟨x1,e1,m1,a1⟩:=D9 r1 [32,61,32] (by (try simp)<;>omega);try simp only [A0E,A0F] at m1
   simp only [go_sem,seval,a1,hw1];repeat' ((with_reducible apply wr)<;>try simp only [go_sem,seval,a1,hw1])
   refine AC.call (W6 L hL w hw 2 (by decide) j1 b1 _ _ t A0 (by omega)) ?_;rintro v' H' c4 ⟨r2,j2,g2,l2,b2,rfl,rfl⟩ hc4;rw [A1];obtain ⟨x2,e2,m2,a2⟩:=D9 x1 r2 (by (try simp)<;>omega);try simp only [A0E,A0F] at m2
   obtain ⟨x3,e3,m3,a3⟩:=D9 x2 [59] (by (try simp)<;>omega);try simp only [A0E,A0F] at m3
   simp only [go_sem,seval,a2,a3,hw1];repeat' ((with_reducible apply wr)<;>try simp only [go_sem,seval,a2,a3,hw1])
   exact ⟨_,_,GL.refl _ _,x3,j2,by rw [e3,e2,e1];exact .asg g1 g2,by omega,b2,rfl,rfl⟩
  have hK':=hK.resolve_left (hqf rfl);simp only [go_sem,seval,hqd];repeat' ((with_reducible apply wr)<;>try simp only [go_sem,seval,hqd,hw1])
  refine AC.call (B0l L hL w hw 1 (by decide) j hj _ _ t A0 (by omega)) ?_;rintro v' H' c3 ⟨r1,j1,g1,l1,b1,rfl,rfl⟩ hc3;rw [A1];obtain ⟨x1,e1,m1,a1⟩:=D9 [105,102,32] r1 (by (try simp)<;>omega);try simp only [A0E,A0F] at m1
  obtain ⟨x2,e2,m2,a2⟩:=D9 x1 [32] (by (try simp)<;>omega);try simp only [A0E,A0F] at m2
  simp only [go_sem,seval,a1,a2,hw1];repeat' ((with_reducible apply wr)<;>try simp only [go_sem,seval,a1,a2,hw1])
  refine AC.call (hK' j1 b1 _ _ t A0 (by omega)) ?_;rintro v' H' c4 ⟨r2,j2,g2,l2,b2,rfl,rfl⟩ hc4;rw [A1];obtain ⟨x3,e3,m3,a3⟩:=D9 x2 r2 (by (try simp)<;>omega);try simp only [A0E,A0F] at m3
  simp only [go_sem,seval,a3,hw1];repeat' ((with_reducible apply wr)<;>try simp only [go_sem,seval,a3,hw1])
  refine AC.call (T3 L hL w 3 (by decide) (by decide) j2 b2 _ _ t A0 (by omega)) ?_;rintro v' H' c5 ⟨q,j3,hq,b3,rfl,rfl⟩ hc5;rw [A1];by_cases q1:q=1
  ·subst q1;obtain ⟨x4,e4,m4,a4⟩:=D9 x3 [32,101,108,115,101,32] (by (try simp)<;>omega);try simp only [A0E,A0F] at m4
   simp only [go_sem,seval,a4,hw1];repeat' ((with_reducible apply wr)<;>try simp only [go_sem,seval,a4,hw1])
   refine AC.call (hK' j3 b3 _ _ t A0 (by omega)) ?_;rintro v' H' c6 ⟨r4,j4,g4,l4,b4,rfl,rfl⟩ hc6;rw [A1];obtain ⟨x5,e5,m5,a5⟩:=D9 x4 r4 (by (try simp)<;>omega);try simp only [A0E,A0F] at m5
   simp only [go_sem,seval,a5,hw1];repeat' ((with_reducible apply wr)<;>try simp only [go_sem,seval,a5,hw1])
   exact ⟨_,_,GL.refl _ _,x5,j4,by rw [e5,e4,e3,e2,e1];exact .ifB g1 g2 g4,by omega,b4,rfl,rfl⟩
  by_cases q2:q=2
  ·subst q2;obtain ⟨x4,e4,m4,a4⟩:=D9 x3 [32,101,108,115,101,32,105,102,32] (by (try simp)<;>omega);try simp only [A0E,A0F] at m4
   simp only [go_sem,seval,a4,hw1];repeat' ((with_reducible apply wr)<;>try simp only [go_sem,seval,a4,hw1])
   refine AC.call (B0l L hL w hw 0 (by decide) j3 b3 _ _ t A0 (by omega)) ?_;rintro v' H' c6 ⟨r4,j4,g4,l4,b4,rfl,rfl⟩ hc6;rw [A1];obtain ⟨x5,e5,m5,a5⟩:=D9 x4 r4 (by (try simp)<;>omega);try simp only [A0E,A0F] at m5
   obtain ⟨x6,e6,m6,a6⟩:=D9 x5 [32] (by (try simp)<;>omega);try simp only [A0E,A0F] at m6
   simp only [go_sem,seval,a5,a6,hw1];repeat' ((with_reducible apply wr)<;>try simp only [go_sem,seval,a5,a6,hw1])
   refine AC.call (hK' j4 b4 _ _ t A0 (by omega)) ?_;rintro v' H' c7 ⟨r5,j5,g5,l5,b5,rfl,rfl⟩ hc7;rw [A1];obtain ⟨x7,e7,m7,a7⟩:=D9 x6 r5 (by (try simp)<;>omega);try simp only [A0E,A0F] at m7
   simp only [go_sem,seval,a7,hw1];repeat' ((with_reducible apply wr)<;>try simp only [go_sem,seval,a7,hw1])
   exact ⟨_,_,GL.refl _ _,x7,j5,by rw [e7,e6,e5,e4,e3,e2,e1];exact .ifC g1 g2 g4 g5,by omega,b5,rfl,rfl⟩
  obtain rfl:q=0:=by omega
  simp only [go_sem,seval];repeat' ((with_reducible apply wr)<;>try simp only [go_sem,seval])
  exact ⟨_,_,GL.refl _ _,x3,j3,by rw [e3,e2,e1];exact .ifA g1 g2,by omega,b3,rfl,rfl⟩
 omega
def A3k (ss:List (List UInt8)):List UInt8:=ss.foldl (fun a x=>(a++[32])++x) [123]
theorem A7k (ss:List (List UInt8)) (x:List UInt8):A3k (ss++[x])=(A3k ss++[32])++x:=by unfold A3k;rw [A3E];rfl
def BkG (P:List UInt8->Prop) (s:List UInt8):Prop:=∃ ss:List (List UInt8),ss.length<=3/\(∀ x∈ss,P x)/\s=A3k ss++[32,125]
theorem B6d (L:List UInt8) (hL:L.length<=300) (w:Nat) (D:Int) (sb:Nat) (hsb:sb<=10000000) (P:List UInt8->Prop) (hS:MC 139 [I64 D] L w sb P) :
  MC 107 [I64 D] L w (3 * sb+10) (BkG P):=by
 intro i hi H cc t ht htc;refine AC.body A9 isU107 (A0B rfl) fun hfr=>?_;show IW Tryz.prog 21 u107_1 ⟨B7 _,_,_⟩ (rt [.tmp 4] _);repeat' ((with_reducible apply wr)<;>try simp only [go_sem,seval])
 refine AC.call (T3 L hL w 4 (by decide) (by decide) i hi _ _ t ht (by omega)) ?_;rintro v' H' c2 ⟨k,j,hlt,hj,rfl,rfl⟩ hc2;simp only [go_sem,seval];repeat' ((with_reducible apply wr)<;>try simp only [go_sem,seval])
 refine B9 (fun q:Nat × Nat × List (List UInt8)=>[(0,.ptr t 0),(1,I64 D),(5,.str (A3k q.2.2)),(6,I64 q.1)]) (fun q=>H.upd t (mkB L w q.2.1))
  (fun q c=>cc<=c/\q.1+q.2.2.length<=3/\q.2.1<=300/\(∀ x∈q.2.2,P x)/\(A3k q.2.2).length<=1+q.2.2.length * (sb+1)) (fun q=>q.1) (k,j,[])
  (by simp [C1,tm,Tm.upd,A3k]) (Sub.refl _) ⟨hc2,(by show k+0<=3;omega),hj,(fun x hx=>absurd hx (List.not_mem_nil)),(by show 1<=1+0 * _;omega)⟩ ?_
 rintro ⟨n,i2,ss⟩ c ⟨hc,hn,hi2,hP,hl⟩;dsimp only at hc hn hi2 hP hl ⊢;have hs3:ss.length * (sb+1)<=3 * (sb+1):=A1Y _ (by omega);by_cases h0:0<n
 ·have qn:decide ((n:Int)>0)=true:=by simpa using h0
  have hs2:ss.length * (sb+1)<=2 * (sb+1):=A1Y _ (by omega);obtain ⟨n,rfl⟩:∃ m,n=m+1:=⟨n-1,by omega⟩;have hw1:IntKind.i64.wrap (((n+1:Nat):Int)-1)=(n:Int):=by rw [w64 (by omega) (by omega)];omega
  generalize hn1:((n+1:Nat):Int)=N1 at qn hw1 ⊢;obtain ⟨x1,e1,m1,a1⟩:=D9 (A3k ss) [32] (by (try simp)<;>omega);try simp only [A0E,A0F] at m1
  repeat' ((with_reducible apply wr)<;>try simp only [go_sem,seval,qn,a1])
  refine AC.call (hS i2 hi2 _ _ t A0 (by omega)) ?_;rintro v' H' c3 ⟨r,i3,g,l,hi3,rfl,rfl⟩ hc3;obtain ⟨x2,e2,m2,a2⟩:=D9 x1 r (by omega);rw [A1];simp only [go_sem,seval,a1,a2,hw1];repeat' ((with_reducible apply wr)<;>try simp only [go_sem,seval,a1,a2,hw1])
  refine ⟨(n,i3,ss++[r]),?_,Sub.refl _,inv ⟨by omega,by simp;omega,hi3,?_,?_⟩,by simp only;omega⟩
  ·rw [e1] at e2;simp [C1,tm,Tm.upd,A7k,e2]
  ·intro x hx;rcases A1X.1 hx with hx|hx
   ·exact hP x hx
   ·rw [A2D.1 hx];exact g
  ·rw [A7k, <- e1, <- e2,A0A,A0H,A2O];omega
 ·obtain rfl:n=0:=by omega
  obtain ⟨x1,e1,m1,a1⟩:=D9 (A3k ss) [32,125] (by (try simp)<;>omega);try simp only [A0E,A0F] at m1
  repeat' ((with_reducible apply wr)<;>try simp only [go_sem,seval,a1])
  exact ⟨_,_,GL.refl _ _,x1,i2,⟨ss,by omega,hP,e1⟩,by omega,hi2,rfl,rfl⟩
def StD (L:List UInt8) (w:Nat):Nat->List UInt8->Prop
 | 0=>StG L w fun _=>False
 | d+1=>StG L w (BkG (StD L w d))
def sbD:Nat->Nat
 | 0=>8000
 | d+1=>2 * (3 * sbD d+10)+8000
theorem C0y (L:List UInt8) (hL:L.length<=300) (w:Nat) (hw:w<=100):∀ d:Nat,d<=2->MC 139 [I64 d] L w (sbD d) (StD L w d)
 | 0,_=>c_Stmt L hL w hw 0 (by omega) (by omega) 0 (by omega) _ (.inl (by omega))
 | d+1,h=>by
  have hs:∀ d,d<=2->sbD d<=1000000:=by decide
  have h1:=C0y L hL w hw d (by omega);have h2:=B6d L hL w (d:Int) (sbD d) (by have:=hs d (by omega);omega) _ h1;have e:(((d+1:Nat):Int)-1)=(d:Int):=by omega
  refine c_Stmt L hL w hw ((d+1:Nat):Int) (by omega) (by omega) (3 * sbD d+10) (by have:=hs d (by omega);omega) _ (.inr ?_);rw [e];exact h2
theorem C9y (L:List UInt8) (hL:L.length<=300) (w:Nat) (hw:w<=100):MC 107 [I64 2] L w 2000000 (BkG (StD L w 2)):=by
 intro i hi H cc t ht htc;refine (B6d L hL w ((2:Nat):Int) (sbD 2) (by decide) _ (C0y L hL w hw 2 (by omega)) i hi H cc t ht htc).mono ?_;rintro v H' c' ⟨s,j,h1,h2,h3⟩;exact ⟨s,j,h1,A1G h2 (by decide),h3⟩
def B8v:List (List UInt8):=[[115,116,97,114,116],[115,116,111,112],[99,108,111,115,101,32,115,119,48],[111,112,101,110,32,115,119,48],[99,108,111,115,101,32,115,119,49],[99,108,111,115,101,32,115,119,50],[116,105,109,101,114,32,116,109,48],[116,105,109,101,114,32,116,109,49],[101,118,101,110,116,32,101,118,48],[101,118,101,110,116,32,101,118,49],[111,112,101,110,32,115,119,51]]
def C7y:List DV:=[.str [115,116,97,114,116],.str [115,116,111,112],.str [99,108,111,115,101,32,115,119,48],.str [111,112,101,110,32,115,119,48],.str [99,108,111,115,101,32,115,119,49],.str [99,108,111,115,101,32,115,119,50],.str [116,105,109,101,114,32,116,109,48],.str [116,105,109,101,114,32,116,109,49],.str [101,118,101,110,116,32,101,118,48],.str [101,118,101,110,116,32,101,118,49],.str [111,112,101,110,32,115,119,51]]
theorem B8u {k:Nat} (h:k<11):C7y[k]? = some (.str (B8v.getD k [])):=by
 match k,h with
 | 0,_=>rfl
 | 1,_=>rfl
 | 2,_=>rfl
 | 3,_=>rfl
 | 4,_=>rfl
 | 5,_=>rfl
 | 6,_=>rfl
 | 7,_=>rfl
 | 8,_=>rfl
 | 9,_=>rfl
 | 10,_=>rfl
inductive HdG (L:List UInt8) (w k:Nat):List UInt8->Prop where
 | std {x:List UInt8}:BkG (StD L w 2) x->HdG L w k ((([111,110,32]++B8v.getD (k % 11) [])++[32])++x)
 | wild {n x:List UInt8}:0<w->NmS L w [115,119] 4 n->BkG (StD L w 2) x->HdG L w k ((([111,110,32]++([99,108,111,115,101,32]++n))++[32])++x)
theorem B7s (L:List UInt8) (hL:L.length<=300) (w:Nat) (hw:w<=100) (k:Nat) (hk:k<=1000):MC 69 [I64 k] L w 2001000 (HdG L w k):=by
 intro i hi H cc t ht htc;refine AC.body A9 isU69 (A0B rfl) fun hfr=>?_;show IW Tryz.prog 34 u69_1 ⟨B7 _,_,_⟩ (rt [.tmp 4] _);have hrm:binR .rem (I64 (k:Int)) (.int .i64 11)=some (I64 ((k % 11:Nat):Int)):=by rw [A8p (by decide)];rfl
 repeat' ((with_reducible apply wr)<;>try simp only [go_sem,seval,hrm])
 have hm11:=Nat.mod_lt k (show 0<11 by decide);have hld:=B8u hm11;have hg:=N3 (l:=B8v) (n:=10) (by decide) (k % 11);have hcon:∀ x,BkG (StD L w 2) x->HdG L w k ((([111,110,32]++B8v.getD (k % 11) [])++[32])++x):=fun x hx=>.std hx;generalize k % 11=m at hm11 hld hg hcon ⊢;generalize B8v.getD m []=tr at hld hg hcon ⊢;have hia:M6 1 (.slc cc 0 11) (I64 (m:Int))=some (.ptr cc m):=by simp [M6];omega
 rw [show ([.str [115,116,97,114,116],.str [115,116,111,112],.str [99,108,111,115,101,32,115,119,48],.str [111,112,101,110,32,115,119,48],.str [99,108,111,115,101,32,115,119,49],.str [99,108,111,115,101,32,115,119,50],.str [116,105,109,101,114,32,116,109,48],.str [116,105,109,101,114,32,116,109,49],.str [101,118,101,110,116,32,101,118,48],.str [101,118,101,110,116,32,101,118,49],.str [111,112,101,110,32,115,119,51]]:List DV)=C7y from rfl];generalize C7y=WL at hld ⊢;have ne0:=L2 t cc (by omega);have kB:∀ (i2 c0:Nat) (tx:List UInt8),i2<=300->cc+1<=c0->tx.length<=300->(∀ x,BkG (StD L w 2) x->HdG L w k ((([111,110,32]++tx)++[32])++x)) ->
   IW Tryz.prog 34 u69_7 ⟨tm [(0,.ptr t 0),(5,.str tx)],(H.upd cc ⟨1,true,WL⟩).upd t (mkB L w i2),c0⟩ (rt [.tmp 4] fun v H' c' => ∃ v2 H2,GL H' [v] H2 [v2]/\∃ s j,HdG L w k s/\s.length<=2001000/\j<=300/\v2=.str s/\H2=H.upd t (mkB L w j)):=by
  intro i2 c0 tx hi2 hc0 htx hx;obtain ⟨x1,e1,m1,a1⟩:=D9 [111,110,32] tx (by (try simp)<;>omega);try simp only [A0E,A0F] at m1
  obtain ⟨x2,e2,m2,a2⟩:=D9 x1 [32] (by (try simp)<;>omega);try simp only [A0E,A0F] at m2
  repeat' ((with_reducible apply wr)<;>try simp only [go_sem,seval,a1,a2])
  refine AC.call (C9y L hL w hw i2 hi2 _ _ t A0 (by omega)) ?_;rintro v' H' c3 ⟨r,j,g,l,b,rfl,rfl⟩ hc3;obtain ⟨x3,e3,m3,a3⟩:=D9 x2 r (by omega);rw [A1];simp only [go_sem,seval,a3];repeat' ((with_reducible apply wr)<;>try simp only [go_sem,seval,a3])
  refine ⟨_,_,GL.less' (fun j2 q hj=>?_),x3,j,by rw [e3,e2,e1];exact hx r g,by omega,b,rfl,rfl⟩;by_cases e:j2=t
  ·subst e;rw [A0] at hj ⊢;exact hj
  ·rw [A2 e] at hj ⊢;have:j2≠cc:=by rintro rfl;rw [hfr _ (by omega)] at hj;cases hj
   rw [A2 this];exact hj
 simp only [go_sem,seval,ne0,hia,hld,A0,ht];by_cases h0:0<w
 ·have q0:decide ((w:Int)>0)=true:=by simpa using h0
  repeat' ((with_reducible apply wr)<;>try simp only [go_sem,seval,ne0,hia,hld,A0,ht,q0])
  refine AC.call (T3 L hL w w h0 (by omega) i hi _ _ t (by rw [A2 (by omega)];exact ht) (by omega)) ?_;rintro v' H' c2 ⟨q,j,hq,hj,rfl,rfl⟩ hc2;by_cases q1:q=1
  ·subst q1;simp only [go_sem,seval];repeat' ((with_reducible apply wr)<;>try simp only [go_sem,seval])
   refine AC.call (L8 L hL w hw [115,119] (by decide) 4 (by decide) (by decide) j hj _ _ t A0 (by omega)) ?_;rintro v' H' c3 ⟨r,j2,g,l,b,rfl,rfl⟩ hc3;obtain ⟨x1,e1,m1,a1⟩:=D9 [99,108,111,115,101,32] r (by (try simp)<;>omega);try simp only [A0E,A0F] at m1
   rw [A1];simp only [go_sem,seval,a1];repeat' ((with_reducible first|refine G8 (p:=IW _ _ u69_7 _ _) ?_|refine wr ?_|fail)<;>try simp only [go_sem,seval,a1])
   exact IW.stage (by simp [C1,tm,Tm.upd]) (kB j2 _ x1 b (by omega) (by omega) (fun x hx=>by rw [e1];exact .wild h0 g hx))
  ·have qq:((q:Int) == 1)=false:=by simp;omega
   simp only [go_sem,seval,qq];repeat' ((with_reducible first|refine G8 (p:=IW _ _ u69_7 _ _) ?_|refine wr ?_|fail)<;>try simp only [go_sem,seval,qq])
   exact IW.stage (by simp [C1,tm,Tm.upd]) (kB j _ tr hj (by omega) (by omega) hcon)
 ·have q0:decide ((w:Int)>0)=false:=by simpa using h0
  repeat' ((with_reducible first|refine G8 (p:=IW _ _ u69_7 _ _) ?_|refine wr ?_|fail)<;>try simp only [go_sem,seval,ne0,hia,hld,A0,ht,q0])
  have:=kB i (cc+1) tr hi (A0I _) (by omega) hcon;rw [upd_same (by rw [A2 (by omega)];exact ht)] at this;exact IW.stage (by simp [C1,tm,Tm.upd]) this
def ruA:List UInt8:=[115,119,105,116,99,104,32,115,119,48,32,51,59,32,115,119,105,116,99,104,32,115,119,49,32,57,59,32,115,119,105,116,99,104,32,115,119,50,32,52,48,59,32,115,119,105,116,99,104,32,115,119,51,32,54,51,59,10,99,111,105,108,32,99,111,105,108,48,32,48,59,32,99,111,105,108,32,99,111,105,108,49,32,55,59,32,99,111,105,108,32,99,111,105,108,50,32,51,49,59,10,108,97,109,112,32,108,97,109,112,48,32,48,59,32,108,97,109,112,32,108,97,109,112,49,32,57,59,32,108,97,109,112,32,108,97,109,112,50,32,51,51,59,32,108,97,109,112,32,108,97,109,112,51,32,54,51,59,10,115,111,117,110,100,32,115,110,100,48,32,48,59,32,115,111,117,110,100,32,115,110,100,49,32,53,59,32,115,104,111,119,32,115,104,111,119,48,32,48,59,32,115,104,111,119,32,115,104,111,119,49,32,49,59,10]
def ruB:List UInt8:=[118,97,114,32,118,48,32]
def ruC:List UInt8:=[59,32,118,97,114,32,118,49,32,49,59,32,118,97,114,32,118,50,32,48,59,32,116,105,109,101,114,32,116,109,48,59,32,116,105,109,101,114,32,116,109,49,59,32,101,118,101,110,116,32,101,118,48,59,32,101,118,101,110,116,32,101,118,49,59,10]
def v0L:List (List UInt8):=[[48],[53],[45,55],[50,49,52,55,52,56,51,54,52,55]]
def v0V:List DV:=[.str [48],.str [53],.str [45,55],.str [50,49,52,55,52,56,51,54,52,55]]
theorem C3g {k:Nat} (h:k<4):v0V[k]? = some (.str (v0L.getD k [])):=by
 match k,h with
 | 0,_=>rfl
 | 1,_=>rfl
 | 2,_=>rfl
 | 3,_=>rfl
def A0w (s:List UInt8) (hs:List (List UInt8)):List UInt8:=hs.foldl (fun a x=>(a++x)++[10]) s
theorem B4p (s:List UInt8) (hs:List (List UInt8)) (x:List UInt8):A0w s (hs++[x])=(A0w s hs++x)++[10]:=by unfold A0w;rw [A3E];rfl
def C0x (s:List UInt8) (i p:Nat):List UInt8:=((((s++[109,111,100,101,32,109,111,100,101])++Q5 (i:Int))++[32])++Q5 (p:Int))++[32,123,10]
inductive RuP (L:List UInt8) (w:Nat):Nat->List UInt8->Prop where
 | head {k:Nat}:k<4->RuP L w 0 (((ruA++ruB)++v0L.getD k [])++ruC)
 | mode {i p k:Nat} {s:List UInt8} {hs:List (List UInt8)}:RuP L w i s->p<4->k<11->hs.length<=4->(∀ j x,hs[j]? = some x->HdG L w (k+j) x)->RuP L w (i+1) (A0w (C0x s i p) hs++[125,10])
theorem C4z (L:List UInt8) (hL:L.length<=300) (w:Nat) (hw:w<=100):MC 35 [] L w 30000000 (RuP L w 3):=by
 intro i hi H cc t ht htc;refine AC.body A9 isU35 (A0B rfl) fun hfr=>?_;show IW Tryz.prog 50 u35_1 ⟨B7 _,_,_⟩ (rt [.tmp 2] _);obtain ⟨x1,e1,m1,a1⟩:=D9 ruA ruB (by decide);have l1:x1.length<=300:=by rw [m1];decide
 replace a1:binR .add (.str [115,119,105,116,99,104,32,115,119,48,32,51,59,32,115,119,105,116,99,104,32,115,119,49,32,57,59,32,115,119,105,116,99,104,32,115,119,50,32,52,48,59,32,115,119,105,116,99,104,32,115,119,51,32,54,51,59,10,99,111,105,108,32,99,111,105,108,48,32,48,59,32,99,111,105,108,32,99,111,105,108,49,32,55,59,32,99,111,105,108,32,99,111,105,108,50,32,51,49,59,10,108,97,109,112,32,108,97,109,112,48,32,48,59,32,108,97,109,112,32,108,97,109,112,49,32,57,59,32,108,97,109,112,32,108,97,109,112,50,32,51,51,59,32,108,97,109,112,32,108,97,109,112,51,32,54,51,59,10,115,111,117,110,100,32,115,110,100,48,32,48,59,32,115,111,117,110,100,32,115,110,100,49,32,53,59,32,115,104,111,119,32,115,104,111,119,48,32,48,59,32,115,104,111,119,32,115,104,111,119,49,32,49,59,10]) (.str [118,97,114,32,118,48,32])=some (.str x1):=a1;dsimp only at a1;repeat' ((with_reducible apply wr)<;>try simp only [go_sem,seval,a1])
 refine AC.call (T3 L hL w 4 (by decide) (by decide) i hi _ _ t (by rw [A2 (by omega)];exact ht) (by omega)) ?_;rintro v' H' c3 ⟨k3,j1,hlt3,b1,rfl,rfl⟩ hc3;have hia:M6 1 (.slc (cc) 0 4) (I64 (k3:Int))=some (.ptr (cc) k3):=by simp [M6];omega
 have hld:=C3g hlt3;have hg:=N3 (l:=v0L) (n:=10) (by decide) k3;have hcon:RuP L w 0 (((ruA++ruB)++v0L.getD k3 [])++ruC):=.head hlt3;generalize hog:v0L.getD k3 []=og at hg hld hcon;generalize hWL:v0V=WL at hld;have hWL2:[.str [48],.str [53],.str [45,55],.str [50,49,52,55,52,56,51,54,52,55]]=WL:=hWL;have ne0:=L2 t cc (by omega);obtain ⟨x2,e2,m2,a2⟩:=D9 x1 og (by omega);have l2:ruC.length<=100:=by decide
 obtain ⟨x3,e3,m3,a3⟩:=D9 x2 ruC (by omega);replace a3:binR .add (.str x2) (.str [59,32,118,97,114,32,118,49,32,49,59,32,118,97,114,32,118,50,32,48,59,32,116,105,109,101,114,32,116,109,48,59,32,116,105,109,101,114,32,116,109,49,59,32,101,118,101,110,116,32,101,118,48,59,32,101,118,101,110,116,32,101,118,49,59,10])=some (.str x3):=a3;dsimp only at a3;simp only [go_sem,seval,A0,A1,ne0,hia,hWL2,hld,a1,a2,a3];have hfin:∀ (B:Blk) ds,GL ((H.upd cc ⟨1,true,WL⟩).upd t B) ds (H.upd t B) ds:=fun B ds=>GL.less' (fun j2 q hj=>by
  by_cases e:j2=t
  ·subst e;rw [A0] at hj ⊢;exact hj
  ·rw [A2 e] at hj ⊢;have:j2≠cc:=by rintro rfl;rw [hfr _ (by omega)] at hj;cases hj
   rw [A2 this];exact hj)
 generalize H.upd cc ⟨1,true,WL⟩=G at hfin ⊢;have hx3:RuP L w 0 x3:=by rw [e3,e2,e1];exact hcon
 have l3:x3.length<=500:=by omega
 clear hcon e1 e2 e3 a1 a2 a3 hld hWL hWL2 hia;repeat' ((with_reducible apply wr)<;>try simp only [go_sem,seval])
 refine B9 (fun q:Nat × Nat × List UInt8=>[(0,.ptr t 0),(3,.str q.2.2),(4,I64 q.1)]) (fun q=>G.upd t (mkB L w q.2.1))
  (fun q c=>cc<=c/\q.1<=3/\q.2.1<=300/\RuP L w q.1 q.2.2/\q.2.2.length<=500+q.1 * 8100000) (fun q=>3-q.1) (0,j1,x3)
  (by simp [C1,tm,Tm.upd]) (Sub.refl _) ⟨(by omega),(by omega),b1,hx3,(by show x3.length<=500+0 * _;omega)⟩ ?_
 rintro ⟨i,j,s⟩ c ⟨hc,hi3,hj,hR,hl⟩;dsimp only at hc hi3 hj hR hl ⊢;have hl3:s.length<=25000000:=by have:i * 8100000<=3 * 8100000:=A1Y _ hi3;omega
 by_cases h3:i<3
 ·have qi:decide ((i:Int)<3)=true:=by simp;omega
  have hdi:=c_Dec' (i:Int) (by omega) (by omega);have hdil:=P5 (n:=(i:Int)) (by omega) (by omega);obtain ⟨y1,f1,n1,c1⟩:=D9 s [109,111,100,101,32,109,111,100,101] (by (try simp)<;>omega);try simp only [A0E,A0F] at n1
  obtain ⟨y2,f2,n2,c2⟩:=D9 y1 (Q5 (i:Int)) (by omega);obtain ⟨y3,f3,n3,c3⟩:=D9 y2 [32] (by (try simp)<;>omega);try simp only [A0E,A0F] at n3
  repeat' ((with_reducible first|apply wr|refine cpc hdi ?_|fail)<;>try simp only [go_sem,seval,qi,c1,c2,c3])
  refine AC.call (T3 L hL w 4 (by decide) (by decide) j hj _ _ t A0 (by omega)) ?_;rintro v' H' c4 ⟨p,j2,hp,b2,rfl,rfl⟩ hc4;rw [A1];have hdp:=c_Dec' (p:Int) (by omega) (by omega);have hdpl:=P5 (n:=(p:Int)) (by omega) (by omega);obtain ⟨y4,f4,n4,c5⟩:=D9 y3 (Q5 (p:Int)) (by omega);obtain ⟨y5,f5,n5,c6⟩:=D9 y4 [32,123,10] (by (try simp)<;>omega);try simp only [A0E,A0F] at n5
  simp only [go_sem,seval,c5,c6];repeat' ((with_reducible first|apply wr|refine cpc hdp ?_|fail)<;>try simp only [go_sem,seval,c5,c6])
  refine AC.call (T3 L hL w 11 (by decide) (by decide) j2 b2 _ _ t A0 (by omega)) ?_;rintro v' H' c7 ⟨k,j3,hk,b3,rfl,rfl⟩ hc7;rw [A1];simp only [go_sem,seval];repeat' ((with_reducible apply wr)<;>try simp only [go_sem,seval])
  refine AC.call (T3 L hL w 5 (by decide) (by decide) j3 b3 _ _ t A0 (by omega)) ?_;rintro v' H' c8 ⟨n,j4,hn,b4,rfl,rfl⟩ hc8;rw [A1];simp only [go_sem,seval];repeat' ((with_reducible apply wr)<;>try simp only [go_sem,seval])
  have hy:y5=C0x s i p:=by rw [f5,f4,f3,f2,f1];rfl
  have ly:y5.length<=s.length+200:=by omega
  refine B9 (fun q:Nat × Nat × List (List UInt8)=>[(0,.ptr t 0),(3,.str (A0w y5 q.2.2)),(4,I64 i),(5,I64 (k+q.2.2.length:Nat)),(6,I64 q.1)]) (fun q=>G.upd t (mkB L w q.2.1))
   (fun q n=>cc<=n/\q.1+q.2.2.length<=4/\q.2.1<=300/\(∀ j x,q.2.2[j]? = some x->HdG L w (k+j) x)/\(A0w y5 q.2.2).length<=y5.length+q.2.2.length * 2001001) (fun q=>q.1) (n,j4,[])
   (by simp [C1,tm,Tm.upd,A0w]) (Sub.refl _) ⟨(by omega),(by show n+0<=4;omega),b4,(fun j x h=>by cases h),(by show y5.length<=y5.length+0 * _;omega)⟩ ?_
  clear hc8 b4 hn n j4 c8;rintro ⟨n,j5,hs⟩ c8 ⟨hc8,hn,b5,hH,lh⟩;dsimp only at hc8 hn b5 hH lh ⊢;have hs4:hs.length * 2001001<=4 * 2001001:=A1Y _ (by omega);by_cases h0:0<n
  ·have qn:decide ((n:Int)>0)=true:=by simpa using h0
   have hs3:hs.length * 2001001<=3 * 2001001:=A1Y _ (by omega);obtain ⟨n,rfl⟩:∃ m,n=m+1:=⟨n-1,by omega⟩;have hw1:IntKind.i64.wrap (((n+1:Nat):Int)-1)=(n:Int):=by rw [w64 (by omega) (by omega)];omega
   have hw2:IntKind.i64.wrap (((k+hs.length:Nat):Int)+1)=((k+hs.length+1:Nat):Int):=by rw [w64 (by omega) (by omega)];omega
   generalize hn1:((n+1:Nat):Int)=N1 at qn hw1 ⊢;generalize hk1:k+hs.length=K1 at hw2 ⊢;repeat' ((with_reducible apply wr)<;>try simp only [go_sem,seval,qn])
   refine AC.call (B7s L hL w hw K1 (by omega) j5 b5 _ _ t A0 (by omega)) ?_;rintro v' H' c9 ⟨r,j6,g,l,b6,rfl,rfl⟩ hc9;obtain ⟨z1,g1,o1,d1⟩:=D9 (A0w y5 hs) r (by omega);obtain ⟨z2,g2,o2,d2⟩:=D9 z1 [10] (by (try simp)<;>omega);try simp only [A0E,A0F] at o2
   rw [A1];simp only [go_sem,seval,d1,d2,hw1,hw2];repeat' ((with_reducible apply wr)<;>try simp only [go_sem,seval,d1,d2,hw1,hw2])
   have e1:A0w y5 (hs++[r])=z2:=by rw [B4p,g2,g1]
   have e2:(hs++[r]).length=hs.length+1:=by simp
   refine ⟨(n,j6,hs++[r]),?_,Sub.refl _,inv ⟨(by omega),(by show n+(hs++[r]).length<=4;omega),b6,(fun j x hx=>?_),(by show (A0w y5 (hs++[r])).length<=y5.length+(hs++[r]).length * 2001001;rw [e1,e2,A2O];omega)⟩,(by simp only;omega)⟩
   ·simp only [e1,e2];simp [C1,tm,Tm.upd];omega
   ·by_cases hj2:j<hs.length
    ·rw [A2P hj2] at hx;exact hH j x hx
    ·rw [A2H (by omega)] at hx;have hj3:j-hs.length=0:=by
      have:=(A0K.1 hx).1;simp at this;omega
     rw [hj3] at hx;cases hx;obtain rfl:j=hs.length:=by omega
     rw [hk1];exact g
  ·obtain rfl:n=0:=by omega
   obtain ⟨z1,g1,o1,d1⟩:=D9 (A0w y5 hs) [125,10] (by (try simp)<;>omega);try simp only [A0E,A0F] at o1
   have hw2:IntKind.i64.wrap ((i:Int)+1)=((i+1:Nat):Int):=by rw [w64 (by omega) (by omega)];omega
   repeat' ((with_reducible apply wr)<;>try simp only [go_sem,seval,d1,hw2])
   refine ⟨(i+1,j5,z1),(by simp [C1,tm,Tm.upd]),Sub.refl _,inv ⟨(by omega),(by omega),b5,(by show RuP L w (i+1) z1;rw [g1,hy];exact .mode hR hp hk (by omega) hH),(by show z1.length<=500+(i+1) * 8100000;rw [A2O];omega)⟩,(by simp only;omega)⟩
 ·obtain rfl:i=3:=by omega
  repeat' ((with_reducible apply wr)<;>try simp only [go_sem,seval])
  exact ⟨_,_,hfin _ _,s,j,hR,by omega,hj,rfl,rfl⟩
theorem c_New (l:List UInt8) (hl:l.length<=9223372036854775807) (H:Hp) (cc:Nat) :
  AC Tryz.prog 22 [.lst (bytesC l)] H cc (fun v H' c' => ∃ t,cc<=t/\t<c'/\v=.ptr t 0/\H'=H.upd t (mkB (l.take 300) 0 0)):=by
 refine AC.body A9 isU22 (A0B rfl) fun hfr=>?_;show IW Tryz.prog 10 u22_1 ⟨B7 _,_,_⟩ (rt [.tmp 2] _);have hlen:(bytesC l).length=l.length:=by simp [bytesC]
 have hmin:(if (300:Int)<((l.length:Nat):Int) then (300:Int) else ((l.length:Nat):Int))=((min l.length 300:Nat):Int):=by split<;>omega
 have hsl:A0m H 1 (.lst (bytesC l)) none (some (I64 ((min l.length 300:Nat):Int)))=some (.lst (bytesC (l.take 300))):=by
  have hb:boundOf (bytesC l).length (some (I64 ((min l.length 300:Nat):Int)))=some (min l.length 300):=by simp [boundOf]
  have hu:Sym.unit 1 (bytesC l)=true:=by simp only [Sym.unit,bytesC,List.all_map];exact A0R.2 fun x _=>rfl
  simp only [A0m,hb];have h0:boundOf 0 none=some 0:=rfl;rw [h0];dsimp only;rw [if_pos ⟨by rw [hlen];omega,A0N _,hu⟩];rw [A2U,A3M];unfold bytesC;rw [<- A3U];have e:l.take (min l.length 300)=l.take 300:=by
   rcases Nat.le_total l.length 300 with h|h
   ·rw [Nat.min_eq_left h,A0J (A0I _),A0J h]
   ·rw [Nat.min_eq_right h]
  rw [e]
 repeat' ((with_reducible apply wr)<;>try simp only [go_sem,seval,hlen,hmin,hsl])
 exact ⟨_,_,GL.refl _ _,cc,A0I _,A2T _,rfl,rfl⟩
theorem C2x (l:List UInt8):DV.nlL (bytesC l)=true:=K8 (fun _=>rfl) l
end Go.Proofs.YtnmkkggfgdfmeaaGreatDoor
namespace Go.Pb
variable [Go.Sym.Tab]
open Go.Sym
def A1d (n:Nat) (l:List Tok):Prop:=(∀ t∈l,Fit t)/\l.length<=n/\A0l l<=n
theorem X7 (a b:List Tok):A0l (a++b)=A0l a+A0l b:=by simp [A0l]
theorem A1d.mono {n m:Nat} {l:List Tok} (h:A1d n l) (hm:n<=m):A1d m l:=⟨h.1,A1G h.2.1 hm,A1G h.2.2 hm⟩
def wd0 (l x:List Tok) (k:Nat):List Tok:=l.take k++x++l.drop (k+1)
def wd1 (l:List Tok) (k:Nat):List Tok:=l.take k++l.drop (k+1)
def wd2 (l x:List Tok) (k:Nat):List Tok:=l.take k++x++l.drop k
theorem A8i (l:List Tok) (k:Nat):A0l (l.drop k)+A0l (l.take k)=A0l l:=by
 have e:=X7 (l.take k) (l.drop k);rw [A2V] at e;omega
theorem B3k (l:List Tok) (k:Nat):A0l (l.drop (k+1))<=A0l (l.drop k):=by
 have:=A8i (l.drop k) 1;rw [A3G] at this;omega
theorem A1d.drop1 {n m:Nat} {l x:List Tok} (h:A1d n l) (hx:A1d m x) (k:Nat):A1d (n+m) (wd2 l x k)/\A1d (n+m) (wd0 l x k)/\A1d (n+m) (wd1 l k):=by
 obtain ⟨h1,h2,h3⟩:=h;obtain ⟨g1,g2,g3⟩:=hx;have e1:=A8i l k;have e2:=B3k l k;have t1:∀ t∈l.take k,Fit t:=fun t ht=>h1 t (A3F ht);have t2:∀ j, ∀ t∈l.drop j,Fit t:=fun j t ht=>h1 t (A3V ht);unfold wd0 wd1 wd2;refine ⟨⟨?_,?_,?_⟩,⟨?_,?_,?_⟩,⟨?_,?_,?_⟩⟩
 ·intro t ht;rcases A1X.1 ht with ht|ht
  ·exact (A1X.1 ht).elim (t1 t) (g1 t)
  ·exact t2 _ t ht
 ·simp only [A0A,A0S,A1D];omega
 ·rw [X7,X7];omega
 ·intro t ht;rcases A1X.1 ht with ht|ht
  ·exact (A1X.1 ht).elim (t1 t) (g1 t)
  ·exact t2 _ t ht
 ·simp only [A0A,A0S,A1D];omega
 ·rw [X7,X7];omega
 ·intro t ht;rcases A1X.1 ht with ht|ht
  ·exact t1 t ht
  ·exact t2 _ t ht
 ·simp only [A0A,A0S,A1D];omega
 ·rw [X7];omega
theorem A8o:∀ (f:Nat) (s:List UInt8) (k:Nat) (acc:List Tok),(M4 f s k acc).2.2≠0->(M4 f s k acc).1=[]
 | 0,s,k,acc,h=>absurd rfl h
 | f+1,s,k,acc,h=>by
  unfold M4 at h ⊢;split at h
  ·exact absurd rfl h
  ·rename_i h1;rw [if_neg h1];split at h
   ·rename_i h2;rw [if_pos h2]
   ·rename_i h2;rw [if_neg h2];exact A8o f _ _ _ h
theorem B5k (s:List UInt8):A1d 20000 (F4 s).1:=by
 by_cases h:(F4 s).2.2=0
 ·obtain ⟨h1,h2⟩:=A0o h;have h3:=h2.len (U4 false s);exact ⟨fun t ht=>(A9v h t ht).fit,by omega,by omega⟩
 ·have e:(F4 s).1=[]:=by
   unfold F4 at h ⊢;split at h
   ·rename_i h1;rw [if_pos h1]
   ·rename_i h1;rw [if_neg h1];exact A8o _ _ _ _ h
  rw [e];exact ⟨fun t ht=>(by cases ht),A0N _,A0N _⟩
theorem A1d.text {n:Nat} {l:List Tok} (h:A1d n l):(A2u l).length<=2 * n:=by
 have h1:=A7h B5h l 0;obtain ⟨_,h2,h3⟩:=h;unfold A2u;omega
end Go.Pb
namespace Go.Pb
variable [Go.Sym.Tab]
open Go.Sym
theorem A6o {α : Type} {F : α -> DV} {u:Nat} (h:∀ a,(F a).cells.length=u) (l:List α):unit u (l.map F)=true:=by
 unfold unit;rw [A0R];intro x hx;obtain ⟨a, -,rfl⟩:=A1Z.1 hx;simp [h a]
end Go.Pb
namespace Go.Proofs.YtnmkkggfgdfmeaaGreatDoor
open Go.Eng (IC IOper DReg IFn A7)
open Go.Sym Go.Pb
def B8l:List (List UInt8):=[[123],[125],[40],[41],[59],[44],[61],[43],[45],[42],[33],[60],[61,61],[38,38],[105,102],[101,108,115,101],[114,101,112,101,97,116],[111,110],[109,111,100,101],[120],[55],[34,115,34],[99,108,111,115,101,100],[108,101,102,116],[116,114,117,101],[115,116,97,114,116],[116,105,109,101,114],[118,97,114],[115,99,111,114,101],[99,111,110,115,117,109,101]]
theorem B9l {H:Hp} (t:List Tok) {k:Nat} (h:k<=t.length):A0m H 4 (C9 t) none (some (I64 k))=some (C9 (t.take k)):=by
 have hb:boundOf (t.map Tok.v).length (some (I64 k))=some k:=by simp [boundOf]
 have h0:boundOf 0 none=some 0:=rfl;simp only [A0m,hb,h0];rw [if_pos ⟨by simpa using h,A0N _,A6o (F:=Tok.v) (u:=4) (fun _=>rfl) t⟩,A2U,A3M, <- A3U]
theorem B1m {H:Hp} (t:List Tok) {k:Nat} (h:k<=t.length):A0m H 4 (C9 t) (some (I64 k)) none=some (C9 (t.drop k)):=by
 have hb:boundOf (t.map Tok.v).length none=some (t.map Tok.v).length:=rfl;have h0:boundOf 0 (some (I64 k))=some k:=by simp [boundOf]
 simp only [A0m,hb,h0];rw [if_pos ⟨A0I _,by simpa using h,A6o (F:=Tok.v) (u:=4) (fun _=>rfl) t⟩, <- List.map_drop,A0J (by simp)]
theorem A1b {H M:Hp} {o:Option Nat} {A:List Tok} (B:List Tok) {c:Nat} (hA:o=none->A=[]) (hi:∀ i,o=some i->H i=none/\i<c) (hl:(A++B).length<=1000000) :
  ∃ o' c',apX (C0 H o ⟨4,true,A4 (A.map Tok.v)⟩) c 4 40 (B3 o A.length) (T4 M 4 (C9 B))=some (B3 o' (A++B).length,C0 H o' ⟨4,true,A4 ((A++B).map Tok.v)⟩,c')/\c<=c'/\(o'=none->A++B=[])/\(∀ i,o'=some i->i=c/\c'=c+1):=by
 have hs:T4 M 4 (C9 B)=some (B.length,A4 (B.map Tok.v)):=by
  rw [N5 (A6o (F:=Tok.v) (u:=4) (fun _=>rfl) B),A0D]
 have hlen:=hl;rw [A0A] at hlen;rw [hs,C6o];cases o with
 | none =>
  obtain rfl:=hA rfl;cases B with
  | nil=>exact ⟨none,c,rfl,A0I _,fun _=>rfl,fun i h=>by cases h⟩
  | cons b B =>
   refine ⟨some c,c+1,?_,A2W _,(fun h=>by cases h),fun i h=>by cases h;exact ⟨rfl,rfl⟩⟩;simp only [B3,C0,List.nil_append,A0F];exact A3a (by simp) (by simp only [A0E] at hlen ⊢;omega) (by simp only [A0E] at hlen ⊢;omega)
 | some i =>
  obtain ⟨h1,h2⟩:=hi i rfl;refine ⟨some c,c+1,?_,A2W _,(fun h=>by cases h),fun i h=>by cases h;exact ⟨rfl,rfl⟩⟩;simp only [B3,C0];rw [B3w,A0,V4 (by rw [C2 (u:=4) (D8 _),A0D]) (by omega) (by omega),A0A,A0W,C5]
  congr 3
  funext j
  by_cases e:j=c
  ·subst e;rw [A0,A0]
  ·rw [A2 e,A2 e];by_cases e2:j=i
   ·subst e2;rw [A1m,h1]
   ·rw [F5 e2,A2 e2]
theorem B4o {H:Hp} {o:Option Nat} {n:Nat} {xs ds es:List DV} (hn:o=none->xs=[]) (hs:∀ i,o=some i->H i=none) (hl:xs.length=n) (hu:∀ x∈xs,x.cells.length=4) :
  GL (C0 H o ⟨4,true,A4 xs⟩) (ds++[B3 o n]++es) H (ds++[.lst xs]++es):=by
 cases o with
 | none =>
  obtain rfl:=hn rfl;refine GL.view fun ρ vs hA=>?_;refine ⟨by have:=hA.1;simpa using this,fun i x y hx hy=>?_⟩;rcases C4v (x:=DV.snil) hx with h|⟨rfl,h⟩
  ·exact hA.2 i x y h hy
  ·exact (hA.2 i _ y h hy).snil_lst
 | some i =>
  have h1:=hs i rfl;exact GL.frzS (id:=i) A0 rfl (fun j=>by
   by_cases e:j=i
   ·subst e;exact .inl h1
   ·exact .inr ⟨e,(A2 e).symm⟩) (FzL.app (FzL.app (FzL.refl _) (.cons _ _ _ _ (P1 (blk:=⟨4,true,A4 xs⟩) hl hu ⟨[],by simp⟩) .nil)) (FzL.refl _))
theorem c_Words (l:List UInt8) (hl:l.length<=9223372036854775807) (m:List UInt8) (hm:m.length<=9223372036854775807) (H:Hp) (cc:Nat) :
  AC Tryz.prog 16 [.lst (bytesC l),.lst (bytesC m)] H cc (fun v H' c' => ∃ s,s.length<=1000000/\v=.str s/\H'=H):=by
 have h300:(l.take 300).length<=300:=by rw [A0S];omega
 refine AC.body A9 isU16 (A0B rfl) fun hfr=>?_;show IW Tryz.prog 107 u16_1 ⟨B7 _,_,_⟩ (rt [.tmp 4] _);repeat' ((with_reducible first|refine wr ?_|refine wb2 ?_ ?_<;>(intro hb;try simp only [hb])|fail)<;>try simp only [go_sem,seval])
 refine AC.call (c_New l hl _ _) ?_;rintro v' H' c2 ⟨t,ht1,ht2,rfl,rfl⟩ hc2;simp only [go_sem,seval,A0,A1];repeat' ((with_reducible first|refine wr ?_|refine wb2 ?_ ?_<;>(intro hb;try simp only [hb])|fail)<;>try simp only [go_sem,seval,A0,A1])
 refine AC.call (C4z (l.take 300) h300 0 (by omega) 0 (by omega) _ _ t A0 (by omega)) ?_;rintro v' H' c3 ⟨s,j,g,ls,b,rfl,rfl⟩ hc3;have hsc:=c_ScanR s (by omega);have hwk:=B5k s;clear g;rw [A1];generalize (F4 s)=q at hsc hwk;obtain ⟨T,q1,q2⟩:=q;dsimp only at hsc hwk;have ne0:=L2 t c3 (by omega);simp only [go_sem,seval,ne0,A0,A1];repeat' ((with_reducible first|refine G8 (p:=IW _ _ u16_6 _ _) ?_|refine wr ?_|refine cpc hsc ?_|refine wb2 ?_ ?_<;>(intro hb;try simp only [hb])|fail)<;>try simp only [go_sem,seval,ne0,A0,A1])
 unfold A5n;have hcl:∀ j,cc<=j->H j=none:=hfr;refine IW.keep [1,5,8,9] [.lst (bytesC m),C9 T,strs B8l,I64 0] (GL.frzS (id:=c3) (H':=H) A0 rfl (fun j=>by
   by_cases e:j=c3
   ·subst e;exact .inl (hcl _ (by omega))
   ·by_cases e2:j=t
    ·subst e2;exact .inl (hcl _ (by omega))
    ·exact .inr ⟨e,by rw [A2 e,A2 e2]⟩)
  (.cons _ _ _ _ (.same _) (.cons _ _ _ _ (.same _) (.cons _ _ _ _ (P1 (u:=1) (xs:=B8l.map DV.str) rfl (I4 _) ⟨[],rfl⟩) (FzL.refl _))))) ?_
 simp only [A3C,A4E];have hp30:B8l.length=30:=rfl;have hpl:∀ x∈B8l,x.length<=100:=by decide
 generalize B8l=P at hp30 hpl;repeat' ((with_reducible first|refine wr ?_|refine wb2 ?_ ?_<;>(intro hb;try simp only [hb])|fail)<;>try simp only [go_sem,seval])
 refine B9 (fun q:Nat × List Tok=>[(1,.lst (bytesC m)),(5,C9 q.2),(8,strs P),(9,I64 (2 * q.1:Nat))]) (fun _=>H) (fun q c=>cc<=c/\q.1<=3/\A1d (20000 * (q.1+1)) q.2) (fun q=>3-q.1) (0,T) (by simp [C1,tm,Tm.upd]) (Sub.refl _) ⟨by omega,by omega,hwk⟩ ?_;clear hwk hsc;rintro ⟨k,T⟩ c ⟨hc,hk,hwk⟩;dsimp only at hc hk hwk ⊢;obtain ⟨f1,f2,f3⟩:=hwk;have hend:∀ c',cc<=c'->True:=fun _ _=>trivial;have hw1:IntKind.i64.wrap (((2 * k:Nat):Int)+1)=((2 * k+1:Nat):Int):=by rw [w64 (by omega) (by omega)];omega
 have htx:=c_TextR T (by omega) f1;have htl:=A1d.text (l:=T) ⟨f1,f2,f3⟩;have hT:(A2u T).length<=1000000:=by omega
 have hbl:(bytesC m).length=m.length:=by simp [bytesC]
 by_cases h1:2 * k+1<m.length
 ·have d1:decide (((2 * k+1:Nat):Int)<(m.length:Int))=true:=by simp;omega
  by_cases h2:k<3
  ·have d2:decide (((2 * k:Nat):Int)<6)=true:=by simp;omega
   by_cases h3:0<T.length
   ·have d3:decide ((T.length:Int)>0)=true:=by simp;omega
    have g1:=A2o (A0C (show 2 * k<m.length by omega));have g2:=A2o (A0C h1);have hx:=(m[2 * k]'(by omega)).toNat_lt;have hy:=(m[2 * k+1]'h1).toNat_lt;generalize m[2 * k]'(by omega)=x at g1 hx;generalize m[2 * k+1]'h1=y at g2 hy;have hw2:IntKind.i64.wrap ((x.toNat:Nat):Int)=((x.toNat:Nat):Int):=w64 (by omega) (by omega);have hw3:IntKind.i64.wrap ((y.toNat:Nat):Int)=((y.toNat:Nat):Int):=w64 (by omega) (by omega);have hmul:x.toNat * T.length<=255 * T.length:=A1Y _ (by omega);have hw4:IntKind.i64.wrap ((x.toNat:Int) * (T.length:Int))=((x.toNat * T.length:Nat):Int):=by rw [<- Int.natCast_mul];exact w64 (by omega) (by omega)
    have hq:binR .quo (I64 ((x.toNat * T.length:Nat):Int)) (I64 256)=some (I64 ((x.toNat * T.length / 256:Nat):Int)):=by
     rw [B1t (by decide)];have:(((x.toNat * T.length:Nat):Int)).tdiv 256=((x.toNat * T.length / 256:Nat):Int):=rfl;rw [this,w64 (by omega) (by omega)]
    have hr:binR .rem (I64 (y.toNat:Int)) (I64 30)=some (I64 ((y.toNat % 30:Nat):Int)):=by rw [A8p (by decide)];rfl
    have hq2:binR .quo (.int .u8 (y.toNat:Int)) (.int .u8 90)=some (.int .u8 ((y.toNat / 90:Nat):Int)):=by
     rw [B1t (by decide)];have:((y.toNat:Nat):Int).tdiv 90=((y.toNat / 90:Nat):Int):=rfl;rw [this];have:IntKind.u8.wrap ((y.toNat / 90:Nat):Int)=((y.toNat / 90:Nat):Int):=by unfold IntKind.wrap;simp [IntKind.bits];omega
     rw [this]
    have hK:x.toNat * T.length / 256<T.length:=by omega
    generalize x.toNat * T.length / 256=K at hq hK;have hgp:=A0C (show y.toNat % 30<P.length by omega);have hpm:=hpl _ (A0M (show y.toNat % 30<P.length by omega));generalize P[y.toNat % 30]'(by omega)=z at hgp hpm;have hsx:=c_ScanR z (by omega);have hxk:=B5k z;generalize (F4 z)=q at hsx hxk;obtain ⟨X,q1,q2⟩:=q;dsimp only at hsx hxk;have hwn:IntKind.i64.wrap ((2 * k:Nat)+2:Int)=((2 * (k+1):Nat):Int):=by rw [w64 (by omega) (by omega)];omega
    have t1:=fun H=>B9l (H:=H) T (k:=K) (by omega);have t2:=fun H=>B1m (H:=H) T (k:=K) (by omega);have t3:=fun H=>B1m (H:=H) T (k:=K+1) (by omega);have hw5:IntKind.i64.wrap ((K:Int)+1)=((K+1:Nat):Int):=by rw [w64 (by omega) (by omega)];omega
    repeat' ((with_reducible first|refine wr ?_|refine cpc hsx ?_|refine wb2 ?_ ?_<;>(intro hb;try simp only [hb])|fail)<;>try simp only [go_sem,seval,hbl,hw1,d1,d2,d3,g1,g2,hw2,hw3,hw4,hw5,hq,hr,hq2,hgp,hp30,hwn,t1,t2,t3,A0D])
    ·obtain ⟨o1,c1,e1,n1,n2,n3⟩:=A1b (H:=H) (M:=H) (o:=none) (A:=[]) (T.take K) (c:=c+12) (fun _=>rfl) (fun i h=>by cases h) (by simp;omega);replace e1:apX H (c+12) 4 40 .snil (T4 H 4 (C9 (T.take K)))=some (B3 o1 (T.take K).length,C0 H o1 ⟨4,true,A4 ((T.take K).map Tok.v)⟩,c1):=e1;have nn:∀ i b,i<12->C0 H o1 b (c+i)=none:=fun i b h=>by rw [C7 (fun j hj=>by have:=n3 j hj;omega)];exact hfr _ (by omega)
     rw [e1];simp only [go_sem,seval];repeat' ((with_reducible first|refine wr ?_|refine wb2 ?_ ?_<;>(intro hb;try simp only [hb])|fail)<;>try simp only [go_sem,seval,hbl,t1,t2,t3,A0D,hw5])
     refine ⟨⟨nn 4 _ (by decide),nn 6 _ (by decide),nn 7 _ (by decide),⟨by rw [hw5],nn 8 _ (by decide)⟩,?_⟩,?_⟩
     ·have:=t3 (C0 H o1 ⟨4,true,A4 ((T.take K).map Tok.v)⟩);rw [this];exact ⟨rfl,nn 9 _ (by decide)⟩
     obtain ⟨o2,c2,me,m1,m2,m3⟩:=A1b (H:=H) (M:=C0 H o1 ⟨4,true,A4 ((T.take K).map Tok.v)⟩) (o:=o1) (A:=T.take K) X (c:=c1) n2 (fun i h=>⟨hfr _ (by have:=n3 i h;omega),by have:=n3 i h;omega⟩) (by have:=hxk.2.1;simp;omega);rw [me];simp only [go_sem,seval];repeat' ((with_reducible first|refine wr ?_|refine wb2 ?_ ?_<;>(intro hb;try simp only [hb])|fail)<;>try simp only [go_sem,seval,hbl,t1,t2,t3,A0D,hw5])
     have mn:∀ i b,i<12->C0 H o2 b (c+i)=none:=fun i b h=>by rw [C7 (fun j hj=>by have:=m3 j hj;omega)];exact hfr _ (by omega)
     refine ⟨⟨mn 6 _ (by decide),mn 7 _ (by decide),⟨by rw [hw5],mn 8 _ (by decide)⟩,?_⟩,?_⟩
     ·have:=t3 (C0 H o2 ⟨4,true,A4 ((T.take K++X).map Tok.v)⟩);rw [this];exact ⟨rfl,mn 9 _ (by decide)⟩
     obtain ⟨o3,c3,pe,p1,p2,p3⟩:=A1b (H:=H) (M:=C0 H o2 ⟨4,true,A4 ((T.take K++X).map Tok.v)⟩) (o:=o2) (A:=T.take K++X) (T.drop (K+1)) (c:=c2) m2 (fun i h=>⟨hfr _ (by have:=m3 i h;omega),by have:=m3 i h;omega⟩) (by have:=hxk.2.1;simp;omega);rw [pe];simp only [go_sem,seval];repeat' ((with_reducible first|refine G8 (p:=IW _ _ u16_22 _ _) ?_|refine wr ?_|refine wb2 ?_ ?_<;>(intro hb;try simp only [hb])|fail)<;>try simp only [go_sem,seval,hbl,t1,t2,t3,A0D,hw5])
     unfold A5n;have hwk:=(A1d.drop1 (l:=T) ⟨f1,f2,f3⟩ hxk K).2.1;refine IW.keep [1,5,8,9] [.lst (bytesC m),C9 (T.take K++X++T.drop (K+1)),strs P,I64 (2 * k:Nat)] (B4o (ds:=[.lst (bytesC m)]) (es:=[strs P,I64 (2 * k:Nat)]) (fun h=>by rw [p2 h];rfl) (fun i h=>hfr _ (by have:=p3 i h;omega)) (by rw [A0D]) (D8 _)) ?_;simp only [A3C,A4E];repeat' ((with_reducible first|refine wr ?_|refine wb2 ?_ ?_<;>(intro hb;try simp only [hb])|fail)<;>try simp only [go_sem,seval,hwn])
     exact ⟨(k+1,T.take K++X++T.drop (K+1)),by simp [C1,tm,Tm.upd],Sub.refl _,inv ⟨by omega,by omega,hwk.mono (by omega)⟩,by simp only;omega⟩
    ·obtain ⟨o1,c1,e1,n1,n2,n3⟩:=A1b (H:=H) (M:=H) (o:=none) (A:=[]) (T.take K) (c:=c+10) (fun _=>rfl) (fun i h=>by cases h) (by simp;omega);replace e1:apX H (c+10) 4 40 .snil (T4 H 4 (C9 (T.take K)))=some (B3 o1 (T.take K).length,C0 H o1 ⟨4,true,A4 ((T.take K).map Tok.v)⟩,c1):=e1;have nn:∀ i b,i<10->C0 H o1 b (c+i)=none:=fun i b h=>by rw [C7 (fun j hj=>by have:=n3 j hj;omega)];exact hfr _ (by omega)
     rw [e1];simp only [go_sem,seval];repeat' ((with_reducible first|refine wr ?_|refine wb2 ?_ ?_<;>(intro hb;try simp only [hb])|fail)<;>try simp only [go_sem,seval,hbl,t1,t2,t3,A0D,hw5])
     refine ⟨⟨nn 4 _ (by decide),nn 5 _ (by decide),⟨by rw [hw5],nn 6 _ (by decide)⟩,?_⟩,?_⟩
     ·have:=t3 (C0 H o1 ⟨4,true,A4 ((T.take K).map Tok.v)⟩);rw [this];exact ⟨rfl,nn 7 _ (by decide)⟩
     obtain ⟨o2,c2,me,m1,m2,m3⟩:=A1b (H:=H) (M:=C0 H o1 ⟨4,true,A4 ((T.take K).map Tok.v)⟩) (o:=o1) (A:=T.take K) (T.drop (K+1)) (c:=c1) n2 (fun i h=>⟨hfr _ (by have:=n3 i h;omega),by have:=n3 i h;omega⟩) (by have:=hxk.2.1;simp;omega);rw [me];simp only [go_sem,seval];repeat' ((with_reducible first|refine G8 (p:=IW _ _ u16_22 _ _) ?_|refine wr ?_|refine wb2 ?_ ?_<;>(intro hb;try simp only [hb])|fail)<;>try simp only [go_sem,seval,hbl,t1,t2,t3,A0D,hw5])
     unfold A5n;have hwk:=(A1d.drop1 (l:=T) ⟨f1,f2,f3⟩ hxk K).2.2;refine IW.keep [1,5,8,9] [.lst (bytesC m),C9 (T.take K++T.drop (K+1)),strs P,I64 (2 * k:Nat)] (B4o (ds:=[.lst (bytesC m)]) (es:=[strs P,I64 (2 * k:Nat)]) (fun h=>by rw [m2 h];rfl) (fun i h=>hfr _ (by have:=m3 i h;omega)) (by rw [A0D]) (D8 _)) ?_;simp only [A3C,A4E];repeat' ((with_reducible first|refine wr ?_|refine wb2 ?_ ?_<;>(intro hb;try simp only [hb])|fail)<;>try simp only [go_sem,seval,hwn])
     exact ⟨(k+1,T.take K++T.drop (K+1)),by simp [C1,tm,Tm.upd],Sub.refl _,inv ⟨by omega,by omega,hwk.mono (by omega)⟩,by simp only;omega⟩
    ·obtain ⟨o1,c1,e1,n1,n2,n3⟩:=A1b (H:=H) (M:=H) (o:=none) (A:=[]) (T.take K) (c:=c+11) (fun _=>rfl) (fun i h=>by cases h) (by simp;omega);replace e1:apX H (c+11) 4 40 .snil (T4 H 4 (C9 (T.take K)))=some (B3 o1 (T.take K).length,C0 H o1 ⟨4,true,A4 ((T.take K).map Tok.v)⟩,c1):=e1;have nn:∀ i b,i<11->C0 H o1 b (c+i)=none:=fun i b h=>by rw [C7 (fun j hj=>by have:=n3 j hj;omega)];exact hfr _ (by omega)
     rw [e1];simp only [go_sem,seval];repeat' ((with_reducible first|refine wr ?_|refine wb2 ?_ ?_<;>(intro hb;try simp only [hb])|fail)<;>try simp only [go_sem,seval,hbl,t1,t2,t3,A0D,hw5])
     refine ⟨⟨nn 4 _ (by decide),nn 6 _ (by decide),nn 7 _ (by decide),?_⟩,?_⟩
     ·have:=t2 (C0 H o1 ⟨4,true,A4 ((T.take K).map Tok.v)⟩);rw [this];exact ⟨rfl,nn 8 _ (by decide)⟩
     obtain ⟨o2,c2,me,m1,m2,m3⟩:=A1b (H:=H) (M:=C0 H o1 ⟨4,true,A4 ((T.take K).map Tok.v)⟩) (o:=o1) (A:=T.take K) X (c:=c1) n2 (fun i h=>⟨hfr _ (by have:=n3 i h;omega),by have:=n3 i h;omega⟩) (by have:=hxk.2.1;simp;omega);rw [me];simp only [go_sem,seval];repeat' ((with_reducible first|refine wr ?_|refine wb2 ?_ ?_<;>(intro hb;try simp only [hb])|fail)<;>try simp only [go_sem,seval,hbl,t1,t2,t3,A0D,hw5])
     have mn:∀ i b,i<11->C0 H o2 b (c+i)=none:=fun i b h=>by rw [C7 (fun j hj=>by have:=m3 j hj;omega)];exact hfr _ (by omega)
     refine ⟨⟨mn 6 _ (by decide),mn 7 _ (by decide),?_⟩,?_⟩
     ·have:=t2 (C0 H o2 ⟨4,true,A4 ((T.take K++X).map Tok.v)⟩);rw [this];exact ⟨rfl,mn 8 _ (by decide)⟩
     obtain ⟨o3,c3,pe,p1,p2,p3⟩:=A1b (H:=H) (M:=C0 H o2 ⟨4,true,A4 ((T.take K++X).map Tok.v)⟩) (o:=o2) (A:=T.take K++X) (T.drop K) (c:=c2) m2 (fun i h=>⟨hfr _ (by have:=m3 i h;omega),by have:=m3 i h;omega⟩) (by have:=hxk.2.1;simp;omega);rw [pe];simp only [go_sem,seval];repeat' ((with_reducible first|refine G8 (p:=IW _ _ u16_22 _ _) ?_|refine wr ?_|refine wb2 ?_ ?_<;>(intro hb;try simp only [hb])|fail)<;>try simp only [go_sem,seval,hbl,t1,t2,t3,A0D,hw5])
     unfold A5n;have hwk:=(A1d.drop1 (l:=T) ⟨f1,f2,f3⟩ hxk K).1;refine IW.keep [1,5,8,9] [.lst (bytesC m),C9 (T.take K++X++T.drop K),strs P,I64 (2 * k:Nat)] (B4o (ds:=[.lst (bytesC m)]) (es:=[strs P,I64 (2 * k:Nat)]) (fun h=>by rw [p2 h];rfl) (fun i h=>hfr _ (by have:=p3 i h;omega)) (by rw [A0D]) (D8 _)) ?_;simp only [A3C,A4E];repeat' ((with_reducible first|refine wr ?_|refine wb2 ?_ ?_<;>(intro hb;try simp only [hb])|fail)<;>try simp only [go_sem,seval,hwn])
     exact ⟨(k+1,T.take K++X++T.drop K),by simp [C1,tm,Tm.upd],Sub.refl _,inv ⟨by omega,by omega,hwk.mono (by omega)⟩,by simp only;omega⟩
   ·have d3:decide ((T.length:Int)>0)=false:=decide_eq_false (by omega);repeat' ((with_reducible first|refine wr ?_|refine cpc htx ?_|refine wb2 ?_ ?_<;>(intro hb;try simp only [hb])|fail)<;>try simp only [go_sem,seval,hbl,hw1,d1,d2,d3,A0D])
    exact ⟨_,_,GL.refl _ _,A2u T,hT,rfl,rfl⟩
  ·have d2:decide (((2 * k:Nat):Int)<6)=false:=by simp;omega
   repeat' ((with_reducible first|refine wr ?_|refine cpc htx ?_|refine wb2 ?_ ?_<;>(intro hb;try simp only [hb])|fail)<;>try simp only [go_sem,seval,hbl,hw1,d1,d2,A0D])
   all_goals exact ⟨_,_,GL.refl _ _,A2u T,hT,rfl,rfl⟩
 ·have d1:decide (((2 * k+1:Nat):Int)<(m.length:Int))=false:=by simp;omega
  repeat' ((with_reducible first|refine wr ?_|refine cpc htx ?_|refine wb2 ?_ ?_<;>(intro hb;try simp only [hb])|fail)<;>try simp only [go_sem,seval,hbl,hw1,d1,A0D])
  all_goals exact ⟨_,_,GL.refl _ _,A2u T,hT,rfl,rfl⟩
theorem c_CheckWords (l:List UInt8) (hl:l.length<=9223372036854775807) (m:List UInt8) (hm:m.length<=9223372036854775807):PC Tryz.prog 4 [.lst (bytesC l),.lst (bytesC m)] (.bool true):=by
 have hs:=c_sane;refine PC.of A9 isU4 (A0B rfl) (by simp [DV.nlL,DV.nl,C2x]) rfl ?_;show IW Tryz.prog 21 u4_1 ⟨B7 _,_,_⟩ (rt [.tmp 4] _);repeat' ((with_reducible first|refine wr ?_|refine wb2 ?_ ?_<;>(intro hb;try simp only [hb])|fail)<;>try simp only [go_sem,seval])
 refine AC.call (c_Words l hl m hm _ _) ?_;rintro v' H' c2 ⟨s,hsl,rfl,rfl⟩ hc2;have hp:=c_Parse s (by omega);have hpv:C0k (X2 s)=.tup [(X2 s).1.v,I64 (X2 s).2.1,I64 (X2 s).2.2]:=rfl;rw [hpv] at hp;have hz:=C4k s;have hc:=c_checks (X2 s).1 (by omega);generalize (X2 s).1=r at hp hc;generalize (X2 s).2.1=r1 at hp;generalize (X2 s).2.2=r2 at hp;have hrv:r.v=.agg [D4 r.decls,E0 r.modes]:=rfl;rw [hrv] at hp hc;simp only [go_sem,seval];repeat' ((with_reducible first|refine wr ?_|refine cpc hp ?_|refine cpc hc ?_|refine cpc hs ?_|refine wb2 ?_ ?_<;>(intro hb;try simp only [hb])|fail)<;>try simp only [go_sem,seval])
 exact A6 rfl
end Go.Proofs.YtnmkkggfgdfmeaaGreatDoor
end

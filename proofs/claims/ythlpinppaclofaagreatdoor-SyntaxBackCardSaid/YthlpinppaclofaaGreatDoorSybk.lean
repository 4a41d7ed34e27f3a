/-
  HELPERS of the claim: part 11 of its texts.
-/
import Derived.Test.YthlpinppaclofaaGreatDoorSybj
noncomputable section
set_option maxHeartbeats 8000000
set_option maxRecDepth 100000
set_option linter.unusedSimpArgs false
set_option linter.unusedVariables false
namespace Go.Proofs.YthlpinppaclofaaGreatDoor
open Go.Eng (IC IOper DReg IFn J0)
open Go.Sym Go.Pb
theorem Y1 {H:Hp} {c id off u:Nat} {v:DV} {cs:List DV} (h1:v.cells=[v]) (h3:v.one=true) (h2:off<cs.length) :
  Go.Sym.stB H c id 1 off v (some ⟨u,true,cs⟩)=some (.tup [],H.upd id ⟨u,true,cs.set off v⟩,c):=by
 rw [C6a (by rw [h1];rfl) (by omega) (by rw [h1];simp [h3]),h1,List.set_eq_take_append_cons_drop,if_pos h2];simp
theorem A0r {P cs Q:List DV} {v:DV} {n j:Nat} (hP:P.length=n) (hj:j<cs.length):(P++(cs++Q)).set (n+j) v=P++(cs.set j v++Q):=by
 rw [List.set_append_right _ _ (by omega),hP,Nat.add_sub_cancel_left,List.set_append_left _ _ hj]
theorem A0s {A B:List DV} {x:DV}:A8 (A++x :: B)=A8 A++(x.cells++A8 B):=by rw [H6];rfl
def A7c {α : Type} (p : α -> α) (l:List α) (k:Nat):List α := (l.take k).map p++l.drop k
theorem B1d {α : Type} (p : α -> α) (l:List α):A7c p l 0=l:=rfl
theorem A3v {α : Type} (p : α -> α) {l:List α} {k:Nat} (h:l.length<=k):A7c p l k=l.map p:=by
 unfold A7c;rw [A0O h,A2L h,A1M]
theorem A3u {α : Type} (p : α -> α) (l:List α) (k:Nat):(A7c p l k).length=l.length:=by
 unfold A7c;simp;omega
theorem A7b {α : Type} (p : α -> α) {l:List α} {k:Nat} {x : α} (h:l[k]? = some x):A7c p l k=(l.take k).map p++x :: l.drop (k+1)/\A7c p l (k+1)=(l.take k).map p++p x :: l.drop (k+1):=by
 obtain ⟨h1,h2⟩:=A0V.1 h;constructor
 ·unfold A7c;rw [A1V h1,h2]
 ·unfold A7c;rw [A2J,h];simp
theorem c_pplainE:∀ (m:Nat) (l:List Ex),Ex.szs l<m->Ex.szs l<=100000000000->PC Tryz.prog 129 [H9 l] (H9 (l.map Ex.plain)):=by
 intro m
 induction m with
 | zero=>intro l h;omega
 | succ m ih =>
 intro l hm hB;have hl:=Ex.szs_len l;refine PC.ofT B2 rfl (A0A rfl) (by simp [DV.nlL,DV.nl,Z0]) (Z0 _) ?_;by_cases h0:l=[]
 ·subst h0;repeat' ((with_reducible first|refine wr ?_|refine cpc c_CloneE0 ?_|refine A2 ?_ ?_|fail)<;>try simp only [go_sem,seval])
  refine D2 (fun k:Nat=>[(3,H9 []),(8,I64 0),(9,I64 0)]) (fun _=>Sym.nil) (fun k c=>True) (fun k=>0) 0 (by simp [C6,tm,Tm.upd]) (Sub.nil _) trivial ?_;rintro k c -;repeat' ((with_reducible first|refine wr ?_|refine A2 ?_ ?_|fail)<;>try simp only [go_sem,seval])
  exact A9 rfl
 repeat' ((with_reducible first|refine wr ?_|refine A2 ?_ ?_|fail)<;>try simp only [go_sem,seval])
 refine AC.call (c_CloneEo l (by omega) h0 _ _) ?_;rintro v' H' c2 ⟨rfl,rfl,rfl⟩ hc2;simp only [go_sem,seval,A0,A1];repeat' ((with_reducible first|refine wr ?_|refine A2 ?_ ?_|fail)<;>try simp only [go_sem,seval,A0,A1])
 obtain ⟨C,hC⟩:∃ C:Nat->List DV, ∀ k,C k=A8 ((A7c Ex.plain l k).map Ex.v):=⟨_,fun _=>rfl⟩;have hCl:∀ k,(C k).length=l.length * 5:=fun k=>by rw [hC,B8 (u:=5) (A3b _),A0I,A3u]
 refine D2 (fun k:Nat=>[(0,H9 l),(3,.slc 0 0 l.length),(8,I64 l.length),(9,I64 k)]) (fun k=>Sym.nil.upd 0 ⟨5,true,C k⟩) (fun k c=>1<=c/\k<=l.length) (fun k=>l.length-k) 0
  (by simp [C6,tm,Tm.upd]) (by rw [hC,B1d];exact Sub.refl _) ⟨by omega,A1H _⟩ ?_
 rintro k c ⟨hc,hk⟩;by_cases hlt:k<l.length
 ·have hd:decide ((k:Int)<(l.length:Int))=true:=by simpa using hlt
  have hg:=A0E hlt;have hsx:=Ex.szs_mem (A1B hlt);have hw:=w64 (n:=(k:Int)+1);generalize l[k]=x at hg hsx;have hax:Ex.szs x.args<x.sz:=by cases x with|mk k v n a p=>rw [Ex.sz];show Ex.szs a<_;omega
  have hcl:=ih x.args (by omega) (by omega);have hi:P5 5 (.slc 0 0 l.length) (I64 k)=some (.ptr 0 (k * 5)):=by rw [A4m hlt,A1L]
  have hCk:=hCl k;repeat' ((with_reducible first|refine wr ?_|refine A2 ?_ ?_|fail)<;>try simp only [go_sem,seval,hd,hg,hw,hi,Ex.v_w,A0,A1])
  refine D0 (Y1 rfl rfl (by omega)) ?_;simp only [go_sem,seval,A0,A1];repeat' ((with_reducible first|refine wr ?_|refine cpc hcl ?_|refine A2 ?_ ?_|fail)<;>try simp only [go_sem,seval,hd,hg,hw,hi,Ex.v_w,A0,A1])
  refine D0 (Y1 rfl rfl (by rw [A2Q];omega)) ?_;simp only [go_sem,seval,hw,A1];repeat' ((with_reducible first|refine wr ?_|refine A2 ?_ ?_|fail)<;>try simp only [go_sem,seval,hw])
  refine ⟨k+1,by simp [C6,tm,Tm.upd],?_,inv ⟨by omega,by omega⟩,by omega⟩;have e:((C k).set (k * 5+4) (I64 0)).set (k * 5+3) (H9 (x.args.map Ex.plain))=C (k+1):=by
   obtain ⟨a1,a2⟩:=A7b Ex.plain hg;rw [hC,hC,a1,a2,A0Z,A0Z,A0N,A0N];have hA:(A8 (((l.take k).map Ex.plain).map Ex.v)).length=k * 5:=by
    rw [B8 (u:=5) (A3b _),A0I,A0I,A0T];congr 1;omega
   rw [A0s,A0s,Ex.v_w,Ex.v_w];rw [A0r hA (by decide:4<5),A0r hA (by decide:3<5)]
   congr 2
   cases x with|mk kk v n a p =>
   show _=[I64 kk,I64 v,.str n,H9 (Ex.plains a),I64 0];rw [Ex.plains_map];rfl
  rw [<- e];exact Sub.refl _
 ·have hd:decide ((k:Int)<(l.length:Int))=false:=by simpa using hlt
  repeat' ((with_reducible first|refine wr ?_|refine A2 ?_ ?_|fail)<;>try simp only [go_sem,seval,hd])
  rw [hC,A3v _ (by omega)];exact A0g (u:=5) A0 rfl (by simp) (A3b _) ⟨[],by simp⟩
theorem c_pplainS:∀ (m:Nat) (l:List Pb.St),Pb.St.szs l<m->Pb.St.szs l<=100000000000->PC Tryz.prog 78 [G1 l] (G1 (l.map Pb.St.plain)):=by
 intro m
 induction m with
 | zero=>intro l h;omega
 | succ m ih =>
 intro l hm hB;have hl:=Pb.St.szs_len l;refine PC.ofT B2 rfl (A0A rfl) (by simp [DV.nlL,DV.nl,U0]) (U0 _) ?_;by_cases h0:l=[]
 ·subst h0;repeat' ((with_reducible first|refine wr ?_|refine cpc c_CloneS0 ?_|refine A2 ?_ ?_|fail)<;>try simp only [go_sem,seval])
  refine D2 (fun k:Nat=>[(3,G1 []),(8,I64 0),(9,I64 0)]) (fun _=>Sym.nil) (fun k c=>True) (fun k=>0) 0 (by simp [C6,tm,Tm.upd]) (Sub.nil _) trivial ?_;rintro k c -;repeat' ((with_reducible first|refine wr ?_|refine A2 ?_ ?_|fail)<;>try simp only [go_sem,seval])
  exact A9 rfl
 repeat' ((with_reducible first|refine wr ?_|refine A2 ?_ ?_|fail)<;>try simp only [go_sem,seval])
 refine AC.call (c_CloneSo l (by omega) h0 _ _) ?_;rintro v' H' c2 ⟨rfl,rfl,rfl⟩ hc2;simp only [go_sem,seval,A0,A1];repeat' ((with_reducible first|refine wr ?_|refine A2 ?_ ?_|fail)<;>try simp only [go_sem,seval,A0,A1])
 obtain ⟨C,hC⟩:∃ C:Nat->List DV, ∀ k,C k=A8 ((A7c Pb.St.plain l k).map Pb.St.v):=⟨_,fun _=>rfl⟩;have hCl:∀ k,(C k).length=l.length * 7:=fun k=>by rw [hC,B8 (u:=7) (A4i _),A0I,A3u]
 refine D2 (fun k:Nat=>[(0,G1 l),(3,.slc 0 0 l.length),(8,I64 l.length),(9,I64 k)]) (fun k=>Sym.nil.upd 0 ⟨7,true,C k⟩) (fun k c=>1<=c/\k<=l.length) (fun k=>l.length-k) 0
  (by simp [C6,tm,Tm.upd]) (by rw [hC,B1d];exact Sub.refl _) ⟨by omega,A1H _⟩ ?_
 rintro k c ⟨hc,hk⟩;by_cases hlt:k<l.length
 ·have hd:decide ((k:Int)<(l.length:Int))=true:=by simpa using hlt
  have hg:=A0E hlt;have hsx:=Pb.St.szs_mem (A1B hlt);have hw:=w64 (n:=(k:Int)+1);generalize l[k]=x at hg hsx;have hax:Ex.szs x.args<x.sz:=by cases x with|mk k n t a x y p=>rw [Pb.St.sz];show Ex.szs a<_;omega
  have htx:=x.sz_thn;have hyx:=x.sz_els;have hca:=c_pplainE (Ex.szs x.args+1) x.args (by omega) (by omega);have hct:=ih x.thn (by omega) (by omega);have hcy:=ih x.els (by omega) (by omega);have hi:P5 7 (.slc 0 0 l.length) (I64 k)=some (.ptr 0 (k * 7)):=by rw [A4m hlt,A1L]
  have hCk:=hCl k;repeat' ((with_reducible first|refine wr ?_|refine A2 ?_ ?_|fail)<;>try simp only [go_sem,seval,hd,hg,hw,hi,Pb.St.v_w,A0,A1])
  refine D0 (Y1 rfl rfl (by omega)) ?_;simp only [go_sem,seval,A0,A1];repeat' ((with_reducible first|refine wr ?_|refine cpc hca ?_|refine A2 ?_ ?_|fail)<;>try simp only [go_sem,seval,hd,hg,hw,hi,Pb.St.v_w,A0,A1])
  refine D0 (Y1 rfl rfl (by rw [A2Q];omega)) ?_;simp only [go_sem,seval,A0,A1];repeat' ((with_reducible first|refine wr ?_|refine cpc hct ?_|refine cpc hcy ?_|refine A2 ?_ ?_|fail)<;>try simp only [go_sem,seval,hd,hg,hw,hi,Pb.St.v_w,A0,A1])
  refine ⟨by rw [A3 (by omega)];rfl,?_⟩;have hcc:¬ c=0:=by omega
  repeat' ((with_reducible first|refine wr ?_|refine cpc hct ?_|refine cpc hcy ?_|refine A2 ?_ ?_|fail)<;>try simp only [go_sem,seval,hd,hg,hw,hi,Pb.St.v_w,A0,A1])
  refine ⟨by rw [A3 (by omega)];rfl,M5 (Y1 rfl rfl (by simp only [A2Q];omega)) ?_⟩;simp only [go_sem,seval,A0,A1,hi];repeat' ((with_reducible first|refine wr ?_|refine A2 ?_ ?_|fail)<;>try simp only [go_sem,seval,hd,hg,hw,hi,Pb.St.v_w,A0,A1])
  refine M5 (Y1 rfl rfl (by simp only [A2Q];omega)) ?_;simp only [go_sem,seval,A1,hw];repeat' ((with_reducible first|refine wr ?_|refine A2 ?_ ?_|fail)<;>try simp only [go_sem,seval,hw])
  refine ⟨k+1,by simp [C6,tm,Tm.upd],?_,inv ⟨by omega,by omega⟩,by omega⟩;have e:((((C k).set (k * 7+6) (I64 0)).set (k * 7+3) (H9 (x.args.map Ex.plain))).set (k * 7+4) (G1 (x.thn.map Pb.St.plain))).set (k * 7+5) (G1 (x.els.map Pb.St.plain))=C (k+1):=by
   obtain ⟨a1,a2⟩:=A7b Pb.St.plain hg;rw [hC,hC,a1,a2,A0Z,A0Z,A0N,A0N];have hA:(A8 (((l.take k).map Pb.St.plain).map Pb.St.v)).length=k * 7:=by
    rw [B8 (u:=7) (A4i _),A0I,A0I,A0T];congr 1;omega
   rw [A0s,A0s,Pb.St.v_w,Pb.St.v_w];rw [A0r hA (by decide:6<7),A0r hA (by decide:3<7),A0r hA (by decide:4<7),A0r hA (by decide:5<7)]
   congr 2
   cases x with|mk kk n t a y z p =>
   show _=[I64 kk,.str n,.str t,H9 (Ex.plains a),G1 (Pb.St.plains y),G1 (Pb.St.plains z),I64 0];rw [Ex.plains_map,Pb.St.plains_map,Pb.St.plains_map];rfl
  rw [<- e];exact Sub.refl _
 ·have hd:decide ((k:Int)<(l.length:Int))=false:=by simpa using hlt
  repeat' ((with_reducible first|refine wr ?_|refine A2 ?_ ?_|fail)<;>try simp only [go_sem,seval,hd])
  rw [hC,A3v _ (by omega)];exact A0g (u:=7) A0 rfl (by simp) (A4i _) ⟨[],by simp⟩
theorem D5h {H:Hp} {a k u u' w n:Nat} {pre suf xs ds junk:List DV} (hk:H k=some ⟨w,true,pre++[.slc a 0 n]++suf⟩) (ha:H a=some ⟨u,true,A8 xs++junk⟩)
  (h1:∀ d∈pre++suf,d.one=true) (hl:xs.length=n) (hu:∀ x∈xs,x.cells.length=u') (hak:¬ a=k) :
  GL H ds ((H.del a).upd k ⟨w,true,pre++[.lst xs]++suf⟩) ds:=by
 have hz:FzL a ⟨u,true,A8 xs++junk⟩ (pre++[.slc a 0 n]++suf) (pre++[.lst xs]++suf) :=
  FzL.app (FzL.app (FzL.refl _) (.cons _ _ _ _ (M9 (blk:=⟨u,true,A8 xs++junk⟩) hl hu ⟨junk,rfl⟩) .nil)) (FzL.refl _)
 refine GL.frzT (id:=a) ha rfl (fun j=>?_) (FzL.refl ds);by_cases ej:j=k
 ·subst ej;refine .inr ⟨Ne.symm hak,.inr ⟨_,_,hk,A0,rfl,rfl,hz,fun d hd=>?_⟩⟩;simp only [A0U,A1A,A0R] at hd;rcases hd with hd|rfl|hd
  ·exact h1 d (A3A _ hd)
  ·rfl
  ·exact h1 d (A3M _ hd)
 ·rw [A3 ej];by_cases ea:j=a
  ·subst ea;exact .inl A1h
  ·exact .inr ⟨ea,.inl (F0 ea)⟩
theorem B2u {α : Type} {l:List α} {n:Nat} {v : α} (h:n<l.length):l.set n v=l.take n++[v]++l.drop (n+1):=by
 rw [List.set_eq_take_append_cons_drop,if_pos h];simp
def ppB (D D':List Dc) (M:List Md) (v:DV):Hp:=((Sym.nil.upd 0 ⟨0,true,[O1 D,U2 M]⟩).upd 1 ⟨0,true,[.snil,.snil]⟩).upd 9 ⟨0,true,[O1 D',v]⟩
theorem A6p {D D':List Dc} {M:List Md} {v:DV}:ppB D D' M v 0=some ⟨0,true,[O1 D,U2 M]⟩:=rfl
theorem A6o {D D':List Dc} {M:List Md} {v:DV}:ppB D D' M v 1=some ⟨0,true,[.snil,.snil]⟩:=rfl
theorem A3k {D D':List Dc} {M:List Md} {v:DV}:ppB D D' M v 9=some ⟨0,true,[O1 D',v]⟩:=rfl
theorem C8s {D D':List Dc} {M:List Md} {v:DV} {j:Nat} (h:10<=j):ppB D D' M v j=none:=by
 unfold ppB;rw [A3 (by omega),A3 (by omega),A3 (by omega)];rfl
abbrev ppQ (D':List Dc) (M:List Md):Exit->Go.Sym.St->Prop:=rt [.cell 2 2 true] (fun v H' _ => ∃ H2,GL H' [v] H2 [.agg [O1 D',U2 M]])
theorem D6x {T:Tm} {H:Hp} {c x i u:Nat} {o:Bool} {a b:DV} {q:DV->Hp->Nat->Prop} (hT:T x=.ptr i 0) (hH:H i=some ⟨u,o,[a,b]⟩) (k:q (.agg [a,b]) H c):rt [.cell x 2 true] q .ret ⟨T,H,c⟩:=by
 rw [D6 (rv2 (s:=⟨T,H,c⟩) hT hH)];exact k
theorem c_ppM0 (D D':List Dc) (c:Nat):IW Tryz.prog 82 (pz Tryz.prog 38 (.o (.i (.i (.o .h))))) ⟨tm [(1,.ptr 0 0),(2,.ptr 1 0),(3,.ptr 9 0)],ppB D D' [] (U2 []),c⟩ (ppQ D' []):=by
 repeat' ((with_reducible first|refine wr ?_|refine A2 ?_ ?_|fail)<;>try simp only [go_sem,seval,A3k])
 refine D2 (fun k:Nat=>[(1,.ptr 0 0),(2,.ptr 1 0),(3,.ptr 9 0),(29,I64 0),(30,I64 0)]) (fun _=>ppB D D' [] (U2 [])) (fun k c=>True) (fun k=>0) 0 (by simp [C6,tm,Tm.upd]) (Sub.refl _) trivial ?_;rintro k c -;have ne0:=V8 0 1 9 (by omega);repeat' ((with_reducible first|refine wr ?_|refine A2 ?_ ?_|fail)<;>try simp only [go_sem,seval,ne0,A0,A1,A6p,A6o,A3k])
 exact D6x (i:=1) rfl A0 ⟨_,GL.refl _ _⟩
theorem c_ppM (D D':List Dc) (M:List Md) (hB:(M.map Md.sz).sum<=100000000000) (i c:Nat) (hi:10<=i) (hc:i<c) :
  IW Tryz.prog 82 (pz Tryz.prog 38 (.o (.i (.i (.o .h))))) ⟨tm [(1,.ptr 0 0),(2,.ptr 1 0),(3,.ptr 9 0)],(ppB D D' M (.slc i 0 M.length)).upd i ⟨4,true,A8 (M.map Md.v)⟩,c⟩ (ppQ D' (M.map Md.plain)):=by
 have hMl:M.length<=(M.map Md.sz).sum:=M6 fun x _=>by show 1<=1+_+_;omega
 have ne0:=A7y 0 1 9 i (by omega);repeat' ((with_reducible first|refine wr ?_|refine A2 ?_ ?_|fail)<;>try simp only [go_sem,seval,ne0,A0,A1,A6p,A6o,A3k])
 obtain ⟨C,hC⟩:∃ C:Nat->List DV, ∀ k,C k=A8 ((A7c Md.plain M k).map Md.v):=⟨_,fun _=>rfl⟩;have hCl:∀ k,(C k).length=M.length * 4:=fun k=>by rw [hC,B8 (u:=4) (A4o _),A0I,A3u]
 refine D2 (fun k:Nat=>[(1,.ptr 0 0),(2,.ptr 1 0),(3,.ptr 9 0),(29,I64 M.length),(30,I64 k)]) (fun k=>(ppB D D' M (.slc i 0 M.length)).upd i ⟨4,true,C k⟩) (fun k c=>i<c/\k<=M.length) (fun k=>M.length-k) 0
  (by simp [C6,tm,Tm.upd]) (by rw [hC,B1d];exact Sub.refl _) ⟨hc,A1H _⟩ ?_
 clear hc c;rintro k c ⟨hc,hk⟩;by_cases hlt:k<M.length
 ·have hd:decide ((k:Int)<(M.length:Int))=true:=by simpa using hlt
  have hg:=A0E hlt;have hsx:=O3 (f:=Md.sz) (A1B hlt);have hw:=w64 (n:=(k:Int)+1);generalize M[k]=x at hg hsx;have hxs:Md.sz x=1+x.name.length+(x.hds.map Hd.sz).sum:=rfl;have hxl:x.hds.length<=(x.hds.map Hd.sz).sum:=M6 fun x _=>by show 1<=1+_+_;omega
  have hix:P5 4 (.slc i 0 M.length) (I64 k)=some (.ptr i (k * 4)):=by rw [A4m hlt,A1L]
  have hCk:=hCl k;repeat' ((with_reducible first|refine wr ?_|refine A2 ?_ ?_|fail)<;>try simp only [go_sem,seval,hd,hg,hw,hix,ne0,A0,A1,A6p,A6o,A3k])
  refine D0 (Y1 rfl rfl (by omega)) ?_;simp only [go_sem,seval,ne0,A0,A1,A6p,A6o,A3k];have hCe:∀ {hs:List Hd},x.hds.map Hd.plain=hs->((C k).set (k * 4+3) (DV.int IntKind.i64 0)).set (k * 4+2) (A0z hs)=C (k+1):=by
   rintro _ rfl;obtain ⟨a1,a2⟩:=A7b Md.plain hg;rw [hC,hC,a1,a2,A0Z,A0Z,A0N,A0N];have hA:(A8 (((M.take k).map Md.plain).map Md.v)).length=k * 4:=by
    rw [B8 (u:=4) (A4o _),A0I,A0I,A0T];congr 1;omega
   rw [A0s,A0s,A0r hA (by decide:3<4),A0r hA (by decide:2<4)];rfl
  by_cases hx0:x.hds=[]
  ·repeat' ((with_reducible first|refine wr ?_|refine cpc c_CloneH0 ?_|refine A2 ?_ ?_|fail)<;>try simp only [go_sem,seval,hd,hg,hw,hix,hx0,ne0,A0,A1,A6p,A6o,A3k])
   refine ⟨by and_intros<;>((repeat rw [A3 (by omega)]);exact C8s (by omega)),M5 (Y1 rfl rfl (by rw [A2Q];omega)) ?_⟩;have hcs:((((C k).set (k * 4+3) (DV.int IntKind.i64 0)).set (k * 4+2) (A0z [])))[k * 4+2]? = some (A0z []):=by rw [List.getElem?_set_self (by rw [A2Q];omega)]
   simp only [go_sem,seval,ne0,A0,A1,hix,A6p,A6o,A3k];repeat' ((with_reducible first|refine wr ?_|refine A2 ?_ ?_|fail)<;>try simp only [go_sem,seval,hd,hg,hw,hix,hx0,hcs,ne0,A0,A1,A6p,A6o,A3k])
   refine D2 (fun _:Nat=>[(1,.ptr 0 0),(2,.ptr 1 0),(3,.ptr 9 0),(29,I64 M.length),(30,I64 k),(56,I64 0),(57,I64 0)]) (fun _=>(ppB D D' M (.slc i 0 M.length)).upd i ⟨4,true,C (k+1)⟩) (fun _ n=>i<n) (fun _=>0) 0
    (by simp [C6,tm,Tm.upd]) (by rw [<- hCe (hs:=[]) (by rw [hx0];rfl)];exact Sub.refl _) (by omega) ?_
   rintro-n hn;repeat' ((with_reducible first|refine wr ?_|refine A2 ?_ ?_|fail)<;>try simp only [go_sem,seval,hw])
   exact ⟨k+1,by simp [C6,tm,Tm.upd],Sub.refl _,inv ⟨by omega,by omega⟩,by omega⟩
  ·repeat' ((with_reducible first|refine wr ?_|refine A2 ?_ ?_|fail)<;>try simp only [go_sem,seval,hd,hg,hw,hix,ne0,A0,A1,A6p,A6o,A3k])
   refine AC.call (c_CloneHo x.hds (by omega) hx0 _ _) ?_;rintro v' H' c2 ⟨rfl,rfl,rfl⟩ hc2;have ne0:=A0k 0 1 9 i (c+13) (by omega);simp only [go_sem,seval,ne0,A0,A1,hix,A6p,A6o,A3k];refine ⟨by and_intros<;>((repeat rw [A3 (by omega)]);exact C8s (by omega)),M5 (Y1 rfl rfl (by rw [A2Q];omega)) ?_⟩;have hcs:((((C k).set (k * 4+3) (DV.int IntKind.i64 0)).set (k * 4+2) (.slc (c+13) 0 x.hds.length)))[k * 4+2]? = some (.slc (c+13) 0 x.hds.length):=by rw [List.getElem?_set_self (by rw [A2Q];omega)]
   simp only [go_sem,seval,ne0,A0,A1,hix,A6p,A6o,A3k];repeat' ((with_reducible first|refine wr ?_|refine A2 ?_ ?_|fail)<;>try simp only [go_sem,seval,hd,hg,hw,hix,hcs,ne0,A0,A1,A6p,A6o,A3k])
   obtain ⟨CX,hCX⟩:∃ X,X=((C k).set (k * 4+3) (DV.int IntKind.i64 0)).set (k * 4+2) (.slc (c+13) 0 x.hds.length):=⟨_,rfl⟩;rw [<- hCX] at hcs ⊢;obtain ⟨K,hK⟩:∃ K:Nat->List DV, ∀ j,K j=A8 ((A7c Hd.plain x.hds j).map Hd.v):=⟨_,fun _=>rfl⟩;have hKl:∀ j,(K j).length=x.hds.length * 4:=fun j=>by rw [hK,B8 (u:=4) (A4r _),A0I,A3u]
   refine D2 (fun j:Nat=>[(1,.ptr 0 0),(2,.ptr 1 0),(3,.ptr 9 0),(5,I64 k),(29,I64 M.length),(30,I64 k),(56,I64 x.hds.length),(57,I64 j)]) (fun j=>((ppB D D' M (.slc i 0 M.length)).upd i ⟨4,true,CX⟩).upd (c+13) ⟨4,true,K j⟩) (fun j n=>c+13<n/\j<=x.hds.length) (fun j=>x.hds.length-j) 0
    (by simp [C6,tm,Tm.upd]) (by
     rw [hK,B1d];intro j b hj;by_cases e1:j=c+13
     ·subst e1;rw [A0] at hj;rw [A3 (by omega),A0];exact hj
     rw [A3 e1] at hj;by_cases e2:j=i
     ·subst e2;rw [A0] at hj ⊢;exact hj
     rw [A3 e2] at hj ⊢;rw [A3 e1,A3 e2];exact hj) ⟨by omega,A1H _⟩ ?_
   rintro j n ⟨hn,hj⟩;by_cases hjl:j<x.hds.length
   ·have hdj:decide ((j:Int)<(x.hds.length:Int))=true:=by simpa using hjl
    have hgj:=A0E hjl;have hsj:=O3 (f:=Hd.sz) (A1B hjl);have hwj:=w64 (n:=(j:Int)+1);generalize x.hds[j]=y at hgj hsj;have hbs:Pb.St.szs y.body<Hd.sz y:=by unfold Hd.sz;omega
    have cb:=c_pplainS (Pb.St.szs y.body+1) y.body (by omega) (by omega);have hiy:P5 4 (.slc (c+13) 0 x.hds.length) (I64 j)=some (.ptr (c+13) (j * 4)):=by rw [A4m hjl,A1L]
    have hKj:=hKl j;obtain ⟨a1,a2⟩:=A7b Hd.plain hgj;have hA:(A8 (((x.hds.take j).map Hd.plain).map Hd.v)).length=j * 4:=by
     rw [B8 (u:=4) (A4r _),A0I,A0I,A0T];congr 1;omega
    have hy2:(K j)[j * 4+2]? = some (G1 y.body):=by
     rw [hK,a1,A0Z,A0N,A0s,A2A (by omega),hA,Nat.add_sub_cancel_left];rfl
    repeat' ((with_reducible first|refine wr ?_|refine cpc cb ?_|refine A2 ?_ ?_|fail)<;>try simp only [go_sem,seval,hdj,hix,hcs,hiy,hy2,hwj,ne0,A0,A1,A6p,A6o,A3k])
    refine D0 (Y1 rfl rfl (by omega)) ?_;simp only [go_sem,seval,ne0,A0,A1,hix,hiy];repeat' ((with_reducible first|refine wr ?_|refine A2 ?_ ?_|fail)<;>try simp only [go_sem,seval,hdj,hix,hcs,hiy,hy2,hwj,ne0,A0,A1,A6p,A6o,A3k])
    refine D0 (Y1 rfl rfl (by rw [A2Q];omega)) ?_;simp only [go_sem,seval,ne0,A0,A1,hwj];repeat' ((with_reducible first|refine wr ?_|refine A2 ?_ ?_|fail)<;>try simp only [go_sem,seval,hwj])
    have hKe:((K j).set (j * 4+3) (DV.int IntKind.i64 0)).set (j * 4+2) (G1 (y.body.map Pb.St.plain))=K (j+1):=by
     rw [hK,hK,a1,a2,A0Z,A0Z,A0N,A0N];rw [A0s,A0s,A0r hA (by decide:3<4),A0r hA (by decide:2<4)]
     congr 2
     show _=[I64 y.trig,.str y.name,G1 (Pb.St.plains y.body),I64 0];rw [Pb.St.plains_map];try rfl
    exact ⟨j+1,by simp [C6,tm,Tm.upd],by rw [<- hKe];exact Sub.refl _,inv ⟨by omega,by omega⟩,by omega⟩
   ·have hdj:decide ((j:Int)<(x.hds.length:Int))=false:=by simpa using hjl
    have hKM:K j=A8 ((x.hds.map Hd.plain).map Hd.v):=by rw [hK,A3v _ (by omega)]
    rw [hKM];repeat' ((with_reducible first|refine E3 (p:=IW _ _ (pz Tryz.prog 38 (.i (.i (.o (.i (.i .h)))))) _ _) ?_|refine wr ?_|refine A2 ?_ ?_|fail)<;>try simp only [go_sem,seval,hdj])
    unfold X7;have hCl2:=hCl k;have hone:∀ d∈(C k).set (k * 4+3) (DV.int IntKind.i64 0),d.one=true:=fun d hd=>by
     rcases List.mem_or_eq_of_mem_set hd with h|rfl
     ·rw [hC] at h;obtain ⟨z,hz,hd2⟩:=List.mem_flatMap.1 h;obtain ⟨w, -,rfl⟩:=A1I.1 hz;have hd2:d∈[.str w.name,I64 w.prio,A0z w.hds,I64 w.pos]:=hd2;simp at hd2;rcases hd2 with rfl|rfl|rfl|rfl<;>rfl
     ·rfl
    have hsp:CX=((C k).set (k * 4+3) (DV.int IntKind.i64 0)).take (k * 4+2)++[.slc (c+13) 0 x.hds.length]++((C k).set (k * 4+3) (DV.int IntKind.i64 0)).drop (k * 4+2+1):=by
     rw [hCX];exact B2u (by rw [A2Q];omega)
    have hfin:((C k).set (k * 4+3) (DV.int IntKind.i64 0)).take (k * 4+2)++[A0z (x.hds.map Hd.plain)]++((C k).set (k * 4+3) (DV.int IntKind.i64 0)).drop (k * 4+2+1)=C (k+1):=by
     rw [<- hCe rfl];exact (B2u (by rw [A2Q];omega)).symm
    refine IW.keep [1,2,3,29,30] [.ptr 0 0,.ptr 1 0,.ptr 9 0,I64 M.length,I64 k] (D5h (a:=c+13) (k:=i) (w:=4) (u:=4) (u':=4) (xs:=(x.hds.map Hd.plain).map Hd.v) (n:=x.hds.length) (junk:=[]) (by rw [A3 (by omega),A0,hsp]) (by rw [A0,A1M]) (fun d hd=>by
     rcases A1A.1 hd with h|h
     ·exact hone d (A2S h)
     ·exact hone d (A2T h)) (by simp) (A4r _) (by omega)) ?_
    rw [hfin];simp only [A2R,A3P];repeat' ((with_reducible first|refine wr ?_|refine A2 ?_ ?_|fail)<;>try simp only [go_sem,seval,hw])
    refine ⟨k+1,rfl,fun j b hj=>?_,inv ⟨by omega,by omega⟩,by omega⟩;by_cases e1:j=i
    ·subst e1;rw [A0] at hj ⊢;exact hj
    rw [A3 e1] at hj ⊢;by_cases e2:j=c+13
    ·subst e2;rw [C8s (by omega)] at hj;cases hj
    rw [F0 e2,A3 e2,A3 e1];exact hj
 ·have hd:decide ((k:Int)<(M.length:Int))=false:=by simpa using hlt
  have hCM:C k=A8 ((M.map Md.plain).map Md.v):=by rw [hC,A3v _ (by omega)]
  rw [hCM];repeat' ((with_reducible first|refine E3 (p:=IW _ _ (pz Tryz.prog 38 (.o (.o (.i (.i (.i .h)))))) _ _) ?_|refine wr ?_|refine A2 ?_ ?_|fail)<;>try simp only [go_sem,seval,hd])
  unfold X7;refine IW.keep [2,3] [.ptr 1 0,.ptr 9 0] (D0m (a:=i) (k:=9) (u:=4) (u':=4) (pre:=[O1 D']) (suf:=[]) (xs:=(M.map Md.plain).map Md.v) (junk:=[]) (n:=M.length) (by rw [A3 (by omega)];exact A3k) (by rw [A0,A1M]) (by simp [DV.one]) (by simp) (A4o _) (by omega)) ?_;simp only [A2R,A3P,List.singleton_append,A1M];repeat' ((with_reducible first|refine wr ?_|refine A2 ?_ ?_|fail)<;>try simp only [go_sem,seval,ne0,A0,A1,A6p,A6o,A3k])
  exact D6x (i:=1) rfl A0 ⟨_,GL.refl _ _⟩
theorem c_ppD0 (Q:Exit->Go.Sym.St->Prop) (G:DV) (c0:Nat) (H:Hp) (h9:H 9=some ⟨0,true,[.lst [],G]⟩)
  (next:∀ c,c0<=c->IW Tryz.prog 82 (pz Tryz.prog 38 (.o (.i (.i (.o .h))))) ⟨tm [(1,.ptr 0 0),(2,.ptr 1 0),(3,.ptr 9 0)],H,c⟩ Q):IW Tryz.prog 82 (pz Tryz.prog 38 (.i (.o .h))) ⟨tm [(1,.ptr 0 0),(2,.ptr 1 0),(3,.ptr 9 0)],H,c0⟩ Q:=by
 repeat' ((with_reducible first|refine wr ?_|refine A2 ?_ ?_|fail)<;>try simp only [go_sem,seval,h9])
 refine D2 (fun k:Nat=>[(1,.ptr 0 0),(2,.ptr 1 0),(3,.ptr 9 0),(17,I64 0),(18,I64 0)]) (fun _=>H) (fun k c=>c0<=c) (fun k=>0) 0 (by simp [C6,tm,Tm.upd]) (Sub.refl _) (A0H _) ?_;rintro k c hc;repeat' ((with_reducible first|refine E3 (p:=IW _ _ (pz Tryz.prog 38 (.o (.i (.i (.o .h))))) _ _) ?_|refine wr ?_|refine A2 ?_ ?_|fail)<;>try simp only [go_sem,seval])
 exact IW.stage (by simp [C6,tm,Tm.upd]) (next c hc)
theorem c_ppD (D:List Dc) (hD:D.length<=100000000000) (Q:Exit->Go.Sym.St->Prop) (G:DV) (hG:G.one=true) (c0 i:Nat) (hi:¬ i=9) (H Hn:Hp) (h9:H 9=some ⟨0,true,[.slc i 0 D.length,G]⟩) (hHi:H i=some ⟨4,true,A8 (D.map Dc.v)⟩)
  (hn:∀ j b,Hn j=some b->(j=9/\b=⟨0,true,[O1 (D.map Dc.plain),G]⟩)\/(¬ j=9/\¬ j=i/\H j=some b))
  (next:∀ c,c0<=c->IW Tryz.prog 82 (pz Tryz.prog 38 (.o (.i (.i (.o .h))))) ⟨tm [(1,.ptr 0 0),(2,.ptr 1 0),(3,.ptr 9 0)],Hn,c⟩ Q):IW Tryz.prog 82 (pz Tryz.prog 38 (.i (.o .h))) ⟨tm [(1,.ptr 0 0),(2,.ptr 1 0),(3,.ptr 9 0)],H,c0⟩ Q:=by
 have ne0:=X3 9 i (by omega);repeat' ((with_reducible first|refine wr ?_|refine A2 ?_ ?_|fail)<;>try simp only [go_sem,seval,h9])
 obtain ⟨C,hC⟩:∃ C:Nat->List DV, ∀ k,C k=A8 ((A7c Dc.plain D k).map Dc.v):=⟨_,fun _=>rfl⟩;have hCl:∀ k,(C k).length=D.length * 4:=fun k=>by rw [hC,B8 (u:=4) (A4y _),A0I,A3u]
 refine D2 (fun k:Nat=>[(1,.ptr 0 0),(2,.ptr 1 0),(3,.ptr 9 0),(17,I64 D.length),(18,I64 k)]) (fun k=>H.upd i ⟨4,true,C k⟩) (fun k c=>c0<=c/\k<=D.length) (fun k=>D.length-k) 0
  (by simp [C6,tm,Tm.upd]) (by
   rw [hC,B1d];intro j b hj;by_cases e:j=i
   ·subst e;rw [A0] at hj;rw [hHi];exact hj
   ·rw [A3 e] at hj;exact hj) ⟨A0H _,A1H _⟩ ?_
 rintro k c ⟨hc,hk⟩;by_cases hlt:k<D.length
 ·have hd:decide ((k:Int)<(D.length:Int))=true:=by simpa using hlt
  have hg:=A0E hlt;have hw:=w64 (n:=(k:Int)+1);generalize D[k]=x at hg;have hix:P5 4 (.slc i 0 D.length) (I64 k)=some (.ptr i (k * 4)):=by rw [A4m hlt,A1L]
  have hCk:=hCl k;repeat' ((with_reducible first|refine wr ?_|refine A2 ?_ ?_|fail)<;>try simp only [go_sem,seval,hd,hw,hix,h9,ne0,A0,A1])
  refine D0 (Y1 rfl rfl (by omega)) ?_;simp only [go_sem,seval,ne0,A0,A1,hw];repeat' ((with_reducible first|refine wr ?_|refine A2 ?_ ?_|fail)<;>try simp only [go_sem,seval,hw])
  refine ⟨k+1,by simp [C6,tm,Tm.upd],?_,inv ⟨by omega,by omega⟩,by omega⟩;have e:(C k).set (k * 4+3) (DV.int IntKind.i64 0)=C (k+1):=by
   obtain ⟨a1,a2⟩:=A7b Dc.plain hg;rw [hC,hC,a1,a2,A0Z,A0Z,A0N,A0N];have hA:(A8 (((D.take k).map Dc.plain).map Dc.v)).length=k * 4:=by
    rw [B8 (u:=4) (A4y _),A0I,A0I,A0T];congr 1;omega
   rw [A0s,A0s,A0r hA (by decide:3<4)];rfl
  rw [<- e];exact Sub.refl _
 ·have hd:decide ((k:Int)<(D.length:Int))=false:=by simpa using hlt
  have hCM:C k=A8 ((D.map Dc.plain).map Dc.v):=by rw [hC,A3v _ (by omega)]
  rw [hCM];repeat' ((with_reducible first|refine E3 (p:=IW _ _ (pz Tryz.prog 38 (.o (.i (.i (.o .h))))) _ _) ?_|refine wr ?_|refine A2 ?_ ?_|fail)<;>try simp only [go_sem,seval,hd])
  unfold X7;refine IW.keep [1,2,3] [.ptr 0 0,.ptr 1 0,.ptr 9 0] (D0m (a:=i) (k:=9) (u:=4) (u':=4) (pre:=[]) (suf:=[G]) (xs:=(D.map Dc.plain).map Dc.v) (n:=D.length) (junk:=[]) (by rw [A3 (by omega)];exact h9) (by rw [A0,A1M]) (by simpa using hG) (by simp) (A4y _) hi) ?_;simp only [A2R,A3P,A1K,List.singleton_append];refine IW.weaken (fun _=>.inr rfl) (fun j b hj=>?_) (next c hc);rcases hn j b hj with ⟨rfl,rfl⟩|⟨e1,e2,e3⟩
  ·exact A0
  ·rw [A3 e1,F0 e2,A3 e2];exact e3
theorem mgQ {X:Hp} {k t:Nat} {B:Blk} (h:¬ t=k):G6 [k] X ((L8 X [k]).upd t B)=X.upd t B:=by
 funext j
 by_cases e:j=k
 ·subst e;simp only [G6,A0R,if_true];rw [A3 (fun e=>h e.symm)]
 ·simp only [G6,A0R,if_neg e];by_cases e2:j=t
  ·subst e2;rw [A0,A0]
  ·rw [A3 e2,A3 e2];simp only [L8,A0R,if_neg e]
theorem A6f {X:Hp} {i j:Nat} {a b:Blk} (h:¬ i=j):(X.upd i a).upd j b=(X.upd j b).upd i a:=by
 funext n
 by_cases e1:n=i
 ·subst e1;rw [A3 h,A0,A0]
 ·by_cases e2:n=j
  ·subst e2;rw [A0,A3 e1,A0]
  ·rw [A3 e2,A3 e1,A3 e1,A3 e2]
theorem c_PPlain (r:Ru) (hB:r.sz<=100000000000):PC Tryz.prog 38 [r.v] r.plain.v:=by
 refine PC.ofT B2 rfl (A0A rfl) (by simp [DV.nlL,DV.nl,W4,W3]) (Ru.nl _) ?_;obtain ⟨D,M⟩:=r;have hDs:(D.map Dc.sz).sum+(M.map Md.sz).sum<=100000000000:=hB;have hDl:D.length<=(D.map Dc.sz).sum:=M6 fun x _=>by show 1<=1+_;omega
 have hMl:M.length<=(M.map Md.sz).sum:=M6 fun x _=>by show 1<=1+_+_;omega
 dsimp only [Ru.v,Ru.plain];by_cases hD0:D=[]
 ·subst hD0;by_cases hM0:M=[]
  ·subst hM0;repeat' ((with_reducible first|refine E3 (p:=IW _ _ (pz Tryz.prog 38 (.i (.o .h))) _ _) ?_|refine wr ?_|refine cpc c_CloneD0 ?_|refine cpc c_CloneM0 ?_|refine A2 ?_ ?_|fail)<;>try simp only [go_sem,seval])
   rw [A1];exact IW.stage (by simp [C6,tm,Tm.upd]) (c_ppD0 _ (U2 []) 11 _ A0 fun c _=>c_ppM0 [] [] c)
  ·have hmg:∀ (X:Hp) (B:Blk),G6 [9] X ((L8 X [9]).upd 11 B)=X.upd 11 B:=fun X B=>mgQ (by decide);repeat' ((with_reducible first|refine wr ?_|refine cpc c_CloneD0 ?_|refine A2 ?_ ?_|fail)<;>try simp only [go_sem,seval])
   refine AC.call (c_CloneMo M (by omega) hM0 _ _) ?_;rintro v' H' c2 ⟨rfl,rfl,rfl⟩ hc2;simp only [go_sem,seval,hmg,A0];repeat' ((with_reducible first|refine E3 (p:=IW _ _ (pz Tryz.prog 38 (.i (.o .h))) _ _) ?_|refine wr ?_|refine A2 ?_ ?_|fail)<;>try simp only [go_sem,seval,A0])
   rw [A6f (by decide:¬ 11=9),A1];refine IW.stage (by simp [C6,tm,Tm.upd]) (c_ppD0 _ (.slc 11 0 M.length) 12 _ (by rw [A3 (by decide)];exact A0) fun c hc=>c_ppM [] [] M (by omega) 11 c (by decide) (by omega))
 ·have hmg:∀ (X:Hp) (B:Blk),G6 [9] X ((L8 X [9]).upd 11 B)=X.upd 11 B:=fun X B=>mgQ (by decide);by_cases hM0:M=[]
  ·subst hM0;repeat' ((with_reducible first|refine wr ?_|refine A2 ?_ ?_|fail)<;>try simp only [go_sem,seval])
   refine AC.call (c_CloneDo D (by omega) hD0 _ _) ?_;rintro v' H' c2 ⟨rfl,rfl,rfl⟩ hc2;simp only [go_sem,seval,hmg,A0];repeat' ((with_reducible first|refine E3 (p:=IW _ _ (pz Tryz.prog 38 (.i (.o .h))) _ _) ?_|refine wr ?_|refine cpc c_CloneM0 ?_|refine A2 ?_ ?_|fail)<;>try simp only [go_sem,seval,A0])
   rw [A6f (by decide:¬ 11=9),A1];refine IW.stage (by simp [C6,tm,Tm.upd]) (c_ppD D (by omega) _ (U2 []) rfl 12 11 (by decide) _ (ppB D (D.map Dc.plain) [] (U2 [])) (by rw [A3 (by decide)];exact A0) A0 (fun j b hj=>?_) fun c _=>c_ppM0 D (D.map Dc.plain) c);by_cases e:j=9
   ·subst e;rw [A3k] at hj;exact .inl ⟨rfl,(Option.some.inj hj).symm⟩
   ·have e2:¬ j=11:=fun e2=>by subst e2;rw [C8s (by decide)] at hj;cases hj
    unfold ppB at hj;rw [A3 e] at hj;exact .inr ⟨e,e2,by rw [A3 e2,A3 e];exact hj⟩
  ·have hmg2:∀ (X:Hp) (B:Blk),G6 [9] X ((L8 X [9]).upd 12 B)=X.upd 12 B:=fun X B=>mgQ (by decide);repeat' ((with_reducible first|refine wr ?_|refine A2 ?_ ?_|fail)<;>try simp only [go_sem,seval])
   refine AC.call (c_CloneDo D (by omega) hD0 _ _) ?_;rintro v' H' c2 ⟨rfl,rfl,rfl⟩ hc2;simp only [go_sem,seval,hmg,A0];repeat' ((with_reducible first|refine wr ?_|refine A2 ?_ ?_|fail)<;>try simp only [go_sem,seval,A0])
   refine AC.call (c_CloneMo M (by omega) hM0 _ _) ?_;rintro v' H' c2 ⟨rfl,rfl,rfl⟩ hc2;simp only [go_sem,seval,hmg2,A0];repeat' ((with_reducible first|refine E3 (p:=IW _ _ (pz Tryz.prog 38 (.i (.o .h))) _ _) ?_|refine wr ?_|refine A2 ?_ ?_|fail)<;>try simp only [go_sem,seval,A0])
   rw [A6f (by decide:¬ 12=9),A6f (by decide:¬ 11=9),A1];refine IW.stage (by simp [C6,tm,Tm.upd]) (c_ppD D (by omega) _ (.slc 12 0 M.length) rfl 13 11 (by decide) _ ((ppB D (D.map Dc.plain) M (.slc 12 0 M.length)).upd 12 ⟨4,true,A8 (M.map Md.v)⟩) (by rw [A3 (by decide),A3 (by decide)];exact A0) (by rw [A3 (by decide)];exact A0) (fun j b hj=>?_) fun c hc=>c_ppM D (D.map Dc.plain) M (by omega) 12 c (by decide) (by omega));by_cases e:j=9
   ·subst e;rw [A3 (by decide),A3k] at hj;exact .inl ⟨rfl,(Option.some.inj hj).symm⟩
   ·by_cases e3:j=12
    ·subst e3;rw [A0] at hj;exact .inr ⟨e,by decide,by rw [A0];exact hj⟩
    ·rw [A3 e3] at hj;have e2:¬ j=11:=fun e2=>by subst e2;rw [C8s (by decide)] at hj;cases hj
     unfold ppB at hj;rw [A3 e] at hj;exact .inr ⟨e,e2,by rw [A3 e3,A3 e2,A3 e];exact hj⟩
theorem c_bkS (l m:DV) (k:Int) (s:List UInt8) (h1:s.length<=100000) (h2:(P0 s).2.2≠0->k≠0) (h3:(P0 s).2.2=0->(C0 s).1≠[]) (Q:Exit->Go.Sym.St->Prop) (H:Hp) (c:Nat) (hfr:∀ j,c<=j->H j=none)
  (next:∀ (T:Tm) H' c',T 0=l->T 1=m->T 5=I64 k->c<=c'->Q (.exit 1) ⟨T,H',c'⟩/\Q .normal ⟨T,H',c'⟩) :
  IW Tryz.prog 71 (pz Tryz.prog 10 (.o (.o (.o (.i .h))))) ⟨tm [(0,l),(1,m),(5,I64 k),(6,.str s)],H,c⟩ Q:=by
 have hp:=c_PParse s h1;have hz:=C3d s;have hv:=C0o s;have hpv:C4t (P0 s)=.tup [(P0 s).1.v,I64 (P0 s).2.1,I64 (P0 s).2.2]:=rfl;rw [hpv] at hp;have hrv:∀ r:Ru,r.v=.agg [O1 r.decls,U2 r.modes]:=fun _=>rfl;by_cases he:(P0 s).2.2=0
 ·have hne:=D9v (s:=s) (r:=(P0 s).1) (p:=(P0 s).2.1) (by rw [<- he]) (h3 he);rw [he] at hp;generalize (P0 s).1=r at hp hz hv hne;generalize (P0 s).2.1=p at hp;have hf:=c_PFormat r (by omega);have hV:=c_Valid r (by omega);rw [hv] at hV;have hft:=D0n hv hne;have hfe:(Y3 r == [])=false:=by simpa using hft
  have hpr:=c_PPlain r (by omega);have hnt:(!true)=false:=rfl;by_cases hlen:(Y3 r).length<=20000
  ·obtain ⟨b,hb1,hb2⟩:=D5y hv hlen;have hpb:=c_PParse (Y3 r) (by omega);have hzb:=C3d (Y3 r);rw [hb1] at hpb hzb;have hbf:=c_PFormat b (by dsimp only at hzb;omega);rw [C5l hb2] at hbf;have hbp:=c_PPlain b (by dsimp only at hzb;omega);rw [hb2] at hbp;have hsm:=c_Same31 r.plain r.plain (by rw [Ru.plain_sz];omega);rw [C7z rfl] at hsm;have hdl:decide (((Y3 r).length:Int)>20000)=false:=decide_eq_false (by omega);have htt:(Y3 r != Y3 r)=false:=by simp
   dsimp only [C4t] at hpb;rw [hrv] at hp hf hV;rw [hrv b] at hpb hbf;rw [hrv r,hrv r.plain] at hpr;rw [hrv b,hrv r.plain] at hbp;rw [hrv] at hsm;generalize Y3 r=t at *;generalize r.plain.decls=pd at hpr hbp hsm;generalize r.plain.modes=pm at hpr hbp hsm;have ne0:=X3 c (c+1) (by omega);repeat' ((with_reducible first|refine wr ?_|refine cpc hp ?_|refine cpc hf ?_|refine cpc hV ?_|refine cpc hpb ?_|refine cpc hbf ?_|refine cpc hbp ?_|refine cpc hpr ?_|refine cpc hsm ?_|refine A2 ?_ ?_|fail)<;>try simp only [go_sem,seval,hfe,hnt,hdl,htt,ne0,A0,A1])
   refine ⟨by and_intros<;>((repeat rw [A3 (by omega)]);exact hfr _ (by omega)),?_⟩;repeat' ((with_reducible first|refine wr ?_|refine cpc hp ?_|refine cpc hf ?_|refine cpc hV ?_|refine cpc hpb ?_|refine cpc hbf ?_|refine cpc hbp ?_|refine cpc hpr ?_|refine cpc hsm ?_|refine A2 ?_ ?_|fail)<;>try simp only [go_sem,seval,hfe,hnt,hdl,htt,ne0,A0,A1])
   refine ⟨by and_intros<;>((repeat rw [A3 (by omega)]);exact hfr _ (by omega)),?_⟩;repeat' ((with_reducible first|refine wr ?_|refine cpc hp ?_|refine cpc hf ?_|refine cpc hV ?_|refine cpc hpb ?_|refine cpc hbf ?_|refine cpc hbp ?_|refine cpc hpr ?_|refine cpc hsm ?_|refine A2 ?_ ?_|fail)<;>try simp only [go_sem,seval,hfe,hnt,hdl,htt,ne0,A0,A1])
   exact (next _ _ _ rfl rfl rfl (by omega)).2
  ·have hdl:decide (((Y3 r).length:Int)>20000)=true:=decide_eq_true (by omega);rw [hrv] at hp hf hV;repeat' ((with_reducible first|refine wr ?_|refine cpc hp ?_|refine cpc hf ?_|refine cpc hV ?_|refine A2 ?_ ?_|fail)<;>try simp only [go_sem,seval,hfe,hnt,hdl,A0,A1])
   exact (next _ _ _ rfl rfl rfl (by omega)).1
 ·have hk0:(k == 0)=false:=by simpa using h2 he
  have hen:((P0 s).2.2 != 0)=true:=by simpa using he
  generalize (P0 s).1=r at hp;rw [hrv] at hp;repeat' ((with_reducible first|refine wr ?_|refine cpc hp ?_|refine A2 ?_ ?_|fail)<;>try simp only [go_sem,seval,hk0,hen])
  exact (next _ _ _ rfl rfl rfl (by omega)).1
theorem c_SyntaxBack (l:List UInt8) (hl:l.length<=9223372036854775807) (m:List UInt8) (hm:m.length<=9223372036854775807):PC Tryz.prog 10 [.lst (bytesC l),.lst (bytesC m)] (.bool true):=by
 have hs:=c_sane31;refine PC.ofT B2 rfl (A0A rfl) (by simp [DV.nlL,DV.nl,D1o]) rfl ?_;repeat' ((with_reducible first|refine wr ?_|refine A2 ?_ ?_|fail)<;>try simp only [go_sem,seval])
 refine D2 (fun k:Nat=>[(0,.lst (bytesC l)),(1,.lst (bytesC m)),(5,I64 k)]) (fun _=>Sym.nil) (fun k c=>k<=2) (fun k=>2-k) 0 (by simp [C6,tm,Tm.upd]) (Sub.nil _) (A1H _) ?_;rintro k c hk;by_cases hlt:k<2
 ·have hd:decide ((k:Int)<2)=true:=decide_eq_true (by omega);have hw:=w64 (n:=(k:Int)+1);have h300:(l.take 300).length<=300:=by rw [A0T];omega
  repeat' ((with_reducible first|refine wr ?_|refine A2 ?_ ?_|fail)<;>try simp only [go_sem,seval,hd])
  refine AC.call (c_New l hl _ _) ?_;rintro v' H' c2 ⟨t,ht1,ht2,rfl,rfl⟩ hc2;simp only [go_sem,seval,A0,A1];repeat' ((with_reducible first|refine wr ?_|refine A2 ?_ ?_|fail)<;>try simp only [go_sem,seval,A0,A1])
  refine AC.call (C3y (l.take 300) h300 0 (by omega) 0 (by omega) _ _ t A0 (by omega)) ?_;rintro v' H' c3 ⟨s,j,g,ls,bj,rfl,rfl⟩ hc3;rw [A1];simp only [go_sem,seval,A0,A1];by_cases h0:k=0
  ·subst h0;repeat' ((with_reducible first|refine E3 (p:=IW _ _ (pz Tryz.prog 10 (.o (.o (.o (.i .h))))) _ _) ?_|refine wr ?_|refine A2 ?_ ?_|fail)<;>try simp only [go_sem,seval])
   have h2:(P0 s).2.2=0:=by
    obtain ⟨v,hv,ms,m1,m2,m3,m4,m5⟩:=C7y g (A0H _);exact ((D4h hv (by rw [m1];rfl) m2 m3 m4 m5.toks).2 (m5.scan (by omega))).1
   have h3:(C0 s).1≠[]:=by
    obtain ⟨v,hv,ms,m1,m2,m3,m4,m5⟩:=C7y g (A0H _);have h1:=m5.toks (m5.scan (by omega));intro e;rw [e] at h1;have hv4:∀ v∈A8s,4<=((A2y v).map dT).flatten.length:=by decide
    have h5:=hv4 v hv;have h6:=congrArg List.length h1;rw [A0C] at h6;simp only [A1Z,A0F] at h6;omega
   refine IW.stage (L:=[(0,.lst (bytesC l)),(1,.lst (bytesC m)),(5,I64 0),(6,.str s)]) (by simp [C6,tm,Tm.upd]) (c_bkS _ _ 0 s (by omega) (fun h=>absurd h2 h) (fun _=>h3) _ _ _ (fun j hj=>by rw [A3 (by omega)];rfl) ?_)
   ·intro T2 H' c' e0 e1 e5 hc';constructor;all_goals
     simp only [go_sem,seval];repeat' ((with_reducible first|refine wr ?_|refine A2 ?_ ?_|fail)<;>try simp only [go_sem,seval,hw,e0,e1,e5])
     have hw1:IntKind.i64.wrap 1=1:=w64 (by decide) (by decide);exact ⟨1,by simp [C6,tm,Tm.upd,hw1],Sub.nil _,inv (by omega),by omega⟩
  ·have hk1:k=1:=by omega
   subst hk1;repeat' ((with_reducible first|refine wr ?_|refine A2 ?_ ?_|fail)<;>try simp only [go_sem,seval])
   refine AC.call (c_Words2 l hl m hm _ _) ?_;rintro v' H' c4 ⟨T,hT1,hT2,hT3,rfl,rfl⟩ hc4;simp only [go_sem,seval];repeat' ((with_reducible first|refine E3 (p:=IW _ _ (pz Tryz.prog 10 (.o (.o (.o (.i .h))))) _ _) ?_|refine wr ?_|refine A2 ?_ ?_|fail)<;>try simp only [go_sem,seval])
   refine IW.stage (L:=[(0,.lst (bytesC l)),(1,.lst (bytesC m)),(5,I64 1),(6,.str (T4 T))]) (by simp [C6,tm,Tm.upd]) (c_bkS _ _ 1 (T4 T) (by have:=hT3.text;omega) (fun _=>by decide) (fun h=>D2l (fun e=>by rw [e] at hT1;simp at hT1) hT2 (C8x rfl h).1) _ _ _ (fun j hj=>by rw [A3 (by omega)];rfl) ?_)
   ·intro T2 H' c' e0 e1 e5 hc';constructor;all_goals
     simp only [go_sem,seval];repeat' ((with_reducible first|refine wr ?_|refine A2 ?_ ?_|fail)<;>try simp only [go_sem,seval,hw,e0,e1,e5])
     have hw1:IntKind.i64.wrap 2=2:=w64 (by decide) (by decide);exact ⟨2,by simp [C6,tm,Tm.upd,hw1],Sub.nil _,inv (by omega),by omega⟩
 ·have hd:decide ((k:Int)<2)=false:=decide_eq_false (by omega);repeat' ((with_reducible first|refine wr ?_|refine cpc hs ?_|refine A2 ?_ ?_|fail)<;>try simp only [go_sem,seval,hd])
  exact A9 rfl
end Go.Proofs.YthlpinppaclofaaGreatDoor
end

/-
  HELPERS of the claim: part 10 of its texts.
-/
import Derived.Test.YthlpinppaclofaaGreatDoorSyfi
import Derived.Maps.RangeRun
set_option linter.unusedSimpArgs false
noncomputable section
set_option linter.unusedVariables false
set_option linter.unusedSectionVars false
namespace Go.Sym
variable [Go.Sym.Tab]
open Go.Eng (Opd FOp AOp EOp IOp IOper DReg IC RV IFn trC trR A7v C2 opd A3q trO trF trA trE trI A9h trG trL A1g KKey Rg rgT B8p)
open Go.ChangeMaps (setBlock)
section
variable {P:Program} {N:Nat} {ρ ρ' ρ1:Ren} {s s' s1:St} {w w' w1:World} {a:Act} {ops:Array Oper}
theorem B2g {o:Oper} (h:o.guard=none) (y:Nat->Option Bool):Region.wanted o y=true:=by simp [Region.wanted,h]
theorem A7c {Q:Exit->Act->World->Prop} {o:Oper} {rest:List Oper} {v:Value} (hg:o.guard=none) (h:(execOp a.eval o).run P w=.ok (.value v) w') (k:wpList P ops Q rest (a.put o.dst v) w') :
  wpList P ops Q (o :: rest) a w:=by
 unfold wpList;rw [B2g hg,if_pos rfl];left;unfold Oper.wp;rw [h];exact k
theorem A4b {Q:Exit->Act->World->Prop} {Q':St->Prop} (rest:List Oper):∀ (os:List Oper) (is:List IOper) {ρ : Ren} {s:St} {a:Act} {w:World},trL P N ops os=some is->Sim N ρ s a w ->
  rwp P Q' is s->(∀ ρ' s' a' w',Q' s'->Sim N ρ' s' a' w'->Step ρ s w ρ' s' w'->wpList P ops Q rest a' w')->wpList P ops Q (os++rest) a w
 | [],is, ρ,s,a,w,htr,hS,h,hq=>by
  simp only [trL,Option.some.injEq] at htr;subst htr;exact hq ρ s a w h hS (Step.refl _ _ _)
 | o :: os,is, ρ,s,a,w,htr,hS,h,hq=>by
  simp only [trL] at htr;split at htr
  ·rename_i i is' ho his;cases htr;unfold trO at ho;split at ho
   ·rename_i op g hop hg hd;cases ho;rw [List.cons_append];unfold wpList;simp only [rwp] at h;split at h
    ·rename_i hw;rw [W4 hS hg rfl hw];rw [if_pos rfl];left;refine A5x hS hop h fun v v' H' c' ρ' w' hk d=>?_;obtain ⟨hS',hst⟩:=hS.did hd d;exact A4b rest os is' his hS' hk fun ρ2 s2 a2 w2 q2 hS2 hst2=>hq ρ2 s2 a2 w2 q2 hS2 (hst.trans hst2)
    ·rename_i hw;rw [W4 hS hg rfl hw];rw [if_neg A1Y];have d:Did ρ s.H s.c w undef w (.tup []) s.H s.c ρ := ⟨A0x ρ,hS.rep,hS.fresh,A0E _,fun _ _ h=>h,fun _ _=>rfl,Ext.refl _ _ _⟩;obtain ⟨hS',hst⟩:=hS.did hd d;exact A4b rest os is' his hS' h fun ρ2 s2 a2 w2 q2 hS2 hst2=>hq ρ2 s2 a2 w2 q2 hS2 (hst.trans hst2)
    ·exact h.elim
   ·cases ho
  ·cases htr
structure Kp (ρ : Ren) (s:St) (w:World) (r id:Nat) (o:Obj):Prop where
 nm : ρ.nm id=some ⟨r,0,0,0,false⟩
 lt:id<s.c
 no:s.H id=none
 obj:w.heap[r]? = some o
 blk:∀ j b t,s.H j=some b -> ρ.nm j=some t->t.block≠r
 fz : ρ.fz r=none
 fm : ρ.fm r=none
theorem Kp.step {r id:Nat} {o:Obj} (h:Kp ρ s w r id o) (st:Step ρ s w ρ' s' w'):Kp ρ' s' w' r id o:=by
 have hr:r<w.heap.size:=(A0Q.1 h.obj).1;refine ⟨(st.same id h.lt).trans h.nm,A4D h.lt st.up,?_,?_,fun j b t hb ht=>?_,?_,?_⟩
 ·cases hn:s'.H id with
  | none=>rfl
  | some x=>exact absurd h.no (st.dom id h.lt (by rw [hn];simp))
 ·rw [st.ext.keep r hr fun j b t hb _ ht=>h.blk j b t hb ht];exact h.obj
 ·rcases st.ext.mine j b t hb ht with h1|⟨i,b0,t0,e1, -,e2,e3⟩
  ·omega
  ·rw [<- e3];exact h.blk i b0 t0 e1 e2
 ·cases hf : ρ'.fz r with
  | none=>rfl
  | some x =>
   rcases st.ext.fzn r x hf with h1|h1|⟨i,b0,t0,e1, -,e2,e3⟩
   ·rw [h.fz] at h1;cases h1
   ·omega
   ·exact absurd e3 (h.blk i b0 t0 e1 e2)
 ·cases hf : ρ'.fm r with
  | none=>rfl
  | some x =>
   rcases st.ext.fmn r x hf with h1|h1|⟨i,b0,t0,e1, -,e2,e3⟩
   ·rw [h.fm] at h1;cases h1
   ·omega
   ·exact absurd e3 (h.blk i b0 t0 e1 e2)
theorem Kp.set {r id:Nat} {o o':Obj} (h:Kp ρ s w r id o) (hw:∀ k,k≠r->w'.heap[k]? = w.heap[k]?) (ho:w'.heap[r]? = some o'):Kp ρ s w' r id o' :=
 ⟨h.nm,h.lt,h.no,ho,h.blk,h.fz,h.fm⟩
theorem Sim.setKp {r id:Nat} {o:Obj} (hS:Sim N ρ s a w) (h:Kp ρ s w r id o) (hw:∀ k,k≠r->w'.heap[k]? = w.heap[k]?):Sim N ρ s a w':=by
 refine ⟨hS.tm,⟨fun j b hb=>?_,hS.rep.sep,fun k x hk=>?_,hS.rep.dis,fun k es hk=>?_⟩,hS.fresh,hS.size,hS.dfr⟩
 ·obtain ⟨t,h1,h2⟩:=hS.rep.blk j b hb;exact ⟨t,h1,h2.world (hw _ (h.blk j b t hb h1))⟩
 ·obtain ⟨e,fr,h1⟩:=hS.rep.frz k x hk;exact ⟨e,fr,by rw [hw k (fun e=>by rw [e,h.fz] at hk;cases hk)];exact h1⟩
 ·obtain ⟨⟨cl,h1,h2⟩,h3⟩:=hS.rep.frm k es hk;exact ⟨⟨cl,by rw [hw k (fun e=>by rw [e,h.fm] at hk;cases hk)];exact h1,h2⟩,h3⟩
theorem Step.set {r:Nat} (st:Step ρ1 s1 w1 ρ s w) (hr:w1.heap.size<=r) (hw:∀ k,k≠r->w'.heap[k]? = w.heap[k]?) (h1:w'.os=w.os) (h2:w'.tape=w.tape) (h3:w'.output=w.output) (h4:w'.heap.size=w.heap.size) :
  Step ρ1 s1 w1 ρ s w' :=
 ⟨st.up,st.dom,st.same,⟨st.ext.le,h1.trans st.ext.os,h2.trans st.ext.tape,h3.trans st.ext.output,h4▸st.ext.size,fun k hk hno=>(hw k (by omega)).trans (st.ext.keep k hk hno),st.ext.mine,st.ext.fzn,st.ext.fmn⟩⟩
theorem Sim.new (hS:Sim N ρ s a w) (o:Obj):Did ρ s.H s.c w (.pointer (some ⟨w.heap.size,0,none⟩)) (w.alloc o) (.ptr s.c 0) s.H (s.c+1) (ρ.upd s.c ⟨w.heap.size,0,0,0,false⟩) /\
  ∀ T,Kp (ρ.upd s.c ⟨w.heap.size,0,0,0,false⟩) ⟨T,s.H,s.c+1⟩ (w.alloc o) w.heap.size s.c o:=by
 have hid:=hS.fresh s.c (A0E _);have hle : ρ.le (ρ.upd s.c ⟨w.heap.size,0,0,0,false⟩):=Ren.le_upd hid;have hno:s.H s.c=none:=by
  cases h:s.H s.c with
  | none=>rfl
  | some b=>obtain ⟨t,h1, -⟩:=hS.rep.blk _ _ h;rw [hid] at h1;cases h1
 have nmj:∀ j b,s.H j=some b->(ρ.upd s.c ⟨w.heap.size,0,0,0,false⟩).nm j = ρ.nm j:=fun j b hb=>by
  have:j≠s.c:=fun e=>by rw [e,hno] at hb;cases hb
  simp only [Ren.upd,this,if_false]
 have lt:∀ j b t,s.H j=some b -> ρ.nm j=some t->t.block<w.heap.size:=fun j b t hb ht=>by
  obtain ⟨t',h1,h2⟩:=hS.rep.blk j b hb;rw [ht] at h1;cases h1;exact h2.lt
 have fzn : ρ.fz w.heap.size=none:=by
  cases hf : ρ.fz w.heap.size with
  | none=>rfl
  | some x=>exact absurd (hS.rep.flt hf) (Nat.lt_irrefl _)
 have fmn : ρ.fm w.heap.size=none:=by
  cases hf : ρ.fm w.heap.size with
  | none=>rfl
  | some x =>
   obtain ⟨⟨cl,h1, -⟩, -⟩:=hS.rep.frm _ _ hf;exact absurd (A0Q.1 h1).1 (Nat.lt_irrefl _)
 refine ⟨⟨.ptr s.c 0 _ (Ren.upd_same _ _ _) rfl,⟨fun j b hb=>?_,fun i j bi bj ti tj hi hj hij h1 h2 ho=>?_,fun k x hk=>?_,fun j b t hb ho ht=>?_,fun k es hk=>?_⟩,fun j hj=>?_,A3G _,fun _ _ h=>h,fun j hj=>?_,?_⟩,fun T=>⟨Ren.upd_same _ _ _,A2R _,hno,heap_alloc_new w o,fun j b t hb ht=>?_,fzn,fmn⟩⟩
 ·obtain ⟨t,h1,h2⟩:=hS.rep.blk j b hb;exact ⟨t,hle.nm _ _ h1,(h2.mono hle).world (heap_alloc_old w o h2.lt)⟩
 ·rw [nmj i bi hi] at h1;rw [nmj j bj hj] at h2;exact hS.rep.sep i j bi bj ti tj hi hj hij h1 h2 ho
 ·obtain ⟨e,fr,h1⟩:=hS.rep.frz k x hk;exact ⟨e,fr,by rw [heap_alloc_old w o (hS.rep.flt hk)];exact h1⟩
 ·rw [nmj j b hb] at ht;exact hS.rep.dis j b t hb ho ht
 ·obtain ⟨⟨cl,h1,h2⟩,h3⟩:=hS.rep.frm k es hk;refine ⟨⟨cl,by rw [heap_alloc_old w o (A0Q.1 h1).1];exact h1,h2⟩,fun j b t hb ho ht=>?_⟩;rw [nmj j b hb] at ht;exact h3 j b t hb ho ht
 ·simp only [Ren.upd,show j≠s.c by omega,if_false];exact hS.fresh j (by omega)
 ·simp only [Ren.upd,show j≠s.c by omega,if_false]
 ·refine ⟨hle,rfl,rfl,rfl,by simp,fun k hk _=>heap_alloc_old w o hk,fun j b t hb ht=>?_,fun k r hk=>.inl hk,fun k r hk=>.inl hk⟩;rw [nmj j b hb] at ht;exact .inr ⟨j,b,t,hb,fun h=>h,ht,rfl⟩
 ·rw [nmj j b hb] at ht;have:=lt j b t hb ht;omega
theorem A7f {c:Code} {x y:IC} (h:trC P N c=some (.seq x y)):∃ a b,c=.seq a b/\trC P N a=some x/\trC P N b=some y:=by
 cases c<;>simp only [trC] at h<;>(try (cases h;done))
 case seq a b =>
  split at h
  ·rename_i x' y' hx hy;cases h;exact ⟨a,b,rfl,hx,hy⟩
  ·cases h
 all_goals (repeat' (split at h))<;>(try (cases h;done))
 all_goals simp at h
theorem B6t {c:Code} {i:Nat} {x:IC} (h:trC P N c=some (.blk i x)):∃ b,c=.block i b/\trC P N b=some x:=by
 cases c<;>simp only [trC] at h<;>(try (cases h;done))
 case block j b =>
  simp only [A0R] at h;obtain ⟨x',hx,he⟩:=h;cases he;exact ⟨b,rfl,hx⟩
 all_goals (repeat' (split at h))<;>(try (cases h;done))
 all_goals simp at h
theorem B9w {c:Code} {x:IC} (h:trC P N c=some (.loop x)):∃ b,c=.loop b/\trC P N b=some x:=by
 cases c<;>simp only [trC] at h<;>(try (cases h;done))
 case loop b =>
  simp only [A0R] at h;obtain ⟨x',hx,he⟩:=h;cases he;exact ⟨b,rfl,hx⟩
 all_goals (repeat' (split at h))<;>(try (cases h;done))
 all_goals simp at h
theorem B9x {c:Code} {o:Opd} {x y:IC} (h:trC P N c=some (.cond o x y)):∃ c0 a b,c=.cond c0 a b/\opd c0=some o/\trC P N a=some x/\trC P N b=some y:=by
 cases c<;>simp only [trC] at h<;>(try (cases h;done))
 case cond c0 a b =>
  split at h
  ·rename_i c' x' y' hc0 hx hy;cases h;exact ⟨c0,a,b,rfl,hc0,hx,hy⟩
  ·cases h
 all_goals (repeat' (split at h))<;>(try (cases h;done))
 all_goals simp at h
theorem B4t {c:Code} {r:Rg} (h:trC P N c=some (.rg r)):∃ id ops d,c=.region id ops d/\rgT P N ops d=r:=by
 cases c<;>simp only [trC] at h<;>(try (cases h;done))
 case region id ops d =>
  split at h
  ·split at h
   ·cases h
   ·split at h<;>cases h
  ·cases h;exact ⟨id,ops,d,rfl,rfl⟩
 all_goals (repeat' (split at h))<;>(try (cases h;done))
 all_goals simp at h
theorem B6o {a b:Nat} (h:a.blt b=true):a<b:=by simpa [Nat.blt_eq] using h
theorem B7f {ops:Array Oper}:(∀ {i n io},B8p P N ops≠.r2 i n io)/\∀ {i n io},B8p P N ops≠.r3 i n io:=by
 constructor<;>intro i n io h<;>unfold B8p at h<;>(repeat' (split at h))<;>cases h
theorem C4r {ops:Array Oper} {d:Bool} {io:List IOper} {m it:Nat} (h:rgT P N ops d=.r1 io m it) :
  d=false/\∃ pre ty x p f k e,ops.toList=pre++[⟨some it,.range ty (.tmp m),x,p,f,none⟩]/\trL P N ops pre=some io/\P.underlying ty=some (.map k e)/\it<N:=by
 unfold rgT at h;split at h
 ·cases h
 ·refine ⟨rfl,?_⟩;split at h
  ·split at h<;>cases h
  ·split at h<;>cases h
  ·unfold B8p at h;split at h
   ·rename_i it' ty m' x p f pre hops;split at h
    ·rename_i k e io' hu hl hb;cases h;refine ⟨pre.reverse,ty,x,p,f,k,e,?_,hl,hu,B6o hb⟩;have:=congrArg List.reverse hops;simpa using this
    ·cases h
   ·cases h
theorem C4q {ops:Array Oper} {d:Bool} {io:List IOper} {it n:Nat} (h:rgT P N ops d=.r2 it n io) :
  d=false/\∃ rest x p f,ops.toList=⟨some n,.next (.tmp it) false,x,p,f,none⟩ :: rest/\trL P N ops rest=some io/\n<N:=by
 unfold rgT at h;split at h
 ·cases h
 ·refine ⟨rfl,?_⟩;split at h
  ·rename_i n' it' x p f rest hops;split at h
   ·rename_i io' hl hb;cases h;exact ⟨rest,x,p,f,hops,hl,B6o hb⟩
   ·cases h
  ·split at h<;>cases h
  ·exact absurd h B7f.1
theorem C4p {ops:Array Oper} {d:Bool} {io:List IOper} {it n:Nat} (h:rgT P N ops d=.r3 it n io) :
  d=false/\∃ rest x p f,ops.toList=⟨some n,.entry (.tmp it),x,p,f,none⟩ :: rest/\trL P N ops rest=some io/\n<N:=by
 unfold rgT at h;split at h
 ·cases h
 ·refine ⟨rfl,?_⟩;split at h
  ·split at h<;>cases h
  ·rename_i n' it' x p f rest hops;split at h
   ·rename_i io' hl hb;cases h;exact ⟨rest,x,p,f,hops,hl,B6o hb⟩
   ·cases h
  ·exact absurd h B7f.2
end
structure RgI (P:Program) (N:Nat) (ks vs:List DV) (it n e id b1 b2:Nat) (ok:Opd) (io2 io3:List IOper) (Y:IC) (Q:Exit->St->Prop) (I:List Nat->St->Prop):Prop where
 hit:∀ L s,I L s->s.T it=.ptr id 0
 fin:∀ L s,I L s->(∀ i<ks.length,i∈L)->rwp P (fun s3=>ev s3.T ok=.bool false/\Q .normal s3) io2 ⟨s.T.upd n (.tup [.bool false]),s.H,s.c⟩
 rnd:∀ L s i k v,I L s->L.Nodup->(∀ j∈L,j<ks.length)->i ∉ L->ks[i]? = some k->vs[i]? = some v ->
  rwp P (fun s3=>ev s3.T ok=.bool true/\s3.T it=.ptr id 0/\rwp P (fun s4=>IW P N Y s4 (A8z b2 (A6j (fun s5=>I (i :: L) s5) (A8z b1 Q)))) io3 ⟨s3.T.upd e (.tup [k,v]),s3.H,s3.c⟩) io2 ⟨s.T.upd n (.tup [.bool true,k,v]),s.H,s.c⟩
theorem IW.range {P:Program} {N:Nat} {io1 io2 io3:List IOper} {m it n e b1 b2:Nat} {ok:Opd} {Y:IC} {s:St} {Q:Exit->St->Prop}
  (h:rwp P (fun s1 => ∃ kd ks vs,s1.T m=.mp kd ks vs/\∃ I:List Nat->St->Prop,I [] ⟨s1.T.upd it (.ptr s1.c 0),s1.H,s1.c+1⟩/\RgI P N ks vs it n e s1.c b1 b2 ok io2 io3 Y Q I) io1 s) :
  IW P N (.seq (.rg (.r1 io1 m it)) (.blk b1 (.loop (.seq (.rg (.r2 it n io2)) (.seq (.cond ok .skip (.exit b1)) (.blk b2 (.seq (.rg (.r3 it e io3)) Y))))))) s Q:=by
 intro hm c hc;obtain ⟨cA,c2,rfl,hA,h2⟩:=A7f hc;obtain ⟨c3,rfl,h3⟩:=B6t h2;obtain ⟨c4,rfl,h4⟩:=B9w h3;obtain ⟨cB,c5,rfl,hB,h5⟩:=A7f h4;obtain ⟨c6,c7,rfl,h6,h7⟩:=A7f h5;obtain ⟨cc,cs,ce,rfl,hcc,hcs,hce⟩:=B9x h6;obtain ⟨c8,rfl,h8⟩:=B6t h7;obtain ⟨cC,cY,rfl,hC,hY⟩:=A7f h8;obtain ⟨iA,opsA,dA,rfl,eA⟩:=B4t hA;obtain ⟨iB,opsB,dB,rfl,eB⟩:=B4t hB;obtain ⟨iC,opsC,dC,rfl,eC⟩:=B4t hC;obtain ⟨rfl,pre,ty,xA,pA,fA,kt,et,hopsA,hlA,hu,hitN⟩:=C4r eA;obtain ⟨rfl,rB,xB,pB,fB,hopsB,hlB,hnN⟩:=C4q eB;obtain ⟨rfl,rC,xC,pC,fC,hopsC,hlC,heN⟩:=C4p eC;intro ρ a w hS;refine wp_seq (wp_region_list ?_);rw [hopsA];refine A4b _ pre io1 hlA hS h fun ρ1 s1 a1 w1 hh hS1 hst1=>?_;obtain ⟨kd,ks,vs,hTm,I,hI0,hI⟩:=hh;have rm:=hS1.tm m;rw [hTm] at rm;obtain ⟨bm,es,hfm,q1,q2,q3,q4,q5⟩:∃ bm es, ρ1.fm bm=some es/\ks.length=es.size/\vs.length=es.size/\(∀ (i:Nat) x (e:MapEntry),ks[i]? = some x->es[i]? = some e->VRel ρ1 x e.key) /\
   (∀ (i:Nat) x (e:MapEntry),vs[i]? = some x->es[i]? = some e->VRel ρ1 x e.val)/\a1.eval (.tmp m)=.map (some bm):=by
  generalize hv:a1.tmps.getD m undef=v at rm;cases rm with
  | mp _ _ _ b es h0 h1 h2 h3 h4 h5=>exact ⟨b,es,h0,h2,h3,h4,h5,hv⟩
 obtain ⟨⟨cl,hbm,hnd,F9⟩,hown⟩:=hS1.rep.frm bm es hfm;have run1:(execOp a1.eval ⟨some it,.range ty (.tmp m),xA,pA,fA,none⟩).run P w1=.ok (.value (.pointer (some ⟨w1.heap.size,0,none⟩))) (w1.alloc (.mapIter (some bm) cl #[] cl)):=by
  simp only [execOp,Sem.run_bind,q5,run_range_map w1 ty kt et bm es cl hu hbm,Result.andThen_ok,Sem.run_pure]
 refine A7c rfl run1 ?_;obtain ⟨d2,hkp2⟩:=hS1.new (.mapIter (some bm) cl #[] cl);obtain ⟨hS2,hst2⟩:=hS1.did (d:=some it) (by simp [A1g];omega) d2;unfold wpList;refine wp_block ?_;have hst12:=hst1.trans hst2;have hbmne:bm≠w1.heap.size:=fun e1=>by
  have:=(A0Q.1 hbm).1;omega
 have hbm2:(w1.alloc (.mapIter (some bm) cl #[] cl)).heap[bm]? = some (.map es cl):=by rw [heap_alloc_old _ _ (A0Q.1 hbm).1];exact hbm
 have map_keep:∀ {ρa:Ren} {sa:St} {wa:World} {ρb:Ren} {sb:St} {wb:World},Rep ρa sa.H wa -> ρa.fm bm=some es->wa.heap[bm]? = some (.map es cl)->Step ρa sa wa ρb sb wb->wb.heap[bm]? = some (.map es cl):=by
  intro ρa sa wa ρb sb wb hR hf hb st;rw [st.ext.keep bm (A0Q.1 hb).1 fun id b t h1 h2 h3=>(hR.frm bm es hf).2 id b t h1 h2 h3];exact hb
 refine wp_loop_ghost (fun μ a' w' => ∃ ρ' s' L seen,I L s'/\L.Nodup/\(∀ i∈L,i<ks.length)/\Sim N ρ' s' a' w'/\Step ρ1 s1 w1 ρ' s' w'/\Kp ρ' s' w' w1.heap.size s1.c (.mapIter (some bm) cl seen cl) /\
   w'.heap[bm]? = some (.map es cl)/\(∀ (i:Nat) (e:MapEntry),es[i]? = some e->(seen.contains e.born=true↔i∈L)) /\ μ = (leftOf es seen).size) _
  ⟨_,_,[], #[],hI0,List.nodup_nil,fun i hi=>(by cases hi),hS2,hst2,hkp2 _,hbm2,fun i e _=>by simp,rfl⟩ ?_
 rintro μ a' w' ⟨ρ',s',L,seen,hIL,hLn,hLb,hS',hst',hkp,hb',hsn,rfl⟩;have hfm' : ρ'.fm bm=some es:=hst'.ext.le.fm _ _ hfm;have rit:=hS'.tm it;rw [hI.hit L s' hIL] at rit;obtain ⟨t,ht, -,rit⟩:=rit.ptr_inv;rw [hkp.nm] at ht;cases ht;have eit:a'.eval (.tmp it)=.pointer (some ⟨w1.heap.size,0,none⟩):=rit;refine wp_seq (wp_region_list ?_);rw [hopsB];rcases run_next_at (P:=P) w' xB w1.heap.size bm cl cl seen es cl hkp.obj hb' F9 (A0E _) with ⟨h0,hrun⟩|⟨en,hen,wx,hal,hrun⟩
 ·have run2:(execOp a'.eval ⟨some n,.next (.tmp it) false,xB,pB,fB,none⟩).run P w'=.ok (.value (.tuple #[.bool false])) w':=by
   simp only [execOp,Sem.run_bind,eit,hrun,Result.andThen_ok,Sem.run_pure]
  refine A7c rfl run2 ?_;have d:Did ρ' s'.H s'.c w' (.tuple #[.bool false]) w' (.tup [.bool false]) s'.H s'.c ρ':=⟨.tup _ _ rfl (by
    intro i x y hx hy
    match i with
    | 0=>cases hx;cases hy;exact .bool _
    | _+1=>cases hx),hS'.rep,hS'.fresh,A0E _,fun _ _ h=>h,fun _ _=>rfl,Ext.refl _ _ _⟩
  obtain ⟨hS3,hst3⟩:=hS'.did (d:=some n) (by simp [A1g];omega) d;refine Y3 rB io2 hlB hS3 (hI.fin L s' hIL fun i hi=>?_) fun ρ4 s4 a4 w4 hq hS4 hst4=>?_
  ·have hi':i<es.size:=q1▸hi;have:=all_seen es seen h0 es[i] (by simp);exact (hsn i es[i] (by simp [hi'])).1 this
  ·obtain ⟨hok,hQ⟩:=hq;have hr:=C1 hS4.tm hcc;rw [hok] at hr;refine wp_seq (wp_cond hr.bool_inv ?_);rw [if_neg A1Y];refine wp_mono (IW.of (ic:=.exit b1) (Q:=fun e s=>e=.exit b1/\s=s4) ⟨rfl,rfl⟩ hm ce hce ρ4 a4 w4 hS4) ?_;rintro e5 a5 w5 ⟨ρ5,s5,⟨rfl,rfl⟩,hS5,hst5⟩;show (if b1=b1 then B4l N ρ s w Q .normal a5 w5 else _);rw [if_pos rfl];exact ⟨ρ5,s5,hQ,hS5,(((hst1.trans hst').trans hst3).trans hst4).trans hst5⟩
 ·obtain ⟨hmem,hfr⟩:=mem_left hen;obtain ⟨i,hi⟩:=List.getElem?_of_mem hmem;have hi2:es[i]? = some en:=by simpa using hi
  have his:i<es.size:=(A0Q.1 hi2).1;have hk:ks[i]? = some ks[i]:=A0C (by omega);have hv:vs[i]? = some vs[i]:=A0C (by omega);have hiL:i ∉ L:=fun hh=>by rw [(hsn i en hi2).2 hh] at hfr;cases hfr
  have rk:=(q3 i _ en hk hi2).mono hst'.ext.le;have rv:=(q4 i _ en hv hi2).mono hst'.ext.le;have hxh:wx.heap=w'.heap:=by rcases hal with rfl|rfl<;>rfl
  obtain ⟨w2,hw2⟩:∃ w2,w2=setBlock wx w1.heap.size (.mapIter (some bm) cl (seen.push en.born) cl):=⟨_,rfl⟩;rw [<- hw2] at hrun;have hrs:w1.heap.size<w'.heap.size:=(A0Q.1 hkp.obj).1;have k1:∀ k,k≠w1.heap.size->w2.heap[k]? = w'.heap[k]? := fun k hk=>by
   rw [hw2];simp only [setBlock,hxh];rw [A2Y,if_neg (Ne.symm hk)]
  have k2:w2.heap[w1.heap.size]? = some (.mapIter (some bm) cl (seen.push en.born) cl):=by
   rw [hw2];simp only [setBlock,hxh];rw [A2Y,if_pos rfl,if_pos hrs]
  have k3:w2.os=w'.os/\w2.tape=w'.tape/\w2.output=w'.output/\w2.heap.size=w'.heap.size:=by
   rw [hw2];rcases hal with rfl|rfl<;>exact ⟨rfl,rfl,rfl,by simp [setBlock]⟩
  have hSx:=hS'.setKp hkp k1;have hkx:=hkp.set k1 k2;have hstx:=hst'.set (A0E _) k1 k3.1 k3.2.1 k3.2.2.1 k3.2.2.2;have hbx:w2.heap[bm]? = some (.map es cl):=(k1 bm hbmne).trans hb';have run2:(execOp a'.eval ⟨some n,.next (.tmp it) false,xB,pB,fB,none⟩).run P w'=.ok (.value (.tuple #[.bool true,en.key,en.val])) w2:=by
   simp only [execOp,Sem.run_bind,eit,hrun,Result.andThen_ok,Sem.run_pure]
  refine A7c rfl run2 ?_;have d:Did ρ' s'.H s'.c w2 (.tuple #[.bool true,en.key,en.val]) w2 (.tup [.bool true,ks[i],vs[i]]) s'.H s'.c ρ':=⟨.tup _ _ rfl (by
    intro j x y hx hy
    match j with
    | 0=>cases hx;cases hy;exact .bool _
    | 1=>cases hx;cases hy;exact rk
    | 2=>cases hx;cases hy;exact rv
    | _+3=>cases hx),hSx.rep,hSx.fresh,A0E _,fun _ _ h=>h,fun _ _=>rfl,Ext.refl _ _ _⟩
  obtain ⟨hS3,hst3⟩:=hSx.did (d:=some n) (by simp [A1g];omega) d;have hk3:=hkx.step hst3;have hb3:=map_keep hSx.rep hfm' hbx hst3;have hf3:=hst3.ext.le.fm _ _ hfm';refine Y3 rB io2 hlB hS3 (hI.rnd L s' i _ _ hIL hLn hLb hiL hk hv) fun ρ4 s4 a4 w4 hq hS4 hst4=>?_;obtain ⟨hok,hit4,hQ⟩:=hq;have hk4:=hk3.step hst4;have hb4:=map_keep hS3.rep hf3 hb3 hst4;have hf4:=hst4.ext.le.fm _ _ hf3;have hr:=C1 hS4.tm hcc;rw [hok] at hr;refine wp_seq (wp_cond hr.bool_inv ?_);rw [if_pos rfl];refine wp_mono (IW.of (ic:=.skip) (Q:=fun e s=>e=.normal/\s=s4) ⟨rfl,rfl⟩ hm cs hcs ρ4 a4 w4 hS4) ?_;rintro e5 a5 w5 ⟨ρ5,s5,⟨rfl,rfl⟩,hS5,hst5⟩;have hk5:=hk4.step hst5;have hb5:=map_keep hS4.rep hf4 hb4 hst5;have hf5:=hst5.ext.le.fm _ _ hf4;refine wp_block (wp_seq (wp_region_list ?_));rw [hopsC];have rit5:=hS5.tm it;rw [hit4] at rit5;obtain ⟨t,ht, -,rit5⟩:=rit5.ptr_inv;rw [hk5.nm] at ht;cases ht;have eit5:a5.eval (.tmp it)=.pointer (some ⟨w1.heap.size,0,none⟩):=rit5;have run3:(execOp a5.eval ⟨some e,.entry (.tmp it),xC,pC,fC,none⟩).run P w5=.ok (.value (.tuple #[en.key,en.val])) w5:=by
   simp only [execOp,Sem.run_bind,eit5,run_entry_at (P:=P) w5 w1.heap.size bm cl seen es cl en hk5.obj hb5 hmem hnd,Result.andThen_ok,Sem.run_pure]
  refine A7c rfl run3 ?_;have hst35:=(hst3.trans hst4).trans hst5;have d:Did ρ5 s5.H s5.c w5 (.tuple #[en.key,en.val]) w5 (.tup [ks[i],vs[i]]) s5.H s5.c ρ5:=⟨.tup _ _ rfl (by
    intro j x y hx hy
    match j with
    | 0=>cases hx;cases hy;exact rk.mono hst35.ext.le
    | 1=>cases hx;cases hy;exact rv.mono hst35.ext.le
    | _+2=>cases hx),hS5.rep,hS5.fresh,A0E _,fun _ _ h=>h,fun _ _=>rfl,Ext.refl _ _ _⟩
  obtain ⟨hS6,hst6⟩:=hS5.did (d:=some e) (by simp [A1g];omega) d;have hk6:=hk5.step hst6;have hb6:=map_keep hS5.rep hf5 hb5 hst6;have hf6:=hst6.ext.le.fm _ _ hf5;refine Y3 rC io3 hlC hS6 hQ fun ρ7 s7 a7 w7 hY7 hS7 hst7=>?_;have hk7:=hk6.step hst7;have hb7:=map_keep hS6.rep hf6 hb6 hst7;have hf7:=hst7.ext.le.fm _ _ hf6;have hst17:=(((hstx.trans hst35).trans hst6).trans hst7);refine wp_mono (hY7 hm cY hY ρ7 a7 w7 hS7) ?_;rintro e8 a8 w8 ⟨ρ8,s8,hq8,hS8,hst8⟩;have hst18:=hst17.trans hst8;have hk8:=hk7.step hst8;have hb8:=map_keep hS7.rep hf7 hb7 hst8;have next:I (i :: L) s8->∃ n',n'<(leftOf es seen).size/\∃ ρ' s' L seen,I L s'/\L.Nodup/\(∀ i∈L,i<ks.length)/\Sim N ρ' s' a8 w8/\Step ρ1 s1 w1 ρ' s' w8/\Kp ρ' s' w8 w1.heap.size s1.c (.mapIter (some bm) cl seen cl) /\
   w8.heap[bm]? = some (.map es cl)/\(∀ (i:Nat) (e:MapEntry),es[i]? = some e->(seen.contains e.born=true↔i∈L))/\n'=(leftOf es seen).size:=fun hI8=>by
   refine ⟨_,left_shrinks es seen en hen, ρ8,s8,i :: L,seen.push en.born,hI8,List.nodup_cons.2 ⟨hiL,hLn⟩,fun j hj=>?_,hS8,hst18,hk8,hb8,fun j e' hj=>?_,rfl⟩
   ·rcases A1S.1 hj with rfl|hj
    ·omega
    ·exact hLb j hj
   ·rw [contains_push,A0X,A1S,hsn j e' hj];constructor
    ·rintro (h1|h1)
     ·exact .inr h1
     ·refine .inl ?_;have h2:=A1F.1 h1;have h3:(es.toList.map (·.born))[j]? = some en.born:=by rw [A1A,show es.toList[j]? = some e' by simpa using hj];simp [h2]
      have h4:(es.toList.map (·.born))[i]? = some en.born:=by rw [A1A,hi];rfl
      exact (List.getElem?_inj (A0L.1 h3).1 hnd).1 (h3.trans h4.symm)
    ·rintro (rfl|h1)
     ·rw [hi2] at hj;cases hj;exact .inr (beq_self_eq_true _)
     ·exact .inl h1
  have hend:Step ρ s w ρ8 s8 w8:=hst1.trans hst18;cases e8 with
  | normal=>exact next hq8
  | exit j =>
   simp only [A8z] at hq8;simp only [Exit.inBlock];split at hq8
   ·rename_i hj;rw [if_pos hj];exact next hq8
   ·rename_i hj;rw [if_neg hj];simp only [A6j,A8z] at hq8;show (if j=b1 then B4l N ρ s w Q .normal a8 w8 else B4l N ρ s w Q (.exit j) a8 w8);split at hq8
    ·rename_i hj1;rw [if_pos hj1];exact ⟨ρ8,s8,hq8,hS8,hend⟩
    ·rename_i hj1;rw [if_neg hj1];exact ⟨ρ8,s8,hq8,hS8,hend⟩
  | _=>exact ⟨ρ8,s8,hq8,hS8,hend⟩
theorem O6 {n:Nat} {v:DV}:∀ {l:List (Nat × DV)} {T:Tm},C9 l T->(∀ p∈l,p.1≠n)->C9 l (T.upd n v)
 | [],_,_,_=>trivial
 | (k,x) :: r,T,⟨h1,h2⟩,h=>⟨by simp only [Tm.upd,h (k,x) A0K,if_false];exact h1,O6 h2 fun p hp=>h p (A0J _ hp)⟩
theorem A9p (T:Tm) (n:Nat) (v:DV):(T.upd n v) n=v:=by simp [Tm.upd]
theorem R5 (T:Tm) {n k:Nat} (v:DV) (h:k≠n):(T.upd n v) k=T k:=by simp [Tm.upd,h]
def lpR {σ : Type} (it:Nat) (x:DV) (L : σ -> List (Nat × DV)) (h : σ -> Hp) (J:List Nat -> σ -> Nat->Prop) (D:List Nat) (Q:Exit->St->Prop):Exit->St->Prop
 | .normal,⟨T,H,c⟩=>T it=x/\∃ b,C9 (L b) T/\Sub (h b) H/\J D b c
 | e,s=>Q e s
theorem D4k {σ : Type} {it:Nat} {x:DV} {L : σ -> List (Nat × DV)} {h : σ -> Hp} {J:List Nat -> σ -> Nat->Prop} {D:List Nat} {Q:Exit->St->Prop} {T:Tm} {H:Hp} {c:Nat} :
  lpR it x L h J D Q .normal ⟨T,H,c⟩=(T it=x/\∃ b,C9 (L b) T/\Sub (h b) H/\B4k (J D) b c):=propext Iff.rfl
theorem D4j {σ : Type} {it:Nat} {x:DV} {L : σ -> List (Nat × DV)} {h : σ -> Hp} {J:List Nat -> σ -> Nat->Prop} {D:List Nat} {Q:Exit->St->Prop} {s:St}:lpR it x L h J D Q .ret s=Q .ret s:=propext Iff.rfl
attribute [go_sem] D4k D4j
theorem B2a {P:Program} {N f:Nat} {D:(Ps->IC)->TD} [F:FT P f D] {p0 p1 p2 p3 p4 p5:Ps} {g m it n ok e x y k v b1 b2:Nat} {Y z:IC} {L0 L1 L2 L3 L4 L5:List Nat}
  [g0:LkD (D (pz P f)) p0 (.Q (.rg (.r1 [⟨some m,.call g [],none⟩] m it)) (pz P f p1) L0)] [g1:LkD (D (pz P f)) p1 (.J (.loop (pz P f p2)) b1 L1)]
  [g2:LkD (D (pz P f)) p2 (.Q (.rg (.r2 it n [⟨some ok,.pur (.ext (.t n) 0),none⟩])) (pz P f p3) L2)] [g3:LkD (D (pz P f)) p3 (.C .skip (pz P f p4) (.exit b1) (.t ok) L3)]
  [g4:LkD (D (pz P f)) p4 (.J (pz P f p5) b2 L4)]
  [g5:LkD (D (pz P f)) p5 (.Q (.rg (.r3 it e [⟨some x,.pur (.ext (.t e) 0),none⟩,⟨some y,.pur (.ext (.t e) 1),none⟩,⟨some k,.pur (.mv (.t x)),none⟩,⟨some v,.pur (.mv (.t y)),none⟩])) Y L5)]
  {T:Tm} {H:Hp} {c:Nat} {Q0:Exit->St->Prop} {kd:KKey} {ks vs:List DV} (hc:PC P g [] (.mp kd ks vs)) {σ : Type} (L : σ -> List (Nat × DV)) (h : σ -> Hp) (J:List Nat -> σ -> Nat->Prop) (a : σ)
  (hd:[k,v,it,m,n,ok,e,x,y].Nodup) (hA:∀ b,((L b).map Prod.fst).all (fun q => !([k,v,it,m,n,ok,e,x,y].contains q))=true) (h0:C9 (L a) T) (hH:Sub (h a) H) (hJ:J [] a (c+1))
  (fin:∀ D b c,J D b c->(∀ i<ks.length,i∈D)->IW P N z ⟨tm (L b),h b,c⟩ Q0)
  (rnd:∀ it' D b c i kk vv,J D b c->D.Nodup->(∀ j∈D,j<ks.length)->i ∉ D->ks[i]? = some kk->vs[i]? = some vv ->
   IW P N Y ⟨tm ((it,it') :: (k,kk) :: (v,vv) :: L b),h b,c⟩ (bk b2 (lpR it it' L h J (i :: D) (bk b1 (sq P N z Q0))))) :
  IW P N (pz P f p0) ⟨T,H,c⟩ (sq P N z Q0):=by
 rw [wz g0.get,show PD.ic (.Q (.rg (.r1 [⟨some m,.call g [],none⟩] m it)) (pz P f p1) L0)=.seq (.rg (.r1 [⟨some m,.call g [],none⟩] m it)) (pz P f p1) from rfl,wz g1.get,show PD.ic (.J (.loop (pz P f p2)) b1 L1)=.blk b1 (.loop (pz P f p2)) from rfl,wz g2.get];show IW P N (.seq (.rg (.r1 [⟨some m,.call g [],none⟩] m it)) (.blk b1 (.loop (.seq (.rg (.r2 it n [⟨some ok,.pur (.ext (.t n) 0),none⟩])) (pz P f p3))))) _ _;rw [wz g3.get];show IW P N (.seq (.rg (.r1 [⟨some m,.call g [],none⟩] m it)) (.blk b1 (.loop (.seq (.rg (.r2 it n [⟨some ok,.pur (.ext (.t n) 0),none⟩])) (.seq (.cond (.t ok) .skip (.exit b1)) (pz P f p4)))))) _ _;rw [wz g4.get];show IW P N (.seq (.rg (.r1 [⟨some m,.call g [],none⟩] m it)) (.blk b1 (.loop (.seq (.rg (.r2 it n [⟨some ok,.pur (.ext (.t n) 0),none⟩])) (.seq (.cond (.t ok) .skip (.exit b1)) (.blk b2 (pz P f p5))))))) _ _;rw [wz g5.get];have hL:∀ b, ∀ p∈L b,p.1 ∉ [k,v,it,m,n,ok,e,x,y]:=fun b p hp hh=>by
  have h1:=A0P.1 (hA b) p.1 (A1M.2 ⟨p,hp,rfl⟩);rw [A2N.2 hh] at h1;cases h1
 simp only [List.nodup_cons,A1S,List.not_mem_nil,or_false,not_or] at hd hL;obtain ⟨⟨d1,d2,d3,d4,d5,d6,d7,d8⟩,⟨d9,d10,d11,d12,d13,d14,d15⟩,⟨d16,d17,d18,d19,d20,d21⟩,⟨d22,d23,d24,d25,d26⟩,⟨d27,d28,d29,d30⟩,⟨d31,d32,d33⟩,⟨d34,d35⟩,d36, -⟩:=hd;refine IW.range ?_;simp only [rwp,N0,O9,List.map_nil];refine cpc hc ⟨kd,ks,vs,A9p _ _ _,fun D s=>s.T it=.ptr c 0/\∃ b,C9 (L b) s.T/\Sub (h b) s.H/\J D b s.c,⟨A9p _ _ _,a,?_,hH,hJ⟩,fun D s q=>q.1,?_,?_⟩
 ·exact O6 (O6 h0 fun p hp=>(hL a p hp).2.2.2.1) fun p hp=>(hL a p hp).2.2.1
 ·rintro D s ⟨q1,b,q2,q3,q4⟩ hall;simp only [rwp,N0,O9,C2s,ev,A9p,C0u,A2G,H7];refine ⟨trivial,?_⟩;exact IW.weaken (W5 (O6 (O6 q2 fun p hp=>(hL b p hp).2.2.2.2.1) fun p hp=>(hL b p hp).2.2.2.2.2.1)) q3 (fin D b _ q4 hall)
 ·rintro D s i kk vv ⟨q1,b,q2,q3,q4⟩ hn hb hi hk hv;simp only [rwp,N0,O9,C2s,ev,A9p,C0u,A2G,A2H,H7,fev,R5 _ _ d36,R5 _ _ (Ne.symm d36),R5 _ _ d35,R5 _ _ d34,R5 _ _ (Ne.symm d34),R5 _ _ d7,R5 _ _ (Ne.symm d7),R5 _ _ (Ne.symm d8),R5 _ _ d15,R5 _ _ d14,R5 _ _ d18,R5 _ _ d19];refine ⟨trivial,by rw [R5 _ _ d17];exact q1,?_⟩;refine IW.weaken (T':=tm ((it,.ptr c 0) :: (k,kk) :: (v,vv) :: L b)) (W5 ⟨?_,?_,?_,?_⟩) q3 ((rnd (.ptr c 0) D b s.c i kk vv q4 hn hb hi hk hv).mono ?_)
  ·rw [R5 _ _ (Ne.symm d9),R5 _ _ (Ne.symm d2),R5 _ _ d21,R5 _ _ d20,R5 _ _ d19,R5 _ _ d18,R5 _ _ d17];exact q1
  ·rw [R5 _ _ d1,A9p]
  ·exact A9p _ _ _
  ·refine O6 (O6 (O6 (O6 (O6 (O6 (O6 q2 ?_) ?_) ?_) ?_) ?_) ?_) ?_<;>intro p hp<;>have h9:=hL b p hp
   ·exact h9.2.2.2.2.1
   ·exact h9.2.2.2.2.2.1
   ·exact h9.2.2.2.2.2.2.1
   ·exact h9.2.2.2.2.2.2.2.1
   ·exact h9.2.2.2.2.2.2.2.2
   ·exact h9.1
   ·exact h9.2.1
  ·rintro e5 ⟨T5,H5,c5⟩ q5;have key:∀ e6,lpR it (.ptr c 0) L h J (i :: D) (bk b1 (sq P N z Q0)) e6 ⟨T5,H5,c5⟩->A6j (fun s5=>s5.T it=.ptr c 0/\∃ b,C9 (L b) s5.T/\Sub (h b) s5.H/\J (i :: D) b s5.c) (A8z b1 (sq P N z Q0)) e6 ⟨T5,H5,c5⟩:=by
    intro e6 q6;cases e6<;>exact q6
   cases e5 with
   | exit j =>
    simp only [bk,A8z] at q5;simp only [A8z];split at q5
    ·rename_i hj;rw [if_pos hj];exact key _ q5
    ·rename_i hj;rw [if_neg hj];exact key _ q5
   | normal=>exact key .normal q5
   | ret=>exact key .ret q5
   | goto l=>exact key (.goto l) q5
   | panic l=>exact key (.panic l) q5
   | outgrown=>exact key .outgrown q5
end Go.Sym
set_option maxHeartbeats 4000000
set_option maxRecDepth 100000
namespace Go.Proofs.YthlpinppaclofaaGreatDoor
open Go.Eng (IC IOper DReg IFn C2)
open Go.Sym
abbrev x113:XT Tryz.prog 113:=mkF (by unfold C2;conv=>lhs;reduce;simp only [seval,u8n]) (fun h=>by conv=>lhs;cbv)
instance t113:FT Tryz.prog 113 x113.d:=x113.ft
abbrev x154:XT Tryz.prog 154:=mkF (by unfold C2;conv=>lhs;reduce;simp only [seval,u8n]) (fun h=>by conv=>lhs;cbv)
instance t154:FT Tryz.prog 154 x154.d:=x154.ft
abbrev x65:XT Tryz.prog 65:=mkF (by unfold C2;conv=>lhs;reduce;simp only [seval,u8n]) (fun h=>by conv=>lhs;cbv)
instance t65:FT Tryz.prog 65 x65.d:=x65.ft
abbrev x110:XT Tryz.prog 110:=mkF (by unfold C2;conv=>lhs;reduce;simp only [seval,u8n]) (fun h=>by conv=>lhs;cbv)
instance t110:FT Tryz.prog 110 x110.d:=x110.ft
abbrev x29:XT Tryz.prog 29:=mkF (by unfold C2;conv=>lhs;reduce;simp only [seval,u8n]) (fun h=>by conv=>lhs;cbv)
instance t29:FT Tryz.prog 29 x29.d:=x29.ft
abbrev x60:XT Tryz.prog 60:=mkF (by unfold C2;conv=>lhs;reduce;simp only [seval,u8n]) (fun h=>by conv=>lhs;cbv)
instance t60:FT Tryz.prog 60 x60.d:=x60.ft
abbrev x59:XT Tryz.prog 59:=mkF (by unfold C2;conv=>lhs;reduce;simp only [seval,u8n]) (fun h=>by conv=>lhs;cbv)
instance t59:FT Tryz.prog 59 x59.d:=x59.ft
abbrev x102:XT Tryz.prog 102:=mkF (by unfold C2;conv=>lhs;reduce;simp only [seval,u8n]) (fun h=>by conv=>lhs;cbv)
instance t102:FT Tryz.prog 102 x102.d:=x102.ft
abbrev x25:XT Tryz.prog 25:=mkF (by unfold C2;conv=>lhs;reduce;simp only [seval,u8n]) (fun h=>by conv=>lhs;cbv)
instance t25:FT Tryz.prog 25 x25.d:=x25.ft
abbrev x26:XT Tryz.prog 26:=mkF (by unfold C2;conv=>lhs;reduce;simp only [seval,u8n]) (fun h=>by conv=>lhs;cbv)
instance t26:FT Tryz.prog 26 x26.d:=x26.ft
abbrev x129:XT Tryz.prog 129:=mkF (by unfold C2;conv=>lhs;reduce;simp only [seval,u8n]) (fun h=>by conv=>lhs;cbv)
instance t129:FT Tryz.prog 129 x129.d:=x129.ft
abbrev x78:XT Tryz.prog 78:=mkF (by unfold C2;conv=>lhs;reduce;simp only [seval,u8n]) (fun h=>by conv=>lhs;cbv)
instance t78:FT Tryz.prog 78 x78.d:=x78.ft
abbrev x38:XT Tryz.prog 38:=mkF (by unfold C2;conv=>lhs;reduce;simp only [seval,u8n]) (fun h=>by conv=>lhs;cbv)
instance t38:FT Tryz.prog 38 x38.d:=x38.ft
abbrev x173:XT Tryz.prog 173:=mkF (by unfold C2;conv=>lhs;reduce;simp only [seval,u8n]) (fun h=>by conv=>lhs;cbv)
instance t173:FT Tryz.prog 173 x173.d:=x173.ft
abbrev x128:XT Tryz.prog 128:=mkF (by unfold C2;conv=>lhs;reduce;simp only [seval,u8n]) (fun h=>by conv=>lhs;cbv)
instance t128:FT Tryz.prog 128 x128.d:=x128.ft
abbrev x75:XT Tryz.prog 75:=mkF (by unfold C2;conv=>lhs;reduce;simp only [seval,u8n]) (fun h=>by conv=>lhs;cbv)
instance t75:FT Tryz.prog 75 x75.d:=x75.ft
abbrev x76:XT Tryz.prog 76:=mkF (by unfold C2;conv=>lhs;reduce;simp only [seval,u8n]) (fun h=>by conv=>lhs;cbv)
instance t76:FT Tryz.prog 76 x76.d:=x76.ft
abbrev x77:XT Tryz.prog 77:=mkF (by unfold C2;conv=>lhs;reduce;simp only [seval,u8n]) (fun h=>by conv=>lhs;cbv)
instance t77:FT Tryz.prog 77 x77.d:=x77.ft
abbrev x12:XT Tryz.prog 12:=mkF (by unfold C2;conv=>lhs;reduce;simp only [seval,u8n]) (fun h=>by conv=>lhs;cbv)
instance t12:FT Tryz.prog 12 x12.d:=x12.ft
abbrev x3:XT Tryz.prog 3:=mkF (by unfold C2;conv=>lhs;reduce;simp only [seval,u8n]) (fun h=>by conv=>lhs;cbv)
abbrev x39:XT Tryz.prog 39:=mkF (by unfold C2;conv=>lhs;reduce;simp only [seval,u8n]) (fun h=>by conv=>lhs;cbv)
instance t39:FT Tryz.prog 39 x39.d:=x39.ft
abbrev x79:XT Tryz.prog 79:=mkF (by unfold C2;conv=>lhs;reduce;simp only [seval,u8n]) (fun h=>by conv=>lhs;cbv)
instance t79:FT Tryz.prog 79 x79.d:=x79.ft
abbrev x27:XT Tryz.prog 27:=mkF (by unfold C2;conv=>lhs;reduce;simp only [seval,u8n]) (fun h=>by conv=>lhs;cbv)
instance t27:FT Tryz.prog 27 x27.d:=x27.ft
abbrev x11:XT Tryz.prog 11:=mkF (by unfold C2;conv=>lhs;reduce;simp only [seval,u8n]) (fun h=>by conv=>lhs;cbv)
instance t11:FT Tryz.prog 11 x11.d:=x11.ft
end Go.Proofs.YthlpinppaclofaaGreatDoor
set_option linter.unusedSimpArgs false
namespace Go.Pb
variable [Go.Sym.Tab]
open Go.Sym
theorem A2m {α : Type} {F : α -> DV} {u:Nat} (h:∀ a,(F a).cells.length=u) (l:List α):unit u (l.map F)=true:=by
 unfold unit;rw [A0P];intro x hx;obtain ⟨a, -,rfl⟩:=A1M.1 hx;simp [h a]
end Go.Pb
set_option maxHeartbeats 8000000
namespace Go.Proofs.YthlpinppaclofaaGreatDoor
open Go.Eng (IC IOper DReg IFn C2)
open Go.Sym Go.Pb
theorem c_CloneE0:PC Tryz.prog 173 [H3 []] (H3 []):=by
 have hub:A2k false 1 (H3 []) .snil=some .ub:=rfl;refine PC.ofT B1 rfl (A0B rfl) rfl rfl ?_;repeat' ((with_reducible first|refine wr ?_|refine A2 ?_ ?_|fail)<;>try simp only [go_sem,seval,hub])
 ·exact A1s
 ·refine C4 (v:=.slc 1 0 0) (H':=((Sym.nil.upd 0 ⟨5,true,[]⟩).del 0).upd 1 ⟨5,true,[]⟩) (c':=2) (by
   show A1x (Sym.nil.upd 0 ⟨5,true,[]⟩) 1 5 64 (.slc 0 0 0) 0 []=_;rw [A4f,A0,E1 rfl (by omega) (by omega)];rfl) ?_
  simp only [go_sem,seval];repeat' ((with_reducible first|refine wr ?_|refine A2 ?_ ?_|fail)<;>try simp only [go_sem,seval])
  exact J0 (u:=5) A0 rfl rfl (by simp) ⟨[],rfl⟩
theorem c_CloneEo (l:List Ex) (hl:l.length<=100000000000) (h0:l≠[]) (H:Hp) (cc:Nat):AC Tryz.prog 173 [H3 l] H cc (fun v H' c'=>v=.slc cc 0 l.length/\H'=H.upd cc ⟨5,true,A4 (l.map Ex.v)⟩/\c'=cc+1):=by
 refine AC.own (V:=fun id=>.slc id 0 l.length) (cs:=A4 (l.map Ex.v)) (u:=5) ?_ (by simp [DV.nlL,DV.nl,Q5]) (Y4 (Q5 l)) (fun ρ ρ' id id' v h1 h2 h3=>by cases h3 with|slc _ _ _ cap t g1 g2 g3 g4 g5=>exact .slc _ _ _ _ t (by rw [<- h1];exact g1) g2 g3 g4 g5) H cc;have hub:A2k false 1 (H3 l) .snil=some (.bool false):=by cases l with|nil=>exact absurd rfl h0|cons x r=>rfl
 have hun:unit 5 (l.map Ex.v)=true:=A2m (by intro a;rw [Ex.v_w];rfl) l;have hln:(A4 (l.map Ex.v)).length=l.length * 5:=(B5 (W0 _)).trans (by simp);refine AC.bodyT B1 rfl (A0B rfl) fun hfr=>?_;repeat' ((with_reducible first|refine wr ?_|refine A2 ?_ ?_|fail)<;>try simp only [go_sem,seval,hub,hun])
 refine C4 (E1 rfl (by omega) (by omega)) ?_;simp only [go_sem,seval];repeat' ((with_reducible first|refine wr ?_|refine A2 ?_ ?_|fail)<;>try simp only [go_sem,seval])
 refine ⟨_,Sym.nil.upd 1 ⟨5,true,A4 (l.map Ex.v)⟩,GL.less fun j=>?_,1,?_,rfl⟩
 ·by_cases e:j=1
  ·subst e;right;rw [A0,A0];try rfl
  ·left;rw [A3 e];rfl
 ·simp
theorem c_CloneS0:PC Tryz.prog 128 [F1 []] (F1 []):=by
 have hub:A2k false 1 (F1 []) .snil=some .ub:=rfl;refine PC.ofT B1 rfl (A0B rfl) rfl rfl ?_;repeat' ((with_reducible first|refine wr ?_|refine A2 ?_ ?_|fail)<;>try simp only [go_sem,seval,hub])
 ·exact A1s
 ·refine C4 (v:=.slc 1 0 0) (H':=((Sym.nil.upd 0 ⟨7,true,[]⟩).del 0).upd 1 ⟨7,true,[]⟩) (c':=2) (by
   show A1x (Sym.nil.upd 0 ⟨7,true,[]⟩) 1 7 120 (.slc 0 0 0) 0 []=_;rw [A4f,A0,E1 rfl (by omega) (by omega)];rfl) ?_
  simp only [go_sem,seval];repeat' ((with_reducible first|refine wr ?_|refine A2 ?_ ?_|fail)<;>try simp only [go_sem,seval])
  exact J0 (u:=7) A0 rfl rfl (by simp) ⟨[],rfl⟩
theorem c_CloneSo (l:List Pb.St) (hl:l.length<=100000000000) (h0:l≠[]) (H:Hp) (cc:Nat):AC Tryz.prog 128 [F1 l] H cc (fun v H' c'=>v=.slc cc 0 l.length/\H'=H.upd cc ⟨7,true,A4 (l.map Pb.St.v)⟩/\c'=cc+1):=by
 refine AC.own (V:=fun id=>.slc id 0 l.length) (cs:=A4 (l.map Pb.St.v)) (u:=7) ?_ (by simp [DV.nlL,DV.nl,O5]) (Y4 (O5 l)) (fun ρ ρ' id id' v h1 h2 h3=>by cases h3 with|slc _ _ _ cap t g1 g2 g3 g4 g5=>exact .slc _ _ _ _ t (by rw [<- h1];exact g1) g2 g3 g4 g5) H cc;have hub:A2k false 1 (F1 l) .snil=some (.bool false):=by cases l with|nil=>exact absurd rfl h0|cons x r=>rfl
 have hun:unit 7 (l.map Pb.St.v)=true:=A2m (by intro a;rw [Pb.St.v_w];rfl) l;have hln:(A4 (l.map Pb.St.v)).length=l.length * 7:=(B5 (X5 _)).trans (by simp);refine AC.bodyT B1 rfl (A0B rfl) fun hfr=>?_;repeat' ((with_reducible first|refine wr ?_|refine A2 ?_ ?_|fail)<;>try simp only [go_sem,seval,hub,hun])
 refine C4 (E1 rfl (by omega) (by omega)) ?_;simp only [go_sem,seval];repeat' ((with_reducible first|refine wr ?_|refine A2 ?_ ?_|fail)<;>try simp only [go_sem,seval])
 refine ⟨_,Sym.nil.upd 1 ⟨7,true,A4 (l.map Pb.St.v)⟩,GL.less fun j=>?_,1,?_,rfl⟩
 ·by_cases e:j=1
  ·subst e;right;rw [A0,A0];try rfl
  ·left;rw [A3 e];rfl
 ·simp
theorem c_CloneD0:PC Tryz.prog 75 [E8 []] (E8 []):=by
 have hub:A2k false 1 (E8 []) .snil=some .ub:=rfl;refine PC.ofT B1 rfl (A0B rfl) rfl rfl ?_;repeat' ((with_reducible first|refine wr ?_|refine A2 ?_ ?_|fail)<;>try simp only [go_sem,seval,hub])
 ·exact A1s
 ·refine C4 (v:=.slc 1 0 0) (H':=((Sym.nil.upd 0 ⟨4,true,[]⟩).del 0).upd 1 ⟨4,true,[]⟩) (c':=2) (by
   show A1x (Sym.nil.upd 0 ⟨4,true,[]⟩) 1 4 40 (.slc 0 0 0) 0 []=_;rw [A4f,A0,E1 rfl (by omega) (by omega)];rfl) ?_
  simp only [go_sem,seval];repeat' ((with_reducible first|refine wr ?_|refine A2 ?_ ?_|fail)<;>try simp only [go_sem,seval])
  exact J0 (u:=4) A0 rfl rfl (by simp) ⟨[],rfl⟩
theorem c_CloneDo (l:List Dc) (hl:l.length<=100000000000) (h0:l≠[]) (H:Hp) (cc:Nat):AC Tryz.prog 75 [E8 l] H cc (fun v H' c'=>v=.slc cc 0 l.length/\H'=H.upd cc ⟨4,true,A4 (l.map Dc.v)⟩/\c'=cc+1):=by
 refine AC.own (V:=fun id=>.slc id 0 l.length) (cs:=A4 (l.map Dc.v)) (u:=4) ?_ (by simp [DV.nlL,DV.nl,M8]) (Y4 (M8 l)) (fun ρ ρ' id id' v h1 h2 h3=>by cases h3 with|slc _ _ _ cap t g1 g2 g3 g4 g5=>exact .slc _ _ _ _ t (by rw [<- h1];exact g1) g2 g3 g4 g5) H cc;have hub:A2k false 1 (E8 l) .snil=some (.bool false):=by cases l with|nil=>exact absurd rfl h0|cons x r=>rfl
 have hun:unit 4 (l.map Dc.v)=true:=A2m (F:=Dc.v) (u:=4) (fun _=>rfl) l;have hln:(A4 (l.map Dc.v)).length=l.length * 4:=(B5 (W1 _)).trans (by simp);refine AC.bodyT B1 rfl (A0B rfl) fun hfr=>?_;repeat' ((with_reducible first|refine wr ?_|refine A2 ?_ ?_|fail)<;>try simp only [go_sem,seval,hub,hun])
 refine C4 (E1 rfl (by omega) (by omega)) ?_;simp only [go_sem,seval];repeat' ((with_reducible first|refine wr ?_|refine A2 ?_ ?_|fail)<;>try simp only [go_sem,seval])
 refine ⟨_,Sym.nil.upd 1 ⟨4,true,A4 (l.map Dc.v)⟩,GL.less fun j=>?_,1,?_,rfl⟩
 ·by_cases e:j=1
  ·subst e;right;rw [A0,A0];try rfl
  ·left;rw [A3 e];rfl
 ·simp
theorem c_CloneM0:PC Tryz.prog 76 [G6 []] (G6 []):=by
 have hub:A2k false 1 (G6 []) .snil=some .ub:=rfl;refine PC.ofT B1 rfl (A0B rfl) rfl rfl ?_;repeat' ((with_reducible first|refine wr ?_|refine A2 ?_ ?_|fail)<;>try simp only [go_sem,seval,hub])
 ·exact A1s
 ·refine C4 (v:=.slc 1 0 0) (H':=((Sym.nil.upd 0 ⟨4,true,[]⟩).del 0).upd 1 ⟨4,true,[]⟩) (c':=2) (by
   show A1x (Sym.nil.upd 0 ⟨4,true,[]⟩) 1 4 56 (.slc 0 0 0) 0 []=_;rw [A4f,A0,E1 rfl (by omega) (by omega)];rfl) ?_
  simp only [go_sem,seval];repeat' ((with_reducible first|refine wr ?_|refine A2 ?_ ?_|fail)<;>try simp only [go_sem,seval])
  exact J0 (u:=4) A0 rfl rfl (by simp) ⟨[],rfl⟩
theorem c_CloneMo (l:List Md) (hl:l.length<=100000000000) (h0:l≠[]) (H:Hp) (cc:Nat):AC Tryz.prog 76 [G6 l] H cc (fun v H' c'=>v=.slc cc 0 l.length/\H'=H.upd cc ⟨4,true,A4 (l.map Md.v)⟩/\c'=cc+1):=by
 refine AC.own (V:=fun id=>.slc id 0 l.length) (cs:=A4 (l.map Md.v)) (u:=4) ?_ (by simp [DV.nlL,DV.nl,M7]) (Y4 (M7 l)) (fun ρ ρ' id id' v h1 h2 h3=>by cases h3 with|slc _ _ _ cap t g1 g2 g3 g4 g5=>exact .slc _ _ _ _ t (by rw [<- h1];exact g1) g2 g3 g4 g5) H cc;have hub:A2k false 1 (G6 l) .snil=some (.bool false):=by cases l with|nil=>exact absurd rfl h0|cons x r=>rfl
 have hun:unit 4 (l.map Md.v)=true:=A2m (F:=Md.v) (u:=4) (fun _=>rfl) l;have hln:(A4 (l.map Md.v)).length=l.length * 4:=(B5 (A0g _)).trans (by simp);refine AC.bodyT B1 rfl (A0B rfl) fun hfr=>?_;repeat' ((with_reducible first|refine wr ?_|refine A2 ?_ ?_|fail)<;>try simp only [go_sem,seval,hub,hun])
 refine C4 (E1 rfl (by omega) (by omega)) ?_;simp only [go_sem,seval];repeat' ((with_reducible first|refine wr ?_|refine A2 ?_ ?_|fail)<;>try simp only [go_sem,seval])
 refine ⟨_,Sym.nil.upd 1 ⟨4,true,A4 (l.map Md.v)⟩,GL.less fun j=>?_,1,?_,rfl⟩
 ·by_cases e:j=1
  ·subst e;right;rw [A0,A0];try rfl
  ·left;rw [A3 e];rfl
 ·simp
theorem c_CloneH0:PC Tryz.prog 77 [T8 []] (T8 []):=by
 have hub:A2k false 1 (T8 []) .snil=some .ub:=rfl;refine PC.ofT B1 rfl (A0B rfl) rfl rfl ?_;repeat' ((with_reducible first|refine wr ?_|refine A2 ?_ ?_|fail)<;>try simp only [go_sem,seval,hub])
 ·exact A1s
 ·refine C4 (v:=.slc 1 0 0) (H':=((Sym.nil.upd 0 ⟨4,true,[]⟩).del 0).upd 1 ⟨4,true,[]⟩) (c':=2) (by
   show A1x (Sym.nil.upd 0 ⟨4,true,[]⟩) 1 4 56 (.slc 0 0 0) 0 []=_;rw [A4f,A0,E1 rfl (by omega) (by omega)];rfl) ?_
  simp only [go_sem,seval];repeat' ((with_reducible first|refine wr ?_|refine A2 ?_ ?_|fail)<;>try simp only [go_sem,seval])
  exact J0 (u:=4) A0 rfl rfl (by simp) ⟨[],rfl⟩
theorem c_CloneHo (l:List Hd) (hl:l.length<=100000000000) (h0:l≠[]) (H:Hp) (cc:Nat):AC Tryz.prog 77 [T8 l] H cc (fun v H' c'=>v=.slc cc 0 l.length/\H'=H.upd cc ⟨4,true,A4 (l.map Hd.v)⟩/\c'=cc+1):=by
 refine AC.own (V:=fun id=>.slc id 0 l.length) (cs:=A4 (l.map Hd.v)) (u:=4) ?_ (by simp [DV.nlL,DV.nl,A7j]) (Y4 (A7j l)) (fun ρ ρ' id id' v h1 h2 h3=>by cases h3 with|slc _ _ _ cap t g1 g2 g3 g4 g5=>exact .slc _ _ _ _ t (by rw [<- h1];exact g1) g2 g3 g4 g5) H cc;have hub:A2k false 1 (T8 l) .snil=some (.bool false):=by cases l with|nil=>exact absurd rfl h0|cons x r=>rfl
 have hun:unit 4 (l.map Hd.v)=true:=A2m (F:=Hd.v) (u:=4) (fun _=>rfl) l;have hln:(A4 (l.map Hd.v)).length=l.length * 4:=(B5 (V9 _)).trans (by simp);refine AC.bodyT B1 rfl (A0B rfl) fun hfr=>?_;repeat' ((with_reducible first|refine wr ?_|refine A2 ?_ ?_|fail)<;>try simp only [go_sem,seval,hub,hun])
 refine C4 (E1 rfl (by omega) (by omega)) ?_;simp only [go_sem,seval];repeat' ((with_reducible first|refine wr ?_|refine A2 ?_ ?_|fail)<;>try simp only [go_sem,seval])
 refine ⟨_,Sym.nil.upd 1 ⟨4,true,A4 (l.map Hd.v)⟩,GL.less fun j=>?_,1,?_,rfl⟩
 ·by_cases e:j=1
  ·subst e;right;rw [A0,A0];try rfl
  ·left;rw [A3 e];rfl
 ·simp
theorem X2 {H:Hp} {c id off u:Nat} {v:DV} {cs:List DV} (h1:v.cells=[v]) (h3:v.one=true) (h2:off<cs.length) :
  Go.Sym.stB H c id 1 off v (some ⟨u,true,cs⟩)=some (.tup [],H.upd id ⟨u,true,cs.set off v⟩,c):=by
 rw [A5n (by rw [h1];rfl) (by omega) (by rw [h1];simp [h3]),h1,List.set_eq_take_append_cons_drop,if_pos h2];simp
theorem Z5 {P cs Q:List DV} {v:DV} {n j:Nat} (hP:P.length=n) (hj:j<cs.length):(P++(cs++Q)).set (n+j) v=P++(cs.set j v++Q):=by
 rw [List.set_append_right _ _ (by omega),hP,Nat.add_sub_cancel_left,List.set_append_left _ _ hj]
theorem Z6 {A B:List DV} {x:DV}:A4 (A++x :: B)=A4 A++(x.cells++A4 B):=by rw [C6];rfl
def A5g {α : Type} (p : α -> α) (l:List α) (k:Nat):List α := (l.take k).map p++l.drop k
theorem A8n {α : Type} (p : α -> α) (l:List α):A5g p l 0=l:=rfl
theorem A2s {α : Type} (p : α -> α) {l:List α} {k:Nat} (h:l.length<=k):A5g p l k=l.map p:=by
 unfold A5g;rw [A0I h,A1P h,A1J]
theorem A2r {α : Type} (p : α -> α) (l:List α) (k:Nat):(A5g p l k).length=l.length:=by
 unfold A5g;simp;omega
theorem A5f {α : Type} (p : α -> α) {l:List α} {k:Nat} {x : α} (h:l[k]? = some x):A5g p l k=(l.take k).map p++x :: l.drop (k+1)/\A5g p l (k+1)=(l.take k).map p++p x :: l.drop (k+1):=by
 obtain ⟨h1,h2⟩:=A0L.1 h;constructor
 ·unfold A5g;rw [A0Z h1,h2]
 ·unfold A5g;rw [A1D,h];simp
theorem c_pplainE:∀ (m:Nat) (l:List Ex),Ex.szs l<m->Ex.szs l<=100000000000->PC Tryz.prog 129 [H3 l] (H3 (l.map Ex.plain)):=by
 intro m
 induction m with
 | zero=>intro l h;omega
 | succ m ih =>
 intro l hm hB;have hl:=Ex.szs_len l;refine PC.ofT B1 rfl (A0B rfl) (by simp [DV.nlL,DV.nl,Q5]) (Q5 _) ?_;by_cases h0:l=[]
 ·subst h0;repeat' ((with_reducible first|refine wr ?_|refine cpc c_CloneE0 ?_|refine A2 ?_ ?_|fail)<;>try simp only [go_sem,seval])
  refine D8 (fun k:Nat=>[(3,H3 []),(8,I64 0),(9,I64 0)]) (fun _=>Sym.nil) (fun k c=>True) (fun k=>0) 0 (by simp [C9,tm,Tm.upd]) (Sub.nil _) trivial ?_;rintro k c -;repeat' ((with_reducible first|refine wr ?_|refine A2 ?_ ?_|fail)<;>try simp only [go_sem,seval])
  exact B3 rfl
 repeat' ((with_reducible first|refine wr ?_|refine A2 ?_ ?_|fail)<;>try simp only [go_sem,seval])
 refine AC.call (c_CloneEo l (by omega) h0 _ _) ?_;rintro v' H' c2 ⟨rfl,rfl,rfl⟩ hc2;simp only [go_sem,seval,A0,A1];repeat' ((with_reducible first|refine wr ?_|refine A2 ?_ ?_|fail)<;>try simp only [go_sem,seval,A0,A1])
 obtain ⟨C,hC⟩:∃ C:Nat->List DV, ∀ k,C k=A4 ((A5g Ex.plain l k).map Ex.v):=⟨_,fun _=>rfl⟩;have hCl:∀ k,(C k).length=l.length * 5:=fun k=>by rw [hC,B5 (u:=5) (W0 _),A0G,A2r]
 refine D8 (fun k:Nat=>[(0,H3 l),(3,.slc 0 0 l.length),(8,I64 l.length),(9,I64 k)]) (fun k=>Sym.nil.upd 0 ⟨5,true,C k⟩) (fun k c=>1<=c/\k<=l.length) (fun k=>l.length-k) 0
  (by simp [C9,tm,Tm.upd]) (by rw [hC,A8n];exact Sub.refl _) ⟨by omega,A0Y _⟩ ?_
 rintro k c ⟨hc,hk⟩;by_cases hlt:k<l.length
 ·have hd:decide ((k:Int)<(l.length:Int))=true:=by simpa using hlt
  have hg:=A0C hlt;have hsx:=Ex.szs_mem (A0S hlt);have hw:=w64 (n:=(k:Int)+1) (by omega) (by omega);generalize l[k]=x at hg hsx;have hax:Ex.szs x.args<x.sz:=by cases x with|mk k v n a p=>rw [Ex.sz];show Ex.szs a<_;omega
  have hcl:=ih x.args (by omega) (by omega);have hi:A2j 5 (.slc 0 0 l.length) (I64 k)=some (.ptr 0 (k * 5)):=by rw [A3f hlt,A1L]
  have hCk:=hCl k;repeat' ((with_reducible first|refine wr ?_|refine A2 ?_ ?_|fail)<;>try simp only [go_sem,seval,hd,hg,hw,hi,Ex.v_w,A0,A1])
  refine C4 (X2 rfl rfl (by omega)) ?_;simp only [go_sem,seval,A0,A1];repeat' ((with_reducible first|refine wr ?_|refine cpc hcl ?_|refine A2 ?_ ?_|fail)<;>try simp only [go_sem,seval,hd,hg,hw,hi,Ex.v_w,A0,A1])
  refine C4 (X2 rfl rfl (by rw [A2Q];omega)) ?_;simp only [go_sem,seval,hw,A1];repeat' ((with_reducible first|refine wr ?_|refine A2 ?_ ?_|fail)<;>try simp only [go_sem,seval,hw])
  refine ⟨k+1,by simp [C9,tm,Tm.upd],?_,inv ⟨by omega,by omega⟩,by omega⟩;have e:((C k).set (k * 5+4) (I64 0)).set (k * 5+3) (H3 (x.args.map Ex.plain))=C (k+1):=by
   obtain ⟨a1,a2⟩:=A5f Ex.plain hg;rw [hC,hC,a1,a2,A0M,A0M,A0O,A0O];have hA:(A4 (((l.take k).map Ex.plain).map Ex.v)).length=k * 5:=by
    rw [B5 (u:=5) (W0 _),A0G,A0G,A1B];congr 1;omega
   rw [Z6,Z6,Ex.v_w,Ex.v_w];rw [Z5 hA (by decide:4<5),Z5 hA (by decide:3<5)]
   congr 2
   cases x with|mk kk v n a p =>
   show _=[I64 kk,I64 v,.str n,H3 (Ex.plains a),I64 0];rw [Ex.plains_map];rfl
  rw [<- e];exact Sub.refl _
 ·have hd:decide ((k:Int)<(l.length:Int))=false:=by simpa using hlt
  repeat' ((with_reducible first|refine wr ?_|refine A2 ?_ ?_|fail)<;>try simp only [go_sem,seval,hd])
  rw [hC,A2s _ (by omega)];exact J0 (u:=5) A0 rfl (by simp) (W0 _) ⟨[],by simp⟩
theorem c_pplainS:∀ (m:Nat) (l:List Pb.St),Pb.St.szs l<m->Pb.St.szs l<=100000000000->PC Tryz.prog 78 [F1 l] (F1 (l.map Pb.St.plain)):=by
 intro m
 induction m with
 | zero=>intro l h;omega
 | succ m ih =>
 intro l hm hB;have hl:=Pb.St.szs_len l;refine PC.ofT B1 rfl (A0B rfl) (by simp [DV.nlL,DV.nl,O5]) (O5 _) ?_;by_cases h0:l=[]
 ·subst h0;repeat' ((with_reducible first|refine wr ?_|refine cpc c_CloneS0 ?_|refine A2 ?_ ?_|fail)<;>try simp only [go_sem,seval])
  refine D8 (fun k:Nat=>[(3,F1 []),(8,I64 0),(9,I64 0)]) (fun _=>Sym.nil) (fun k c=>True) (fun k=>0) 0 (by simp [C9,tm,Tm.upd]) (Sub.nil _) trivial ?_;rintro k c -;repeat' ((with_reducible first|refine wr ?_|refine A2 ?_ ?_|fail)<;>try simp only [go_sem,seval])
  exact B3 rfl
 repeat' ((with_reducible first|refine wr ?_|refine A2 ?_ ?_|fail)<;>try simp only [go_sem,seval])
 refine AC.call (c_CloneSo l (by omega) h0 _ _) ?_;rintro v' H' c2 ⟨rfl,rfl,rfl⟩ hc2;simp only [go_sem,seval,A0,A1];repeat' ((with_reducible first|refine wr ?_|refine A2 ?_ ?_|fail)<;>try simp only [go_sem,seval,A0,A1])
 obtain ⟨C,hC⟩:∃ C:Nat->List DV, ∀ k,C k=A4 ((A5g Pb.St.plain l k).map Pb.St.v):=⟨_,fun _=>rfl⟩;have hCl:∀ k,(C k).length=l.length * 7:=fun k=>by rw [hC,B5 (u:=7) (X5 _),A0G,A2r]
 refine D8 (fun k:Nat=>[(0,F1 l),(3,.slc 0 0 l.length),(8,I64 l.length),(9,I64 k)]) (fun k=>Sym.nil.upd 0 ⟨7,true,C k⟩) (fun k c=>1<=c/\k<=l.length) (fun k=>l.length-k) 0
  (by simp [C9,tm,Tm.upd]) (by rw [hC,A8n];exact Sub.refl _) ⟨by omega,A0Y _⟩ ?_
 rintro k c ⟨hc,hk⟩;by_cases hlt:k<l.length
 ·have hd:decide ((k:Int)<(l.length:Int))=true:=by simpa using hlt
  have hg:=A0C hlt;have hsx:=Pb.St.szs_mem (A0S hlt);have hw:=w64 (n:=(k:Int)+1) (by omega) (by omega);generalize l[k]=x at hg hsx;have hax:Ex.szs x.args<x.sz:=by cases x with|mk k n t a x y p=>rw [Pb.St.sz];show Ex.szs a<_;omega
  have htx:=x.sz_thn;have hyx:=x.sz_els;have hca:=c_pplainE (Ex.szs x.args+1) x.args (by omega) (by omega);have hct:=ih x.thn (by omega) (by omega);have hcy:=ih x.els (by omega) (by omega);have hi:A2j 7 (.slc 0 0 l.length) (I64 k)=some (.ptr 0 (k * 7)):=by rw [A3f hlt,A1L]
  have hCk:=hCl k;repeat' ((with_reducible first|refine wr ?_|refine A2 ?_ ?_|fail)<;>try simp only [go_sem,seval,hd,hg,hw,hi,Pb.St.v_w,A0,A1])
  refine C4 (X2 rfl rfl (by omega)) ?_;simp only [go_sem,seval,A0,A1];repeat' ((with_reducible first|refine wr ?_|refine cpc hca ?_|refine A2 ?_ ?_|fail)<;>try simp only [go_sem,seval,hd,hg,hw,hi,Pb.St.v_w,A0,A1])
  refine C4 (X2 rfl rfl (by rw [A2Q];omega)) ?_;simp only [go_sem,seval,A0,A1];repeat' ((with_reducible first|refine wr ?_|refine cpc hct ?_|refine cpc hcy ?_|refine A2 ?_ ?_|fail)<;>try simp only [go_sem,seval,hd,hg,hw,hi,Pb.St.v_w,A0,A1])
  refine ⟨by rw [A3 (by omega)];rfl,?_⟩;have hcc:¬ c=0:=by omega
  repeat' ((with_reducible first|refine wr ?_|refine cpc hct ?_|refine cpc hcy ?_|refine A2 ?_ ?_|fail)<;>try simp only [go_sem,seval,hd,hg,hw,hi,Pb.St.v_w,A0,A1])
  refine ⟨by rw [A3 (by omega)];rfl,M9 (X2 rfl rfl (by simp only [A2Q];omega)) ?_⟩;simp only [go_sem,seval,A0,A1,hi];repeat' ((with_reducible first|refine wr ?_|refine A2 ?_ ?_|fail)<;>try simp only [go_sem,seval,hd,hg,hw,hi,Pb.St.v_w,A0,A1])
  refine M9 (X2 rfl rfl (by simp only [A2Q];omega)) ?_;simp only [go_sem,seval,A1,hw];repeat' ((with_reducible first|refine wr ?_|refine A2 ?_ ?_|fail)<;>try simp only [go_sem,seval,hw])
  refine ⟨k+1,by simp [C9,tm,Tm.upd],?_,inv ⟨by omega,by omega⟩,by omega⟩;have e:((((C k).set (k * 7+6) (I64 0)).set (k * 7+3) (H3 (x.args.map Ex.plain))).set (k * 7+4) (F1 (x.thn.map Pb.St.plain))).set (k * 7+5) (F1 (x.els.map Pb.St.plain))=C (k+1):=by
   obtain ⟨a1,a2⟩:=A5f Pb.St.plain hg;rw [hC,hC,a1,a2,A0M,A0M,A0O,A0O];have hA:(A4 (((l.take k).map Pb.St.plain).map Pb.St.v)).length=k * 7:=by
    rw [B5 (u:=7) (X5 _),A0G,A0G,A1B];congr 1;omega
   rw [Z6,Z6,Pb.St.v_w,Pb.St.v_w];rw [Z5 hA (by decide:6<7),Z5 hA (by decide:3<7),Z5 hA (by decide:4<7),Z5 hA (by decide:5<7)]
   congr 2
   cases x with|mk kk n t a y z p =>
   show _=[I64 kk,.str n,.str t,H3 (Ex.plains a),F1 (Pb.St.plains y),F1 (Pb.St.plains z),I64 0];rw [Ex.plains_map,Pb.St.plains_map,Pb.St.plains_map];rfl
  rw [<- e];exact Sub.refl _
 ·have hd:decide ((k:Int)<(l.length:Int))=false:=by simpa using hlt
  repeat' ((with_reducible first|refine wr ?_|refine A2 ?_ ?_|fail)<;>try simp only [go_sem,seval,hd])
  rw [hC,A2s _ (by omega)];exact J0 (u:=7) A0 rfl (by simp) (X5 _) ⟨[],by simp⟩
end Go.Proofs.YthlpinppaclofaaGreatDoor
namespace Go.Pb
variable [Go.Sym.Tab]
open Go.Sym
def J2 (t:Tok):Prop:=(t.kind=2->F6 t.text=true)/\(t.kind=5->F6 t.text=false)
theorem C3o {s:List UInt8} (h:F6 s=true):∃ c r,s=c :: r/\ltB c=true:=by
 have key:∀ w∈E9,(match w with|c :: _=>ltB c | []=>false)=true:=by decide +kernel
 have hm:s∈E9:=by simpa [F6] using h
 have:=key s hm;cases s with
 | nil=>simp at this
 | cons c r=>exact ⟨c,r,rfl,this⟩
theorem B5r {s:List UInt8} {p:Int} (h:(D0 s).err=0):J2 (nxT (D0 s) p):=by
 unfold J2;cases s with
 | nil=>simp [D0,nxE] at h
 | cons c q =>
  by_cases hl:ltB c=true
  ·by_cases h12:12<F2 ptB (c :: q)
   ·rw [D0,if_pos hl,if_pos h12] at h;simp [nxE] at h
   ·rw [D0,if_pos hl,if_neg h12,nxT];cases hz:F6 ((c :: q).take (F2 ptB (c :: q))) with
    | true=>exact ⟨fun _=>rfl,fun hk=>by simp at hk⟩
    | false=>exact ⟨fun hk=>by simp at hk,fun _=>rfl⟩
  ·by_cases hd:dgB c=true
   ·by_cases h3:1<F2 dgB (c :: q)/\c.toNat=48
    ·rw [D0,if_neg hl,if_pos hd,if_pos h3] at h;simp [nxE] at h
    ·by_cases h2:2147483647<A2q ((c :: q).take (F2 dgB (c :: q)))
     ·rw [D0,if_neg hl,if_pos hd,if_neg h3,if_pos h2] at h;simp [nxE] at h
     ·rw [D0,if_neg hl,if_pos hd,if_neg h3,if_neg h2,nxT];exact ⟨fun hk=>by simp at hk,fun hk=>by simp at hk⟩
   ·by_cases h34:c.toNat=34
    ·cases hq:quM q with
     | none=>rw [D0,if_neg hl,if_neg hd,if_pos h34,hq] at h;simp [nxE] at h
     | some x =>
      obtain ⟨t,m⟩:=x;by_cases h32:32<t.length
      ·rw [D0,if_neg hl,if_neg hd,if_pos h34,hq] at h;simp only at h;rw [if_pos h32] at h;simp [nxE] at h
      ·rw [D0,if_neg hl,if_neg hd,if_pos h34,hq];simp only;rw [if_neg h32,nxT];exact ⟨fun hk=>by simp at hk,fun hk=>by simp at hk⟩
    ·by_cases hs:S2 (c :: q)=0
     ·rw [D0,if_neg hl,if_neg hd,if_neg h34,if_pos hs] at h;simp [nxE] at h
     ·rw [D0,if_neg hl,if_neg hd,if_neg h34,if_neg hs,nxT];refine ⟨fun hk=>by simp at hk,fun _=>?_⟩;simp only;cases hz:F6 ((c :: q).take (S2 (c :: q))) with
      | false=>rfl
      | true =>
       obtain ⟨d,r,h1,h2⟩:=C3o hz;obtain ⟨k,hk⟩:∃ k,S2 (c :: q)=k+1:=⟨S2 (c :: q)-1,by omega⟩;rw [hk] at h1;simp only [A1U,List.cons.injEq] at h1;rw [<- h1.1] at h2;exact absurd h2 hl
theorem A9v {s:List UInt8} (h:(E7 s).2.2=0):∀ t∈(E7 s).1,J2 t:=fun t ht=>by
 obtain ⟨s,p,h1,rfl⟩:=B7b h t ht;exact B5r h1
def R2 (x:List UInt8):Nat->List (List UInt8)->Int
 | _,[] => -1
 | k,w :: l=>if (x == w)=true then (k:Int) else R2 x (k+1) l
theorem A8m (x:List UInt8):∀ (l:List (List UInt8)) (k:Nat),(R2 x k l = -1/\l.contains x=false)\/((k:Int)<=R2 x k l/\R2 x k l<((k+l.length:Nat):Int)/\l.contains x=true)
 | [],k=>.inl ⟨rfl,rfl⟩
 | w :: l,k=>by
  have:=A8m x l (k+1);unfold R2;cases h:(x == w) with
  | true=>exact .inr ⟨by simp,by simp only [if_true,A0U];omega,by simp at h;simp [h]⟩
  | false =>
   simp only [A1I,if_false,A0U,A2T,h,A4B];rcases this with ⟨h1,h2⟩|⟨h1,h2,h3⟩
   ·exact .inl ⟨h1,h2⟩
   ·exact .inr ⟨by omega,by omega,h3⟩
section
variable {L:List Tok} {E:Int}
def isP (L:List Tok) (E:Int) (s:Rd) (k:Int) (l:List (List UInt8)):Bool:=okR s && (A7 L E s).kind == k && l.contains (A7 L E s).text
theorem B0b (hK:∀ t∈L,J2 t) (s:Rd):J2 (A7 L E s):=by
 by_cases h:(A7 L E s).kind=0
 ·unfold J2;rw [h];exact ⟨fun h=>(by cases h),fun h=>(by cases h)⟩
 ·exact hK _ (I0 h rfl).1
theorem W8 (hK:∀ t∈L,J2 t) {s:Rd} {w:List UInt8} (hw:F6 w=true):isR L E s w=isP L E s 2 [w]:=by
 have:=B0b (E:=E) hK s;unfold isR isP;generalize A7 L E s=t at *;cases okR s<;>simp only [A1G,A3E];by_cases ht:t.text=w
 ·subst ht;have h5:t.kind≠5:=fun h=>by rw [this.2 h] at hw;cases hw
  simp [h5]
 ·simp [ht]
theorem G5 (hK:∀ t∈L,J2 t) {s:Rd} {w:List UInt8} (hw:F6 w=false):isR L E s w=isP L E s 5 [w]:=by
 have:=B0b (E:=E) hK s;unfold isR isP;generalize A7 L E s=t at *;cases okR s<;>simp only [A1G,A3E];by_cases ht:t.text=w
 ·subst ht;have h5:t.kind≠2:=fun h=>by rw [this.1 h] at hw;cases hw
  simp [h5]
 ·simp [ht]
theorem A9e {s:Rd} {k:Int}:∀ {l:List (List UInt8)},(∀ w∈l,isR L E s w=isP L E s k [w])->(okR s && (A7 L E s).kind == k)=false->∀ j,Y2 L E s j l = -1
 | [],_,_,_=>rfl
 | w :: l,h,h0,j=>by
  have h1:=h w (A0K);have:isP L E s k [w]=false:=by unfold isP;rw [h0];rfl
  rw [Y2,h1,this,if_neg (by decide)];exact A9e (fun w hw=>h w (A0J _ hw)) h0 (j+1)
theorem A0l {s:Rd} {k:Int}:∀ {l:List (List UInt8)},(∀ w∈l,isR L E s w=isP L E s k [w])->(okR s && (A7 L E s).kind == k)=true->∀ j,Y2 L E s j l=R2 (A7 L E s).text j l
 | [],_,_,_=>rfl
 | w :: l,h,h0,j=>by
  have h1:=h w (A0K);have:isP L E s k [w]=((A7 L E s).text == w):=by unfold isP;rw [h0];simp only [A2T,A3W,Bool.or_false,A1G]
  rw [Y2,R2,h1,this,A0l (fun w hw=>h w (A0J _ hw)) h0 (j+1)]
theorem A7m {s:Rd} {k:Int} {l:List (List UInt8)} (h:∀ w∈l,isR L E s w=isP L E s k [w]):isP L E s k l=decide (0<=B9 L E s l):=by
 unfold B9 isP;cases h0:(okR s && (A7 L E s).kind == k) with
 | false=>rw [A9e h h0];rfl
 | true =>
  rw [A0l h h0];rcases A8m (A7 L E s).text l 0 with ⟨h1,h2⟩|⟨h1,h2,h3⟩
  ·rw [h1,h2];rfl
  ·rw [h3];simp only [A1W];exact (decide_eq_true (by simpa using h1)).symm
theorem A3z (hK:∀ t∈L,J2 t) (s:Rd) {l:List (List UInt8)} (h:l.all F6=true):∀ w∈l,isR L E s w=isP L E s 2 [w]:=fun w hw=>W8 hK (A0P.1 h w hw)
theorem B5c (hK:∀ t∈L,J2 t) (s:Rd) {l:List (List UInt8)} (h:l.all (fun w => !F6 w)=true):∀ w∈l,isR L E s w=isP L E s 5 [w]:=fun w hw=>G5 hK (by simpa using A0P.1 h w hw)
def pfl (L:List Tok) (E:Int) (s:Rd) (e:Int):Rd:=K5 s (A7 L E s).pos e
theorem X9 {s:Rd} {n m e:Int}:C7 L E s n m e=if m<n then pfl L E s e else s:=rfl
def F8 (L:List Tok) (E:Int) (s:Rd) (k:Int) (w:List UInt8):Rd:=if isP L E s k [w]=false then pfl L E s 4 else A8 s
structure Eqv (s m:Rd):Prop where
 e:s.e=m.e
 p:s.pos=m.pos
 s:okR m=true->s=m
theorem Eqv.refl (s:Rd):Eqv s s:=⟨rfl,rfl,fun _=>rfl⟩
theorem Eqv.ok {s m:Rd} (h:Eqv s m):okR s=okR m:=by unfold okR;rw [h.e]
theorem Eqv.cas {s m:Rd} (h:Eqv s m):(s=m/\okR m=true)\/(okR s=false/\okR m=false):=by
 cases k:okR m with
 | true=>exact .inl ⟨h.s k,rfl⟩
 | false=>exact .inr ⟨by rw [h.ok,k],rfl⟩
theorem X7 {s:Rd} {e:Int} (h:okR s=false):pfl L E s e=s:=by unfold pfl K5;rw [h];rfl
theorem B1y {s:Rd} {k:Int} {l:List (List UInt8)} (h:okR s=false):isP L E s k l=false:=by unfold isP;rw [h];rfl
theorem C6b {s:Rd} {w:List UInt8} (h:okR s=false):isR L E s w=false:=by unfold isR;rw [h];rfl
theorem B1z {s:Rd} {k:Int} (h:okR s=false):G7 L E s k=false:=by unfold G7;rw [h];rfl
theorem A7q {s:Rd} {k:Int} {w:List UInt8} (h:okR s=false):F8 L E s k w=s:=by unfold F8;rw [B1y h,if_pos rfl,X7 h]
theorem A7g {s:Rd} (h:okR s=false):O3 L E s=s:=X7 h
theorem C5r {s:Rd} {n m e:Int} (h:okR s=false):C7 L E s n m e=s:=by rw [X9,X7 h];split<;>rfl
theorem A5i {s:Rd} {w:List UInt8} (h:okR s=false):D6 L E s w=s:=by unfold D6;rw [C6b h,if_pos rfl,A7g h]
theorem B2r {s:Rd} {k:Int} (h:okR s=false):A9 L E s k=(M6,s):=by unfold A9;rw [B1z h,if_pos rfl,A7g h]
theorem Eqv.want {s m:Rd} {k:Int} {w:List UInt8} (h:Eqv s m) (hw:∀ s:Rd,isR L E s w=isP L E s k [w]):Eqv (F8 L E s k w) (D6 L E m w):=by
 rcases h.cas with ⟨rfl,_⟩|⟨h1,h2⟩
 ·unfold F8 D6;rw [hw];exact .refl _
 ·rw [A7q h1,A5i h2];exact h
theorem Eqv.take {s m:Rd} {k:Int} (h:Eqv s m):Eqv (A9 L E s k).2 (A9 L E m k).2/\(A9 L E s k).1=(A9 L E m k).1:=by
 rcases h.cas with ⟨rfl,_⟩|⟨h1,h2⟩
 ·exact ⟨.refl _,rfl⟩
 ·rw [B2r h1,B2r h2];exact ⟨h,rfl⟩
theorem Eqv.bad {s m:Rd} (e:s.e=m.e) (p:s.pos=m.pos) (h:okR m=false):Eqv s m:=⟨e,p,fun k=>by rw [h] at k;cases k⟩
structure PI (L:List Tok) (s:Rd):Prop where
 i:s.i<=L.length
 o0:0<=s.ops
 o1:s.ops<=32
 p0:0<=s.par
 p1:s.par<=16
theorem A8c {s:Rd} {e:Int}:(pfl L E s e).i=s.i/\(pfl L E s e).ops=s.ops/\(pfl L E s e).par=s.par:=by unfold pfl K5;split<;>exact ⟨rfl,rfl,rfl⟩
theorem PI.fl {s:Rd} {e:Int} (h:PI L s):PI L (pfl L E s e):=by
 obtain ⟨h1,h2,h3⟩:=A8c (L:=L) (E:=E) (s:=s) (e:=e);exact ⟨by rw [h1];exact h.i,by rw [h2];exact h.o0,by rw [h2];exact h.o1,by rw [h3];exact h.p0,by rw [h3];exact h.p1⟩
theorem T7 {s:Rd} {k:Int} {l:List (List UInt8)} (hk:k≠0) (h:isP L E s k l=true):okR s=true/\s.i<L.length/\(A7 L E s).kind=k:=by
 unfold isP at h;simp only [A0D,A1F] at h;exact ⟨h.1.1,(I0 hk h.1.2).2,h.1.2⟩
theorem PI.nxt {s:Rd} (h:PI L s) (hi:s.i<L.length):PI L (A8 s):=⟨hi,h.o0,h.o1,h.p0,h.p1⟩
theorem PI.want {s:Rd} {k:Int} {w:List UInt8} (hk:k≠0) (h:PI L s):PI L (F8 L E s k w)/\(F8 L E s k w).par=s.par:=by
 unfold F8;cases q:isP L E s k [w] with
 | false=>rw [if_pos rfl];exact ⟨h.fl,A8c.2.2⟩
 | true=>rw [if_neg (by decide)];exact ⟨h.nxt (T7 hk q).2.1,rfl⟩
theorem PI.take {s:Rd} {x:Int} (hx:x≠0) (h:PI L s):PI L (A9 L E s x).2/\(A9 L E s x).2.par=s.par:=by
 unfold A9;cases k:G7 L E s x with
 | false=>rw [if_pos rfl];exact ⟨h.fl,A8c.2.2⟩
 | true=>rw [if_neg (by simp)];exact ⟨h.nxt (I0 hx (I2 k).2).2,rfl⟩
theorem A8b {s:Rd} (h:okR s=false):H9 L E s=(Ex0,s):=by
 unfold H9;dsimp only;rw [B9,A1y h,B1z h,B1z h,A7g h,if_pos ⟨by decide,rfl,rfl⟩]
theorem EN.all:∀ f:Nat,(∀ n s r,F5 L E f n s=some r->okR s=false->r=(Ex0,s))/\(∀ n e s r,K2 L E f n e s=some r->okR s=false->r=(e,s))/\(∀ s r,K8 L E f s=some r->okR s=false->r=(Ex0,s))
 | 0=>⟨fun n s r h=>(by simp [F5] at h),fun n e s r h=>(by simp [K2] at h),fun s r h=>(by simp [K8] at h)⟩
 | f+1=>by
  obtain ⟨ib,il,iu⟩:=EN.all f;refine ⟨fun n s r h ho=>?_,fun n e s r h ho=>?_,fun s r h ho=>?_⟩
  ·unfold F5 at h;split at h
   ·exact iu _ _ h ho
   ·cases hb:F5 L E f (n+1) s with
    | none=>rw [hb] at h;cases h
    | some q =>
     obtain rfl:=ib _ _ _ hb ho;rw [hb] at h;exact il _ _ _ _ h ho
  ·unfold K2 at h;dsimp only at h;rw [B9,A1y ho,if_pos (.inl (by decide))] at h;cases h;rfl
  ·unfold K8 at h;dsimp only at h;rw [B9,A1y ho,if_pos (by decide),A8b ho] at h;cases h;rfl
theorem C2t {f:Nat} {s:Rd} {r:Ex × Rd} (h:H4 L E f s=some r) (ho:okR s=false):r=(Ex0, { s with ops:=0,par:=0 }):=(EN.all f).1 _ _ _ h ho
theorem C4d {f:Nat} {d:Int} {s:Rd} {r:St × Rd} (h:J6 L E f d s=some r) (ho:okR s=false):r=(St0,s):=by
 cases f with
 | zero=>simp [J6] at h
 | succ f =>
  unfold J6 at h;simp only [C5r ho,ho] at h;cases h;rfl
theorem C6y {f:Nat} {d:Int} {l:List St} {s:Rd} {r:List St × Rd} (h:K6 L E f d l s=some r) (ho:okR s=false):r=(l,s):=by
 cases f with
 | zero=>simp [K6] at h
 | succ f =>
  unfold K6 at h;rw [ho,if_neg (by simp),A5i ho] at h;cases h;rfl
theorem C7a {f:Nat} {d:Int} {s:Rd} {r:List St × Rd} (h:G4 L E f d s=some r) (ho:okR s=false):r=([],s):=by
 cases f with
 | zero=>simp [G4] at h
 | succ f =>
  unfold G4 at h;rw [A5i ho] at h;exact C6y h ho
theorem Eqv.isP {s m:Rd} {k:Int} {l:List (List UInt8)} (h:Eqv s m):isP L E s k l=isP L E m k l:=by
 rcases h.cas with ⟨rfl,_⟩|⟨h1,h2⟩
 ·rfl
 ·rw [B1y h1,B1y h2]
theorem Eqv.par {s m:Rd} {a b:Int} (h:Eqv s m) (hab:okR m=true->a=b):Eqv { s with par:=a } { m with par:=b }:=by
 refine ⟨h.e,h.p,fun k=>?_⟩;have:=h.s k;subst this;rw [hab k]
theorem B6r (hK:∀ t∈L,J2 t) {m:Rd} {w:List UInt8} (hp:isP L E m 5 [w]=true) (l:List (List UInt8)) (hl:l.all (fun w => !F6 w)=true):B9 L E m l=R2 w 0 l:=by
 have ho:(okR m && (A7 L E m).kind == 5)=true:=by unfold Go.Pb.isP at hp;simp only [A0D] at hp ⊢;exact hp.1
 have ht:(A7 L E m).text=w:=by
  unfold Go.Pb.isP at hp;simp only [A0D,A2T,A3W,Bool.or_false,A1F] at hp;exact hp.2
 rw [B9,A0l (B5c hK m hl) ho,ht]
theorem D0f (hK:∀ t∈L,J2 t) {m:Rd} (h1:isP L E m 5 [[45],[33]]=false) (h2:isP L E m 5 [[40]]=false):B9 L E m N9<0:=by
 have:=A7m (E:=E) (B5c hK m (l:=N9) (by decide +kernel));have h3:isP L E m 5 N9=false:=by
  unfold Go.Pb.isP at h1 h2 ⊢;unfold N9;cases ho:(okR m && (A7 L E m).kind == 5) with
  | false=>rfl
  | true=>rw [ho] at h1 h2;simp only [A2T,A3W,A1G,Bool.or_false,A3M] at h1 h2 ⊢;exact ⟨h1.1,h1.2,h2⟩
 rw [h3] at this;have:=of_decide_eq_false this.symm;omega
theorem C6c {m:Rd} {a b:List UInt8} (h:isP L E m 5 [a,b]=true):isP L E m 5 [a]=true\/isP L E m 5 [b]=true:=by
 unfold Go.Pb.isP at h ⊢;simp only [A0D,A2T,A3W,Bool.or_false,A0X] at h ⊢;rcases h with ⟨h1,h2|h2⟩
 ·exact .inl ⟨h1,h2⟩
 ·exact .inr ⟨h1,h2⟩
theorem B6c {m:Rd} {k:Int} {w:List UInt8} (hp:isP L E m k [w]=true):(A7 L E m).text=w:=by
 unfold Go.Pb.isP at hp;simp only [A0D,A2T,A3W,Bool.or_false,A1F] at hp;exact hp.2
def lkI (ks:List (List UInt8)) (vs:List Int) (x:List UInt8):Int:=if R2 x 0 ks = -1 then 0 else vs.getD (R2 x 0 ks).toNat 0
def B8v (k:Int):Bool:=k == 5 || k == 6 || k == 7
def lfK (t:Tok):Int × Int × List UInt8:=if t.kind=3 then (1,t.value,[]) else if t.kind=1 then (2,0,t.text) else if t.kind=2 then (lkI G0 I7 t.text,0,[]) else (0,0,[])
def B3q (L:List Tok) (E:Int) (s:Rd):Ex × Rd :=
 let q:=lfK (A7 L E s)
 if q.1=0 then (Ex0,pfl L E s 4)
 else if 32<s.ops+1 then (Ex0,C7 L E { s with ops:=s.ops+1 } (s.ops+1) 32 9)
 else
  let s3:Rd:={ s with i:=s.i+1,ops:=s.ops+1 }
  if B8v q.1=true then (.mk q.1 0 (A9 L E s3 1).1.text [] (A7 L E s).pos,(A9 L E s3 1).2) else (.mk q.1 q.2.1 q.2.2 [] (A7 L E s).pos,s3)
theorem A0t {s:Rd} {n m e:Int} (h:¬ m<n):C7 L E s n m e=s:=by unfold C7;rw [if_neg h]
theorem A7k {s:Rd} {n m e:Int} (h:m<n) (he:e≠0):okR (C7 L E s n m e)=false:=by unfold C7;rw [if_pos h];exact Q8 he
theorem C2b {s:Rd} {b n m e:Int} (h:m<n) (ho:okR s=true):C7 L E ({ s with ops:=b }:Rd) n m e=({ s with ops:=b,e:=e,pos:=(A7 L E s).pos }:Rd):=by
 unfold C7 K5;rw [if_pos h,if_pos (show okR ({ s with ops:=b }:Rd)=true from ho)];rfl
theorem C1h {s:Rd} {e:Int} (ho:okR s=true):pfl L E s e=({ s with e:=e,pos:=(A7 L E s).pos }:Rd):=by unfold pfl K5;rw [if_pos ho]
theorem B0a (hK:∀ t∈L,J2 t) {s:Rd} (ho:okR s=true):H9 L E s=B3q L E s:=by
 have hw:=A3z (E:=E) hK s (l:=G0) (by decide +kernel);have hki:∀ k,G7 L E s k=((A7 L E s).kind == k):=fun k=>by unfold G7;rw [ho];rfl
 unfold H9 B3q lfK;dsimp only;have hok2:okR ({ s with ops:=s.ops+1 }:Rd)=true:=ho;have pos2:∀ b:Int,A7 L E ({ s with ops:=b }:Rd)=A7 L E s:=fun _=>rfl;by_cases h2:(A7 L E s).kind=2
 ·have ha:B9 L E s G0=R2 (A7 L E s).text 0 G0:=A0l hw (by rw [ho,h2];rfl) 0;rw [ha,hki,hki,h2];have hl:=A8m (A7 L E s).text G0 0;generalize (A7 L E s).text=x at *;simp only [show ((2:Int) == 3)=false from rfl,show ((2:Int) == 1)=false from rfl,show ¬ (2:Int)=3 by decide,show ¬ (2:Int)=1 by decide,if_false,if_true,and_true];unfold lkI;rcases hl with ⟨h3, -⟩|⟨h3,h4, -⟩
  ·rw [h3];rfl
  ·have h5:R2 x 0 G0<7:=by have:G0.length=7:=rfl;omega
   have h6:(0:Int)<=R2 x 0 G0:=h3;generalize R2 x 0 G0=k at *;have hv:I7.getD k.toNat 0≠0/\(B8v (I7.getD k.toNat 0)=true↔4<=k):=by
    have:k=0\/k=1\/k=2\/k=3\/k=4\/k=5\/k=6:=by omega
    rcases this with rfl|rfl|rfl|rfl|rfl|rfl|rfl<;>decide
   have g1:¬ k<0:=by omega
   have g2:¬ k = -1:=by omega
   simp only [g1,g2,h6,hv.1,false_and,if_false,if_true];by_cases ho:32<s.ops+1
   ·rw [if_pos ho,if_pos (A7k ho (by decide))]
   ·simp only [ho,if_false,A0t ho,hok2,reduceCtorEq];by_cases h4:4<=k
    ·simp only [h4,hv.2.2 h4,if_true];rfl
    ·have h7:¬ B8v (I7.getD k.toNat 0)=true:=fun h=>h4 (hv.2.1 h);simp only [h4,h7,if_false];rfl
 ·have ha:B9 L E s G0 = -1:=A9e hw (by simp [h2]) 0;rw [ha,hki,hki];by_cases h3:(A7 L E s).kind=3
  ·simp only [h3,if_true,show ((3:Int) == 3)=true from rfl,reduceCtorEq,false_and,and_false,if_false,show ¬ (0:Int) <= -1 by decide,show ¬ (1:Int)=0 by decide];by_cases ho:32<s.ops+1
   ·rw [if_pos ho,if_pos (A7k ho (by decide))]
   ·rw [if_neg ho,A0t ho,if_neg (by rw [hok2];decide)];rfl
  ·by_cases h1:(A7 L E s).kind=1
   ·simp only [h1,show ¬ (1:Int)=3 by decide,if_true,show ((1:Int) == 1)=true from rfl,reduceCtorEq,and_false,if_false,show ¬ (0:Int) <= -1 by decide,show ¬ (2:Int)=0 by decide];by_cases ho:32<s.ops+1
    ·rw [if_pos ho,if_pos (A7k ho (by decide))]
    ·rw [if_neg ho,A0t ho,if_neg (by rw [hok2];decide)];rfl
   ·have e3:((A7 L E s).kind == 3)=false:=by simpa using h3
    have e1:((A7 L E s).kind == 1)=false:=by simpa using h1
    rw [e3,e1,if_pos ⟨by decide,rfl,rfl⟩,if_neg h3,if_neg h1,if_neg h2,if_pos rfl];rfl
def A9j:List Int:=[12,13,14,15,16,17,18,19,20,21,22,23,24]
def Z9:List Int:=[2,3,4,5,6,7,8,9,10,11,12,13,14,15,16,17,18,19]
theorem C1z {ks:List (List UInt8)} {vs:List Int} {b:Int} (hv:∀ j:Nat,j<ks.length->vs.getD j 0=b+j) (x:List UInt8):(R2 x 0 ks = -1/\lkI ks vs x=0)\/(0<=R2 x 0 ks/\R2 x 0 ks<ks.length/\lkI ks vs x=b+R2 x 0 ks):=by
 unfold lkI;rcases A8m x ks 0 with ⟨h1, -⟩|⟨h1,h2, -⟩
 ·rw [h1];exact .inl ⟨rfl,rfl⟩
 ·have h3:(0:Int)<=R2 x 0 ks:=h1;have h4:=hv (R2 x 0 ks).toNat (by omega);rw [if_neg (by omega),h4];exact .inr ⟨h3,by omega,by omega⟩
theorem D0v (hK:∀ t∈L,J2 t) {s:Rd} {n:Int} (ho:okR s=true) (h1:1<=n) (h5:n<=5) :
  ((B9 L E s C3<0\/B8 (12+B9 L E s C3)≠n)↔((A7 L E s).kind≠5\/B8 (lkI C3 A9j (A7 L E s).text)≠n)) /\
  (0<=B9 L E s C3->lkI C3 A9j (A7 L E s).text=12+B9 L E s C3/\(A7 L E s).kind=5/\B9 L E s C3<13):=by
 have hs:=B5c (E:=E) hK s (l:=C3) (by decide +kernel);by_cases hk:(A7 L E s).kind=5
 ·have ha:B9 L E s C3=R2 (A7 L E s).text 0 C3:=A0l hs (by rw [ho,hk];rfl) 0;rw [ha];have h7:B8 0=7:=rfl;have hlen:C3.length=13:=rfl;rcases C1z (vs:=A9j) (b:=12) (by decide +kernel) (ks:=C3) (A7 L E s).text with ⟨h2,h3⟩|⟨h2,h3,h4⟩
  ·rw [h2,h3,h7];exact ⟨⟨fun _=>.inr (by omega),fun _=>.inl (by decide)⟩,fun h=>absurd h (by decide)⟩
  ·rw [h4];refine ⟨⟨fun h=>?_,fun h=>?_⟩,fun _=>⟨rfl,hk,by omega⟩⟩
   ·rcases h with h|h
    ·omega
    ·exact .inr h
   ·rcases h with h|h
    ·exact absurd hk h
    ·exact .inr h
 ·have ha:B9 L E s C3 = -1:=A9e hs (by simp [hk]) 0;rw [ha];exact ⟨⟨fun _=>.inl hk,fun _=>.inl (by decide)⟩,fun h=>absurd h (by decide)⟩
def A9b (L:List Tok) (E:Int) (s:Rd):Bool:=okR s && ((A7 L E s).kind == 1 || ((A7 L E s).kind == 2 && lkI B7 Z9 (A7 L E s).text != 0))
theorem B4x (hK:∀ t∈L,J2 t) {s:Rd} (ho:okR s=true) :
  (0<=B9 L E s B7->(A7 L E s).kind=2/\lkI B7 Z9 (A7 L E s).text=2+B9 L E s B7/\B9 L E s B7<18) /\
  (B9 L E s B7<0->(A7 L E s).kind=2->lkI B7 Z9 (A7 L E s).text=0):=by
 have hs:=A3z (E:=E) hK s (l:=B7) (by decide +kernel);by_cases hk:(A7 L E s).kind=2
 ·have ha:B9 L E s B7=R2 (A7 L E s).text 0 B7:=A0l hs (by rw [ho,hk];rfl) 0;rw [ha];have hlen:B7.length=18:=rfl;rcases C1z (vs:=Z9) (b:=2) (by decide +kernel) (ks:=B7) (A7 L E s).text with ⟨h2,h3⟩|⟨h2,h3,h4⟩
  ·rw [h2,h3];exact ⟨fun h=>absurd h (by decide),fun _ _=>rfl⟩
  ·exact ⟨fun _=>⟨hk,h4,by omega⟩,fun h=>absurd h (by omega)⟩
 ·have ha:B9 L E s B7 = -1:=A9e hs (by simp [hk]) 0;rw [ha];exact ⟨fun h=>absurd h (by decide),fun _ h=>absurd h hk⟩
theorem B8c (hK:∀ t∈L,J2 t) {s:Rd}:A9b L E s=true↔okR s=true/\(0<=B9 L E s B7\/G7 L E s 1=true):=by
 unfold A9b G7;cases ho:okR s with
 | false=>simp
 | true =>
  obtain ⟨h1,h2⟩:=B4x (E:=E) hK ho;simp only [A1G,A0X,A0D,A1F,bne_iff_ne,ne_eq,true_and];constructor
  ·rintro (h|⟨h,h'⟩)
   ·exact .inr h
   ·by_cases hk:0<=B9 L E s B7
    ·exact .inl hk
    ·exact absurd (h2 (by omega) h) h'
  ·rintro (h|h)
   ·obtain ⟨g1,g2, -⟩:=h1 h;exact .inr ⟨g1,by omega⟩
   ·exact .inl h
end
end Go.Pb
set_option maxHeartbeats 4000000
namespace Go.Proofs.YthlpinppaclofaaGreatDoor
open Go.Eng (IC IOper DReg IFn C2)
open Go.Sym Go.Pb
abbrev paB (L:List Tok) (E:Int) (s:Rd):Blk:=⟨0,true,[E4 L,I64 s.i,I64 E,I64 s.e,I64 s.pos,I64 s.ops,I64 s.par]⟩
theorem c_here (L:List Tok) (E:Int) (s:Rd) (H:Hp) (cc t:Nat) (ht:H t=some (paB L E s)) (htc:t<cc):AC Tryz.prog 167 [.ptr t 0] H cc (fun v H' c'=>v=(A7 L E s).v/\H'=H):=by
 refine AC.bodyT B1 rfl (A0B rfl) fun hfr=>?_;have ne0:=A2i t cc (by omega);by_cases hlt:s.i<L.length
 ·have hd:decide ((s.i:Int)<L.length)=true:=by simpa using hlt
  have hg:=A0C hlt;have e:A7 L E s=L[s.i]:=by unfold A7;rw [A0T,hg];rfl
  rw [e];generalize L[s.i]=a at hg;repeat' ((with_reducible first|refine wr ?_|refine A2 ?_ ?_|fail)<;>try simp only [go_sem,seval,ht,hd,hg,ne0,A0,A1])
  rw [D9 (v:=a.v) (rv4 rfl A0)];exact ⟨_,_,A0u hfr,rfl,rfl⟩
 ·have hd:decide ((s.i:Int)<L.length)=false:=by simpa using hlt
  have e:A7 L E s=⟨0,[],0,E⟩:=by unfold A7;rw [A0T,A1R (by omega)];rfl
  rw [e];repeat' ((with_reducible first|refine wr ?_|refine A2 ?_ ?_|fail)<;>try simp only [go_sem,seval,ht,hd,ne0,A0,A1])
  rw [D9 (v:=Tok.v ⟨0,[],0,E⟩) (rv4 rfl A0)];exact ⟨_,_,A0u hfr,rfl,rfl⟩
theorem c_pok (L:List Tok) (E:Int) (s:Rd) (H:Hp) (cc t:Nat) (ht:H t=some (paB L E s)) (htc:t<cc):AC Tryz.prog 71 [.ptr t 0] H cc (fun v H' c'=>v=.bool (okR s)/\H'=H):=by
 refine AC.bodyT B1 rfl (A0B rfl) fun hfr=>?_;repeat' ((with_reducible first|refine wr ?_|refine A2 ?_ ?_|fail)<;>try simp only [go_sem,seval,ht])
 exact ⟨_,_,GL.refl _ _,rfl,rfl⟩
theorem c_pfail (L:List Tok) (E:Int) (s:Rd) (H:Hp) (cc t:Nat) (ht:H t=some (paB L E s)) (htc:t<cc) (e:Int):AC Tryz.prog 124 [.ptr t 0,I64 e] H cc (fun v H' c'=>v=.tup []/\H'=H.upd t (paB L E (pfl L E s e))):=by
 refine AC.bodyT B1 rfl (A0B rfl) fun hfr=>?_;cases h:okR s with
 | true =>
  have e0:pfl L E s e = { s with e:=e,pos:=(A7 L E s).pos }:=by rw [pfl,K5,if_pos h]
  have h':(s.e == 0)=true:=h;rw [e0];repeat' ((with_reducible first|refine wr ?_|refine A2 ?_ ?_|fail)<;>try simp only [go_sem,seval,ht,h',h,A0,A1])
  refine AC.call (c_here L E s _ _ t ht (by omega)) ?_;rintro v H' c1 ⟨rfl,rfl⟩ hc;simp only [go_sem,seval,ht,A0,A1];repeat' ((with_reducible first|refine wr ?_|refine A2 ?_ ?_|fail)<;>try simp only [go_sem,seval,ht,A0,A1])
  exact ⟨_,_,GL.refl _ _,rfl,rfl⟩
 | false =>
  have e0:pfl L E s e=s:=X7 h;have h':(s.e == 0)=false:=h;rw [e0];repeat' ((with_reducible first|refine wr ?_|refine A2 ?_ ?_|fail)<;>try simp only [go_sem,seval,ht,h',h,A0,A1])
  exact ⟨_,_,GL.refl _ _,rfl,(upd_same ht).symm⟩
theorem c_Idx (x:List UInt8) (l:List (List UInt8)) (hl:l.length<=1000000):PC Tryz.prog 170 [U9 l,.str x] (I64 (R2 x 0 l)):=by
 refine PC.ofT B1 rfl (A0B rfl) (by simp [DV.nlL,DV.nl]) (by simp [DV.nlL,DV.nl]) ?_;repeat' ((with_reducible first|refine wr ?_|refine A2 ?_ ?_|fail)<;>try simp only [go_sem,seval])
 refine D8 (fun k:Nat=>[(0,U9 l),(1,.str x),(7,I64 l.length),(8,I64 k)]) (fun _=>Sym.nil) (fun k c=>k<=l.length/\R2 x 0 l=R2 x k (l.drop k)) (fun k=>l.length-k) 0 (by simp [C9,tm,Tm.upd]) (Sub.refl _) ⟨by omega,rfl⟩ ?_;rintro k c ⟨hk,hv⟩;by_cases hlt:k<l.length
 ·have hd:decide ((k:Int)<l.length)=true:=by simpa using hlt
  have hg:=A0C hlt;have hw:IntKind.i64.wrap ((k:Int)+1)=((k+1:Nat):Int):=by rw [w64 (by omega) (by omega)];omega
  rw [A0Z hlt,R2] at hv;generalize l[k]=a at hg hv;cases h:(x == a) with
  | true =>
   rw [if_pos h] at hv;rw [hv];repeat' ((with_reducible first|refine wr ?_|refine A2 ?_ ?_|fail)<;>try simp only [go_sem,seval,hd,hg,h])
   exact B3 rfl
  | false =>
   rw [if_neg (by simp [h])] at hv;repeat' ((with_reducible first|refine wr ?_|refine A2 ?_ ?_|fail)<;>try simp only [go_sem,seval,hd,hg,h,hw])
   exact ⟨k+1,rfl,Sub.refl _,inv ⟨hlt,hv⟩,by omega⟩
 ·have hd:decide ((k:Int)<l.length)=false:=by simpa using hlt
  have hk:k=l.length:=by omega
  rw [hk,List.drop_length,R2] at hv;rw [hv];repeat' ((with_reducible first|refine wr ?_|refine A2 ?_ ?_|fail)<;>try simp only [go_sem,seval,hd])
  exact B3 rfl
theorem c_Cont (x:List UInt8) (l:List (List UInt8)) (hl:l.length<=1000000):PC Tryz.prog 168 [U9 l,.str x] (.bool (l.contains x)):=by
 have e:decide (R2 x 0 l≥0)=l.contains x:=by
  rcases A8m x l 0 with ⟨h1,h2⟩|⟨h1,h2,h3⟩
  ·rw [h1,h2];rfl
  ·rw [h3];exact decide_eq_true (by simpa using h1)
 refine PC.ofT B1 rfl (A0B rfl) (by simp [DV.nlL,DV.nl]) (by simp [DV.nlL,DV.nl]) ?_;repeat' ((with_reducible first|refine wr ?_|refine cpc (c_Idx x l hl) ?_|refine A2 ?_ ?_|fail)<;>try simp only [go_sem,seval,e])
 exact B3 rfl
theorem c_pis (L:List Tok) (E:Int) (s:Rd) (H:Hp) (cc t:Nat) (ht:H t=some (paB L E s)) (htc:t<cc) (k:Int) (l:List (List UInt8)) (hl:l.length<=1000000):AC Tryz.prog 125 [.ptr t 0,I64 k,U9 l] H cc (fun v H' c'=>v=.bool (isP L E s k l)/\H'=H):=by
 refine AC.bodyT B1 rfl (A0B rfl) fun hfr=>?_;repeat' ((with_reducible first|refine wr ?_|refine A2 ?_ ?_|fail)<;>try simp only [go_sem,seval])
 refine AC.call (c_here L E s _ _ t ht (by omega)) ?_;rintro v H' c1 ⟨rfl,rfl⟩ hc;have ne0:=A2i t c1 (by omega);simp only [go_sem,seval,ne0,A0,A1];repeat' ((with_reducible first|refine wr ?_|refine A2 ?_ ?_|fail)<;>try simp only [go_sem,seval,ne0,A0,A1])
 refine AC.call (c_pok L E s _ _ t (by rw [A3 (by omega)];exact ht) (by omega)) ?_;rintro v H' c2 ⟨rfl,rfl⟩ hc2;simp only [go_sem,seval,ne0,A0,A1];repeat' ((with_reducible first|refine wr ?_|refine cpc (c_Cont _ l hl) ?_|refine A2 ?_ ?_|refine wb2 ?_ ?_<;>(intro hb;try simp only [hb])|fail)<;>try simp only [go_sem,seval,ne0,A0,A1])
 all_goals exact ⟨_,_,A0u (fun i hi=>hfr i (by omega)),by simp_all [isP],rfl⟩
theorem c_pisO (L:List Tok) (E:Int) (s:Rd) (K:Hp) (cc t b:Nat) (hK:K b=none) (ht:K t=some (paB L E s)) (htc:t<cc) (k:Int) (l:List (List UInt8)) (hl:l.length<=1000000) :
  AC Tryz.prog 125 [.ptr t 0,I64 k,.slc b 0 l.length] (K.upd b ⟨1,true,l.map DV.str⟩) cc (fun v H' c'=>v=.bool (isP L E s k l)/\H'=K) :=
 AC.ghost (GL.frzS (id:=b) A0 rfl (fun j=>by
  by_cases e:j=b
  ·subst e;exact .inl hK
  ·exact .inr ⟨e,(A3 e).symm⟩) (.cons _ _ _ _ (.same _) (.cons _ _ _ _ (.same _) (.cons _ _ _ _ (N7 (u:=1) (by simp) (J1 _) ⟨[],by rw [A1J,A8x]⟩) .nil)))) (c_pis L E s K cc t ht htc k l hl)
theorem c_want (L:List Tok) (E:Int) (s:Rd) (H:Hp) (cc t:Nat) (ht:H t=some (paB L E s)) (htc:t<cc) (hi:s.i<=10000000000) (k:Int) (w:List UInt8):AC Tryz.prog 171 [.ptr t 0,I64 k,.str w] H cc (fun v H' c'=>v=.tup []/\H'=H.upd t (paB L E (F8 L E s k w))):=by
 refine AC.bodyT B1 rfl (A0B rfl) fun hfr=>?_;have hio:=c_pisO L E s H (cc+1) t cc (hfr _ (A0E _)) ht (by omega) k [w] (by simp);repeat' ((with_reducible first|refine wr ?_|refine A2 ?_ ?_|fail)<;>try simp only [go_sem,seval])
 refine AC.call hio ?_;rintro v H' c1 ⟨rfl,rfl⟩ hc;cases h:isP L E s k [w] with
 | false =>
  have e0:F8 L E s k w=pfl L E s 4:=by rw [F8,if_pos h]
  rw [e0];simp only [go_sem,seval,h];repeat' ((with_reducible first|refine wr ?_|refine A2 ?_ ?_|fail)<;>try simp only [go_sem,seval,h])
  refine AC.call (c_pfail L E s _ _ t ht (by omega) 4) ?_;rintro v H' c2 ⟨rfl,rfl⟩ hc2;simp only [go_sem,seval];repeat' ((with_reducible first|refine wr ?_|refine A2 ?_ ?_|fail)<;>try simp only [go_sem,seval])
  exact ⟨_,_,GL.refl _ _,rfl,rfl⟩
 | true =>
  have hw:IntKind.i64.wrap ((s.i:Int)+1)=((s.i+1:Nat):Int):=by rw [w64 (by omega) (by omega)];omega
  have e0:F8 L E s k w=A8 s:=by rw [F8,if_neg (by simp [h])]
  rw [e0];simp only [go_sem,seval,h];repeat' ((with_reducible first|refine wr ?_|refine A2 ?_ ?_|fail)<;>try simp only [go_sem,seval,h,ht,hw,A0,A1])
  exact ⟨_,_,GL.refl _ _,rfl,rfl⟩
theorem c_ptake (L:List Tok) (E:Int) (s:Rd) (H:Hp) (cc t:Nat) (ht:H t=some (paB L E s)) (htc:t<cc) (hi:s.i<=10000000000) (k:Int):AC Tryz.prog 169 [.ptr t 0,I64 k] H cc (fun v H' c'=>v=(A9 L E s k).1.v/\H'=H.upd t (paB L E (A9 L E s k).2)):=by
 refine AC.bodyT B1 rfl (A0B rfl) fun hfr=>?_;repeat' ((with_reducible first|refine wr ?_|refine A2 ?_ ?_|fail)<;>try simp only [go_sem,seval])
 refine AC.call (c_here L E s _ _ t (by rw [A3 (by omega)];exact ht) (by omega)) ?_;rintro v H' c1 ⟨rfl,rfl⟩ hc;have ne0:=O0 t cc c1 (by omega);have hGt:((H.upd cc ⟨0,true,[I64 0,.str [],I64 0,I64 0]⟩).upd c1 (tkB (A7 L E s))) t=some (paB L E s):=by rw [A3 (by omega),A3 (by omega)];exact ht
 simp only [go_sem,seval,ne0,A0,A1];repeat' ((with_reducible first|refine wr ?_|refine A2 ?_ ?_|fail)<;>try simp only [go_sem,seval,ne0,A0,A1])
 refine AC.call (c_pok L E s _ _ t hGt (by omega)) ?_;rintro v H' c2 ⟨rfl,rfl⟩ hc2;have hks:G7 L E s k=(okR s && (A7 L E s).kind == k):=rfl;cases h1:okR s with
 | false =>
  have e0:A9 L E s k=(M6,pfl L E s 4):=by rw [A9,hks,h1];rfl
  rw [e0];simp only [go_sem,seval,ne0,h1,A0,A1];repeat' ((with_reducible first|refine wr ?_|refine A2 ?_ ?_|fail)<;>try simp only [go_sem,seval,ne0,h1,A0,A1])
  refine AC.call (c_pfail L E s _ _ t hGt (by omega) 4) ?_;rintro v H' c3 ⟨rfl,rfl⟩ hc3;simp only [go_sem,seval,ne0,A0,A1];repeat' ((with_reducible first|refine wr ?_|refine A2 ?_ ?_|fail)<;>try simp only [go_sem,seval,ne0,A0,A1])
  rw [D9 (v:=M6.v) (rv4 rfl A0)];exact ⟨_,_,I5 (C0 hfr htc) (fun j hj=>by simp [Hp.upd,show ¬j=cc by omega,show ¬j=c1 by omega]),rfl,rfl⟩
 | true =>
  cases h2:((A7 L E s).kind == k) with
  | false =>
   have h3:((A7 L E s).kind != k)=true:=by rw [bne,h2];rfl
   have e0:A9 L E s k=(M6,pfl L E s 4):=by rw [A9,hks,h1,h2];rfl
   rw [e0];simp only [go_sem,seval,ne0,h1,A0,A1];repeat' ((with_reducible first|refine wr ?_|refine A2 ?_ ?_|fail)<;>try simp only [go_sem,seval,ne0,h1,h3,A0,A1])
   refine AC.call (c_pfail L E s _ _ t hGt (by omega) 4) ?_;rintro v H' c3 ⟨rfl,rfl⟩ hc3;simp only [go_sem,seval,ne0,A0,A1];repeat' ((with_reducible first|refine wr ?_|refine A2 ?_ ?_|fail)<;>try simp only [go_sem,seval,ne0,A0,A1])
   rw [D9 (v:=M6.v) (rv4 rfl A0)];exact ⟨_,_,I5 (C0 hfr htc) (fun j hj=>by simp [Hp.upd,show ¬j=cc by omega,show ¬j=c1 by omega]),rfl,rfl⟩
  | true =>
   have h3:((A7 L E s).kind != k)=false:=by rw [bne,h2];rfl
   have hw:IntKind.i64.wrap ((s.i:Int)+1)=((s.i+1:Nat):Int):=by rw [w64 (by omega) (by omega)];omega
   have e0:A9 L E s k=(A7 L E s,A8 s):=by rw [A9,hks,h1,h2];rfl
   rw [e0];simp only [go_sem,seval,ne0,h1,A0,A1];repeat' ((with_reducible first|refine wr ?_|refine A2 ?_ ?_|fail)<;>try simp only [go_sem,seval,ne0,h1,h3,hGt,ht,hw,A0,A1])
   rw [D9 (v:=(A7 L E s).v) (rv4 rfl A0)];exact ⟨_,_,I5 (C0 hfr htc) (fun j hj=>by simp [Hp.upd,show ¬j=cc by omega,show ¬j=c1 by omega];rfl),rfl,rfl⟩
theorem c_pend (L:List Tok) (E:Int) (s:Rd) (H:Hp) (cc t:Nat) (ht:H t=some (paB L E s)) (htc:t<cc):AC Tryz.prog 70 [.ptr t 0] H cc (fun v H' c'=>v=.tup []/\H'=H.upd t (paB L E (if s.i<L.length then pfl L E s 4 else s))):=by
 refine AC.bodyT B1 rfl (A0B rfl) fun hfr=>?_;by_cases h:s.i<L.length
 ·have hd:decide ((s.i:Int)<L.length)=true:=by simpa using h
  rw [if_pos h];repeat' ((with_reducible first|refine wr ?_|refine A2 ?_ ?_|fail)<;>try simp only [go_sem,seval,ht,hd])
  refine AC.call (c_pfail L E s _ _ t ht (by omega) 4) ?_;rintro v H' c1 ⟨rfl,rfl⟩ hc;simp only [go_sem,seval];repeat' ((with_reducible first|refine wr ?_|refine A2 ?_ ?_|fail)<;>try simp only [go_sem,seval])
  exact ⟨_,_,GL.refl _ _,rfl,rfl⟩
 ·have hd:decide ((s.i:Int)<L.length)=false:=by simpa using h
  rw [if_neg h];repeat' ((with_reducible first|refine wr ?_|refine A2 ?_ ?_|fail)<;>try simp only [go_sem,seval,ht,hd])
  exact ⟨_,_,GL.refl _ _,rfl,(upd_same ht).symm⟩
theorem C5e:∀ l:List Int,DV.nlL (l.map fun k=>I64 k)=true:=fun l=>Q4 (fun _=>rfl) l
abbrev C3y (ks:List (List UInt8)) (vs:List Int):DV:=.mp .s (ks.map DV.str) (vs.map fun k=>I64 k)
theorem B4w (ks:List (List UInt8)) (vs:List Int):(C3y ks vs).nl=true:=by simp only [DV.nl,L8,C5e,A1W]
theorem B0g (x:List UInt8):∀ (l:List (List UInt8)) (k:Nat),(R2 x k l = -1/\O1 (.str x) (l.map DV.str) k=none)\/∃ j:Nat,R2 x k l=j/\O1 (.str x) (l.map DV.str) k=some j/\j<k+l.length
 | [],k=>.inl ⟨rfl,rfl⟩
 | w :: l,k=>by
  simp only [A0O,O1,A1c,R2];cases h:(x == w) with
  | true=>exact .inr ⟨k,by simp,by simp,by simp⟩
  | false =>
   simp only [A1I,if_false];rcases B0g x l (k+1) with h|⟨j,h1,h2,h3⟩
   ·exact .inl h
   ·exact .inr ⟨j,h1,h2,by simp only [A0U];omega⟩
theorem B1v (ks:List (List UInt8)) (vs:List Int) (hl:ks.length=vs.length) (x:List UInt8):lkV (I64 0) false (vs.map fun k=>I64 k) (O1 (.str x) (ks.map DV.str) 0)=some (I64 (lkI ks vs x)):=by
 unfold lkI;rcases B0g x ks 0 with ⟨h1,h2⟩|⟨j,h1,h2,h3⟩
 ·rw [h1,h2,if_pos rfl];rfl
 ·have hj:j<vs.length:=by omega
  rw [h1,h2,if_neg (by omega),B6b,A1A,A0C hj,A3C,A0T,A0C hj];rfl
theorem c_ops:PC Tryz.prog 159 [] (C3y C3 A9j):=by
 refine PC.ofT B1 rfl (A0B rfl) rfl (B4w _ _) ?_;repeat' ((with_reducible first|refine wr ?_|refine A2 ?_ ?_|fail)<;>try simp only [go_sem,seval,O1,A1c,A3U,List.nil_beq_eq,List.beq_nil_eq,List.isEmpty_cons,List.isEmpty_nil,A3E,A1G,A1W,A3F,A1])
 exact B1m A0
theorem c_stms:PC Tryz.prog 188 [] (C3y B7 Z9):=by
 refine PC.ofT B1 rfl (A0B rfl) rfl (B4w _ _) ?_;repeat' ((with_reducible first|refine wr ?_|refine A2 ?_ ?_|fail)<;>try simp only [go_sem,seval,O1,A1c,A3U,List.nil_beq_eq,List.beq_nil_eq,List.isEmpty_cons,List.isEmpty_nil,A3E,A1G,A1W,A3F,A1])
 exact B1m A0
theorem c_lvs:PC Tryz.prog 115 [] (C3y G0 I7):=by
 refine PC.ofT B1 rfl (A0B rfl) rfl (B4w _ _) ?_;repeat' ((with_reducible first|refine wr ?_|refine A2 ?_ ?_|fail)<;>try simp only [go_sem,seval,O1,A1c,A3U,List.nil_beq_eq,List.beq_nil_eq,List.isEmpty_cons,List.isEmpty_nil,A3E,A1G,A1W,A3F,A1])
 exact B1m A0
theorem c_pdecls:PC Tryz.prog 56 [] (U9 D1):=by
 refine PC.ofT B1 rfl (A0B rfl) rfl (L8 _) ?_;repeat' ((with_reducible first|refine wr ?_|refine A2 ?_ ?_|fail)<;>try simp only [go_sem,seval])
 exact J0 (xs:=D1.map DV.str) (u:=1) A0 rfl rfl (J1 _) ⟨[],rfl⟩
theorem c_ptrigs:PC Tryz.prog 58 [] (U9 D3):=by
 refine PC.ofT B1 rfl (A0B rfl) rfl (L8 _) ?_;repeat' ((with_reducible first|refine wr ?_|refine A2 ?_ ?_|fail)<;>try simp only [go_sem,seval])
 exact J0 (xs:=D3.map DV.str) (u:=1) A0 rfl rfl (J1 _) ⟨[],rfl⟩
theorem c_levP (k:Int):PC Tryz.prog 112 [I64 k] (I64 (B8 k)):=by
 refine PC.ofT B1 rfl (A0B rfl) (by simp [DV.nlL,DV.nl]) (by simp [DV.nlL,DV.nl]) ?_;repeat' ((with_reducible first|refine wr ?_|refine A2 ?_ ?_|refine wb2 ?_ ?_<;>(intro hb;try simp only [hb])|fail)<;>try simp only [go_sem,seval])
 all_goals
  refine B3 (congrArg I64 ?_);simp only [A1F,beq_eq_false_iff_ne,A0H,A2B,A0D,A0X,Bool.and_eq_false_iff,A3M] at *;unfold B8;repeat' split
  all_goals omega
theorem c_nmdP (k:Int):PC Tryz.prog 116 [I64 k] (.bool (B8v k)):=by
 refine PC.ofT B1 rfl (A0B rfl) (by simp [DV.nlL,DV.nl]) (by simp [DV.nlL,DV.nl]) ?_;repeat' ((with_reducible first|refine wr ?_|refine A2 ?_ ?_|refine wb2 ?_ ?_<;>(intro hb;try simp only [hb])|fail)<;>try simp only [go_sem,seval])
 all_goals exact B3 (by simp_all [B8v])
theorem c_deeper (L:List Tok) (E:Int) (s:Rd) (H:Hp) (cc t:Nat) (ht:H t=some (paB L E s)) (htc:t<cc) (hi:s.i<=10000000000) (h0:0<=s.par) (h1:s.par<=16):AC Tryz.prog 197 [.ptr t 0] H cc (fun v H' c'=>v=.bool (!(s.par == 16))/\H'=H.upd t (paB L E (if s.par=16 then pfl L E s 50 else { s with i:=s.i+1,par:=s.par+1 }))):=by
 refine AC.bodyT B1 rfl (A0B rfl) fun hfr=>?_;by_cases h:s.par=16
 ·have hd:(s.par == 16)=true:=by simpa using h
  rw [if_pos h,hd];repeat' ((with_reducible first|refine wr ?_|refine A2 ?_ ?_|fail)<;>try simp only [go_sem,seval,ht,hd])
  refine AC.call (c_pfail L E s _ _ t ht (by omega) 50) ?_;rintro v H' c1 ⟨rfl,rfl⟩ hc;simp only [go_sem,seval];repeat' ((with_reducible first|refine wr ?_|refine A2 ?_ ?_|fail)<;>try simp only [go_sem,seval])
  exact ⟨_,_,GL.refl _ _,rfl,rfl⟩
 ·have hd:(s.par == 16)=false:=by simpa using h
  have hw:IntKind.i64.wrap ((s.i:Int)+1)=((s.i+1:Nat):Int):=by rw [w64 (by omega) (by omega)];omega
  have hw2:IntKind.i64.wrap (s.par+1)=s.par+1:=w64 (by omega) (by omega);rw [if_neg h,hd];repeat' ((with_reducible first|refine wr ?_|refine A2 ?_ ?_|fail)<;>try simp only [go_sem,seval,ht,hd,hw,hw2,A0,A1])
  exact ⟨_,_,GL.refl _ _,rfl,rfl⟩
structure PaE (L:List Tok) (s:Rd) (q:Ex × Rd) (x:Ex) (s':Rd):Prop where
 eq:Eqv s' q.2
 vl:okR q.2=true->x=q.1
 bd:PI L s'
 pr:s'.par=s.par
abbrev PeC (L:List Tok) (E:Int) (f:Nat) (vs:List DV) (s:Rd) (q:Ex × Rd):Prop :=
 ∀ (H:Hp) (cc t:Nat),H t=some (paB L E s)->t<cc->AC Tryz.prog f (.ptr t 0 :: vs) H cc (fun v H' c' => ∃ x s',v=x.v/\H'=H.upd t (paB L E s')/\PaE L s q x s')
abbrev D1v (k v:Int) (n:List UInt8) (p:Int):Blk:=⟨0,true,[I64 k,I64 v,.str n,.snil,I64 p]⟩
theorem c_pleaf (L:List Tok) (E:Int) (hL:L.length<=1000000000) (hK:∀ t∈L,J2 t) (s m:Rd) (hq:Eqv s m) (hP:PI L s) (hp:isP L E s 5 [[40]]=false):PeC L E 196 [] s (H9 L E m):=by
 intro H cc t ht htc;have hri:=hP.i;have hro:=hP.o0;have hro1:=hP.o1;refine AC.bodyT B1 rfl (A0B rfl) fun hfr=>?_;have hio:=c_pisO L E s (H.upd cc A4k) (cc+2) t (cc+1) (by rw [A3 (by omega)];exact hfr _ (by omega)) (by rw [A3 (by omega)];exact ht) (by omega) 5 [[40]] (by simp);repeat' ((with_reducible first|refine wr ?_|refine A2 ?_ ?_|fail)<;>try simp only [go_sem,seval])
 refine AC.call hio ?_;rintro v H' c1 ⟨rfl,rfl⟩ hc1;simp only [go_sem,seval,hp];repeat' ((with_reducible first|refine wr ?_|refine A2 ?_ ?_|fail)<;>try simp only [go_sem,seval,hp])
 refine AC.call (c_here L E s _ _ t (by rw [A3 (by omega)];exact ht) (by omega)) ?_;rintro v H' c2 ⟨rfl,rfl⟩ hc2;have ne0:=V4 t cc c2 (c2+1) (by omega);have tail:∀ (kd vl:Int) (nm:List UInt8) (c3:Nat),c2+2<=c3->(kd,vl,nm)=lfK (A7 L E s)->IW Tryz.prog 96 (pz Tryz.prog 196 (.o (.o (.i (.i (.o .h)))))) ⟨tm [(0,.ptr t 0),(2,.ptr cc 0),(5,.ptr (c2+1) 0)],((H.upd cc A4k).upd c2 (tkB (A7 L E s))).upd (c2+1) (D1v kd vl nm (A7 L E s).pos),c3⟩ (rt [.cell 2 5 true] fun v H' c' => ∃ v2 H2,GL H' [v] H2 [v2]/\∃ x s',v2=x.v/\H2=H.upd t (paB L E s')/\PaE L s (H9 L E m) x s'):=by
  intro kd vl nm c3 hc3 hlf;have hGt:(((H.upd cc A4k).upd c2 (tkB (A7 L E s))).upd (c2+1) (D1v kd vl nm (A7 L E s).pos)) t=some (paB L E s):=by rw [A3 (by omega),A3 (by omega),A3 (by omega)];exact ht
  have hbad:∀ (e:Int) (c4:Nat),PaE L s (H9 L E m) Ex0 (pfl L E s e)->GL (((((H.upd cc A4k).upd c2 (tkB (A7 L E s))).upd (c2+1) (D1v kd vl nm (A7 L E s).pos)).upd t (paB L E (pfl L E s e))).upd cc A4k) [.agg [I64 0,I64 0,.str [],.snil,I64 0]] (H.upd t (paB L E (pfl L E s e))) [.agg [I64 0,I64 0,.str [],.lst [],I64 0]]:=fun e c4 _ =>
   A2a (cc:=cc) (C0 hfr htc) (fun j hj=>by simp [Hp.upd,show ¬j=cc by omega,show ¬j=c2 by omega,show ¬j=c2+1 by omega])
  by_cases hk0:kd=0
  ·have hd:(kd == 0)=true:=by simpa using hk0
   have hr:PaE L s (H9 L E m) Ex0 (pfl L E s 4):=by
    rcases hq.cas with ⟨rfl,ho⟩|⟨h1,h2⟩
    ·rw [B0a hK ho];unfold B3q;dsimp only;rw [<- hlf,if_pos hk0];exact ⟨.refl _,fun _=>rfl,hP.fl,A8c.2.2⟩
    ·rw [A8b h2,X7 h1];exact ⟨hq,fun h=>(by simp [h2] at h),hP,rfl⟩
   repeat' ((with_reducible first|refine wr ?_|refine A2 ?_ ?_|fail)<;>try simp only [go_sem,seval,hd,ne0,A0,A1])
   refine AC.call (c_pfail L E s _ _ t hGt (by omega) 4) ?_;rintro v H' c4 ⟨rfl,rfl⟩ hc4;simp only [go_sem,seval,ne0,A0,A1];repeat' ((with_reducible first|refine wr ?_|refine A2 ?_ ?_|fail)<;>try simp only [go_sem,seval,ne0,A0,A1])
   rw [D9 (rv5 rfl A0)];exact ⟨_,_,hbad 4 c4 hr,Ex0,_,rfl,rfl,hr⟩
  have hd:(kd == 0)=false:=by simpa using hk0
  repeat' ((with_reducible first|refine wr ?_|refine A2 ?_ ?_|fail)<;>try simp only [go_sem,seval,hd,ne0,A0,A1])
  refine AC.call (c_pok L E s _ _ t hGt (by omega)) ?_;rintro v H' c4 ⟨rfl,rfl⟩ hc4;cases ho:okR s with
  | false =>
   have hm:okR m=false:=by rw [<- hq.ok,ho]
   have hr:PaE L s (H9 L E m) Ex0 (pfl L E s 4):=by
    rw [A8b hm,X7 ho];exact ⟨hq,fun h=>(by simp [hm] at h),hP,rfl⟩
   simp only [go_sem,seval,ho];repeat' ((with_reducible first|refine wr ?_|refine A2 ?_ ?_|fail)<;>try simp only [go_sem,seval,ho,ne0,A0,A1])
   refine AC.call (c_pfail L E s _ _ t hGt (by omega) 4) ?_;rintro v H' c5 ⟨rfl,rfl⟩ hc5;simp only [go_sem,seval,ne0,A0,A1];repeat' ((with_reducible first|refine wr ?_|refine A2 ?_ ?_|fail)<;>try simp only [go_sem,seval,ne0,A0,A1])
   rw [D9 (rv5 rfl A0)];exact ⟨_,_,hbad 4 c4 hr,Ex0,_,rfl,rfl,hr⟩
  | true =>
   obtain rfl:s=m:=hq.s (by rw [<- hq.ok,ho]);have hpr:H9 L E s=B3q L E s:=B0a hK ho;unfold B3q at hpr;dsimp only at hpr;rw [<- hlf] at hpr;dsimp only at hpr;rw [if_neg hk0] at hpr;by_cases h32:s.ops=32
   ·have hd2:(s.ops == 32)=true:=by simpa using h32
    rw [if_pos (by omega)] at hpr;have hr:PaE L s (H9 L E s) Ex0 (pfl L E s 9):=by
     rw [hpr];refine ⟨.bad ?_ ?_ (A7k (by omega) (by decide)),fun _=>rfl,hP.fl,A8c.2.2⟩
     ·dsimp only;rw [C2b (by omega) ho,C1h ho]
     ·dsimp only;rw [C2b (by omega) ho,C1h ho]
    simp only [go_sem,seval,ho];repeat' ((with_reducible first|refine wr ?_|refine A2 ?_ ?_|fail)<;>try simp only [go_sem,seval,ho,hd2,hGt,ne0,A0,A1])
    refine AC.call (c_pfail L E s _ _ t hGt (by omega) 9) ?_;rintro v H' c5 ⟨rfl,rfl⟩ hc5;simp only [go_sem,seval,ne0,A0,A1];repeat' ((with_reducible first|refine wr ?_|refine A2 ?_ ?_|fail)<;>try simp only [go_sem,seval,ne0,A0,A1])
    rw [D9 (rv5 rfl A0)];exact ⟨_,_,hbad 9 c4 hr,Ex0,_,rfl,rfl,hr⟩
   ·have hd2:(s.ops == 32)=false:=by simpa using h32
    have hlt:s.i<L.length:=by
     have hk:(A7 L E s).kind≠0:=fun h=>by
      rw [lfK,if_neg (by omega),if_neg (by omega),if_neg (by omega)] at hlf;exact hk0 (congrArg (·.1) hlf)
     exact (I0 hk rfl).2
    have hw1:IntKind.i64.wrap (s.ops+1)=s.ops+1:=w64 (by omega) (by omega);have hw2:IntKind.i64.wrap ((s.i:Int)+1)=((s.i+1:Nat):Int):=by rw [w64 (by omega) (by omega)];omega
    rw [if_neg (by omega)] at hpr;have hP3:PI L ({ s with i:=s.i+1,ops:=s.ops+1 }:Rd):=⟨hlt,by show 0<=s.ops+1;omega,by show s.ops+1<=32;omega,hP.p0,hP.p1⟩;have hcn:=c_nmdP kd;cases hn:B8v kd with
    | true =>
     rw [hn] at hcn;simp only [go_sem,seval,ho];repeat' ((with_reducible first|refine wr ?_|refine cpc hcn ?_|refine A2 ?_ ?_|fail)<;>try simp only [go_sem,seval,ho,hd2,hGt,hw1,hw2,ne0,A0,A1])
     rw [if_pos hn] at hpr;obtain ⟨g1,g2⟩:=hP3.take (E:=E) (x:=1) (by decide);have hnm:vl=0/\nm=[]:=by
      unfold lfK at hlf;split at hlf
      ·cases hlf;cases hn
      ·split at hlf
       ·cases hlf;cases hn
       ·split at hlf<;>cases hlf<;>exact ⟨rfl,rfl⟩
     obtain ⟨rfl,rfl⟩:=hnm;refine AC.call (c_ptake L E { s with i:=s.i+1,ops:=s.ops+1 } _ _ t A0 (by omega) (by show s.i+1<=10000000000;omega) 1) ?_;rintro v H' c5 ⟨rfl,rfl⟩ hc5;simp only [go_sem,seval,ne0,A0,A1];repeat' ((with_reducible first|refine wr ?_|refine A2 ?_ ?_|fail)<;>try simp only [go_sem,seval,ne0,A0,A1])
     rw [D9 (rv5 rfl A0)];refine ⟨_,_,A2a (cc:=cc) (K:=H.upd t (paB L E (A9 L E ({ s with i:=s.i+1,ops:=s.ops+1 }:Rd) 1).2)) (C0 hfr htc) (fun j hj=>?_),.mk kd 0 (A9 L E ({ s with i:=s.i+1,ops:=s.ops+1 }:Rd) 1).1.text [] (A7 L E s).pos,_,rfl,rfl,?_⟩
     ·simp [Hp.upd,show ¬j=cc by omega,show ¬j=c2 by omega,show ¬j=c2+1 by omega];try (split<;>rfl)
     ·rw [hpr];exact ⟨.refl _,fun _=>rfl,g1,g2⟩
    | false =>
     rw [if_neg (by simp [hn])] at hpr;rw [hn] at hcn;simp only [go_sem,seval,ho];repeat' ((with_reducible first|refine wr ?_|refine cpc hcn ?_|refine A2 ?_ ?_|fail)<;>try simp only [go_sem,seval,ho,hd2,hGt,hw1,hw2,ne0,A0,A1])
     rw [D9 (rv5 rfl A0)];refine ⟨_,_,A2a (cc:=cc) (K:=H.upd t (paB L E ({ s with i:=s.i+1,ops:=s.ops+1 }:Rd))) (C0 hfr htc) (fun j hj=>?_),.mk kd vl nm [] (A7 L E s).pos,_,rfl,rfl,?_⟩
     ·simp [Hp.upd,show ¬j=cc by omega,show ¬j=c2 by omega,show ¬j=c2+1 by omega];try (split<;>rfl)
     ·rw [hpr];exact ⟨.refl _,fun _=>rfl,hP3,rfl⟩
 have hlk:=B1v G0 I7 rfl (A7 L E s).text;by_cases h3:(A7 L E s).kind=3
 ·have e3:((A7 L E s).kind == 3)=true:=by simpa using h3
  simp only [go_sem,seval,ne0,A0,A1];repeat' ((with_reducible first|refine F9 (p:=IW _ _ (pz Tryz.prog 196 (.o (.o (.i (.i (.o .h)))))) _ _) ?_|refine wr ?_|refine A2 ?_ ?_|fail)<;>try simp only [go_sem,seval,e3,ne0,A0,A1])
  and_intros
  all_goals try ((repeat rw [A3 (by omega)]);exact hfr _ (by omega))
  repeat' ((with_reducible first|refine F9 (p:=IW _ _ (pz Tryz.prog 196 (.o (.o (.i (.i (.o .h)))))) _ _) ?_|refine wr ?_|refine A2 ?_ ?_|fail)<;>try simp only [go_sem,seval,e3,ne0,A0,A1])
  exact IW.stage (by simp [C9,tm,Tm.upd]) (tail 1 (A7 L E s).value [] _ (by omega) (by rw [lfK,if_pos h3]))
 have e3:((A7 L E s).kind == 3)=false:=by simpa using h3
 by_cases h1:(A7 L E s).kind=1
 ·have e1:((A7 L E s).kind == 1)=true:=by simpa using h1
  simp only [go_sem,seval,ne0,A0,A1];repeat' ((with_reducible first|refine F9 (p:=IW _ _ (pz Tryz.prog 196 (.o (.o (.i (.i (.o .h)))))) _ _) ?_|refine wr ?_|refine A2 ?_ ?_|fail)<;>try simp only [go_sem,seval,e3,e1,ne0,A0,A1])
  and_intros
  all_goals try ((repeat rw [A3 (by omega)]);exact hfr _ (by omega))
  repeat' ((with_reducible first|refine F9 (p:=IW _ _ (pz Tryz.prog 196 (.o (.o (.i (.i (.o .h)))))) _ _) ?_|refine wr ?_|refine A2 ?_ ?_|fail)<;>try simp only [go_sem,seval,e3,e1,ne0,A0,A1])
  exact IW.stage (by simp [C9,tm,Tm.upd]) (tail 2 0 (A7 L E s).text _ (by omega) (by rw [lfK,if_neg h3,if_pos h1]))
 have e1:((A7 L E s).kind == 1)=false:=by simpa using h1
 by_cases h2:(A7 L E s).kind=2
 ·have e2:((A7 L E s).kind == 2)=true:=by simpa using h2
  simp only [go_sem,seval,ne0,A0,A1];repeat' ((with_reducible first|refine F9 (p:=IW _ _ (pz Tryz.prog 196 (.o (.o (.i (.i (.o .h)))))) _ _) ?_|refine wr ?_|refine cpc c_lvs ?_|refine A2 ?_ ?_|fail)<;>try simp only [go_sem,seval,e3,e1,e2,hlk,ne0,A0,A1])
  and_intros
  all_goals try ((repeat rw [A3 (by omega)]);exact hfr _ (by omega))
  repeat' ((with_reducible first|refine F9 (p:=IW _ _ (pz Tryz.prog 196 (.o (.o (.i (.i (.o .h)))))) _ _) ?_|refine wr ?_|refine cpc c_lvs ?_|refine A2 ?_ ?_|fail)<;>try simp only [go_sem,seval,e3,e1,e2,hlk,ne0,A0,A1])
  exact IW.stage (by simp [C9,tm,Tm.upd]) (tail (lkI G0 I7 (A7 L E s).text) 0 [] _ (by omega) (by rw [lfK,if_neg h3,if_neg h1,if_pos h2]))
 have e2:((A7 L E s).kind == 2)=false:=by simpa using h2
 simp only [go_sem,seval,ne0,A0,A1];repeat' ((with_reducible first|refine F9 (p:=IW _ _ (pz Tryz.prog 196 (.o (.o (.i (.i (.o .h)))))) _ _) ?_|refine wr ?_|refine A2 ?_ ?_|fail)<;>try simp only [go_sem,seval,e3,e1,e2,ne0,A0,A1])
 exact IW.stage (by simp [C9,tm,Tm.upd]) (tail 0 0 [] _ (by omega) (by rw [lfK,if_neg h3,if_neg h1,if_neg h2]))
theorem D4w {G:Hp} {k t:Nat} {b:Blk} (h:¬ t=k):Q6 (G.upd k b) [k] t=G t:=by
 simp only [Q6];rw [if_neg (by simpa using h),A3 h]
theorem mgP {X:Hp} {k t:Nat} {B:Blk} (h:¬ t=k):I9 [k] X ((Q6 X [k]).upd t B)=X.upd t B:=by
 funext j
 simp only [I9];by_cases e:j=k
 ·subst e;rw [if_pos (by simp),A3 (fun e=>h e.symm)]
 ·rw [if_neg (by simpa using e)];by_cases e2:j=t
  ·subst e2;rw [A0,A0]
  ·rw [A3 e2,A3 e2];simp only [Q6];rw [if_neg (by simpa using e)]
theorem c_pprim (L:List Tok) (E:Int) (hL:L.length<=1000000000) (hK:∀ t∈L,J2 t) (f:Nat)
  (ib:∀ n s m r,1<=n->n<=6->Eqv s m->F5 L E f n m=some r->PI L s->PeC L E 123 [I64 n] s r)
  (s m:Rd) (r:Ex × Rd) (hq:Eqv s m) (h:K8 L E (f+1) m=some r) (hP:PI L s) (hp0:isP L E s 5 [[45],[33]]=false):PeC L E 196 [] s r:=by
 unfold K8 at h;dsimp only at h;cases hp:isP L E s 5 [[40]] with
 | false =>
  rw [if_pos (D0f hK (by rw [<- hq.isP];exact hp0) (by rw [<- hq.isP];exact hp))] at h;cases h;exact c_pleaf L E hL hK s m hq hP hp
 | true =>
  obtain ⟨ho,hlt, -⟩:=T7 (by decide) hp;obtain rfl:s=m:=hq.s (by rw [<- hq.ok,ho]);have hk:B9 L E s N9=2:=B6r hK hp N9 (by decide +kernel);rw [hk,if_neg (by decide)] at h;have hri:=hP.i;have hp0':=hP.p0;have hp1:=hP.p1;intro H cc t ht htc;refine AC.bodyT B1 rfl (A0B rfl) fun hfr=>?_;have hio:=c_pisO L E s (H.upd cc A4k) (cc+2) t (cc+1) (by rw [A3 (by omega)];exact hfr _ (by omega)) (by rw [A3 (by omega)];exact ht) (by omega) 5 [[40]] (by simp);repeat' ((with_reducible first|refine wr ?_|refine A2 ?_ ?_|fail)<;>try simp only [go_sem,seval])
  refine AC.call hio ?_;rintro v H' c1 ⟨rfl,rfl⟩ hc1;simp only [go_sem,seval,hp];repeat' ((with_reducible first|refine wr ?_|refine A2 ?_ ?_|fail)<;>try simp only [go_sem,seval,hp])
  refine AC.call (c_deeper L E s _ _ t (by rw [A3 (by omega)];exact ht) (by omega) (by omega) hp0' hp1) ?_;rintro v H' c2 ⟨rfl,rfl⟩ hc2;have ne0:=O0 t cc c2 (by omega);by_cases h16:s.par=16
  ·have hd:(s.par == 16)=true:=by simpa using h16
   have hl:C7 L E s (s.par+1) 16 50=pfl L E s 50:=by rw [X9,if_pos (by omega)]
   rw [hl,if_pos (by unfold pfl;exact Q8 (by decide))] at h;cases h;rw [if_pos h16];simp only [go_sem,seval,hd,ne0,A0,A1];repeat' ((with_reducible first|refine wr ?_|refine A2 ?_ ?_|fail)<;>try simp only [go_sem,seval,hd,ne0,A0,A1])
   rw [D9 (rv5 rfl A0)];refine ⟨_,_,A2a (cc:=cc) (K:=H.upd t (paB L E (pfl L E s 50))) (C0 hfr htc) (fun j hj=>by simp [Hp.upd,show ¬j=cc by omega]),Ex0,_,rfl,rfl,.refl _,fun _=>rfl,hP.fl,A8c.2.2⟩
  ·have hd:(s.par == 16)=false:=by simpa using h16
   rw [A0t (by omega),if_neg (by rw [ho];decide),if_pos rfl] at h;rw [if_neg h16];have hP2:PI L ({ s with i:=s.i+1,par:=s.par+1 }:Rd):=⟨hlt,hP.o0,hP.o1,by show 0<=s.par+1;omega,by show s.par+1<=16;omega⟩;cases hb:F5 L E f 1 { s with i:=s.i+1,par:=s.par+1 } with
   | none=>rw [hb] at h;cases h
   | some q =>
    obtain ⟨e,m3⟩:=q;rw [hb] at h;dsimp only at h;cases h;simp only [go_sem,seval,hd,ne0,A0,A1];repeat' ((with_reducible first|refine wr ?_|refine A2 ?_ ?_|fail)<;>try simp only [go_sem,seval,hd,ne0,A0,A1])
    refine AC.call (ib 1 _ _ _ (by decide) (by decide) (.refl _) hb hP2 _ _ t A0 (by omega)) ?_;rintro v H' c3 ⟨x,s3,rfl,rfl,hx⟩ hc3;have hi3:=hx.bd.i;have ne0:=O0 t cc c3 (by omega);simp only [go_sem,seval,ne0,A0,A1,Ex.v_w];repeat' ((with_reducible first|refine wr ?_|refine A2 ?_ ?_|fail)<;>try simp only [go_sem,seval,ne0,A0,A1])
    refine AC.call (c_want L E s3 _ _ t (by repeat (first|exact A0|rw [A3 (by omega)])) (by omega) (by omega) 5 [41]) ?_;rintro v H' c4 ⟨rfl,rfl⟩ hc4;obtain ⟨w1,w2⟩:=hx.bd.want (E:=E) (k:=5) (w:=[41]) (by decide);have hpr3:=hx.pr;dsimp only at hpr3;have hw5:IntKind.i64.wrap ((F8 L E s3 5 [41]).par-1)=(F8 L E s3 5 [41]).par-1:=w64 (by omega) (by omega);have heq:=hx.eq.want (L:=L) (E:=E) (k:=5) (w:=[41]) (fun s=>G5 hK (by decide +kernel));have hres:PaE L s (e, { D6 L E m3 [41] with par:=(D6 L E m3 [41]).par-1 }) x ({ F8 L E s3 5 [41] with par:=(F8 L E s3 5 [41]).par-1 }:Rd):=by
     refine ⟨heq.par (fun k=>by rw [heq.s k]),fun k=>?_,⟨w1.i,w1.o0,w1.o1,by show 0<=(F8 L E s3 5 [41]).par-1;omega,by show (F8 L E s3 5 [41]).par-1<=16;omega⟩,by show (F8 L E s3 5 [41]).par-1=s.par;omega⟩;have k2:okR (D6 L E m3 [41])=true:=k;exact hx.vl (Z3 (A6d k2).1).1
    generalize F8 L E s3 5 [41]=s4 at *;simp only [go_sem,seval,ne0,A0,A1];repeat' ((with_reducible first|refine wr ?_|refine A2 ?_ ?_|fail)<;>try simp only [go_sem,seval,hw5,ne0,A0,A1])
    rw [D9 (rv5 rfl A0)];refine ⟨_,_,I5 (cc:=cc) (K:=H.upd t (paB L E { s4 with par:=s4.par-1 })) (C0 hfr htc) (fun j hj=>?_),x,_,rfl,rfl,hres⟩;simp [Hp.upd,show ¬j=cc by omega,show ¬j=c3 by omega];try (split<;>rfl)
theorem c_punary (L:List Tok) (E:Int) (hL:L.length<=1000000000) (hK:∀ t∈L,J2 t) (f:Nat)
  (ib:∀ n s m r,1<=n->n<=6->Eqv s m->F5 L E f n m=some r->PI L s->PeC L E 123 [I64 n] s r)
  (iu:∀ s m r,Eqv s m->K8 L E f m=some r->PI L s->PeC L E 166 [] s r)
  (s m:Rd) (r:Ex × Rd) (hq:Eqv s m) (h:K8 L E (f+1) m=some r) (hP:PI L s):PeC L E 166 [] s r:=by
 intro H cc t ht htc;have hri:=hP.i;have hp0':=hP.p0;have hp1:=hP.p1;refine AC.bodyT B1 rfl (A0B rfl) fun hfr=>?_;repeat' ((with_reducible first|refine wr ?_|refine A2 ?_ ?_|fail)<;>try simp only [go_sem,seval])
 refine AC.call (c_here L E s _ _ t (by rw [A3 (by omega)];exact ht) (by omega)) ?_;rintro v H' c1 ⟨rfl,rfl⟩ hc;have ne0:=V4 t cc c1 (c1+1) (by omega);have hio:=c_pisO L E s ((H.upd cc A4k).upd c1 (tkB (A7 L E s))) (c1+1+1) t (c1+1) (by rw [A3 (by omega),A3 (by omega)];exact hfr _ (by omega)) (by rw [A3 (by omega),A3 (by omega)];exact ht) (by omega) 5 [[45],[33]] (by simp);simp only [go_sem,seval,ne0,A0,A1];repeat' ((with_reducible first|refine wr ?_|refine A2 ?_ ?_|fail)<;>try simp only [go_sem,seval,ne0,A0,A1])
 refine AC.call hio ?_;rintro v H' c2 ⟨rfl,rfl⟩ hc2;have hGt:((H.upd cc A4k).upd c1 (tkB (A7 L E s))) t=some (paB L E s):=by rw [A3 (by omega),A3 (by omega)];exact ht
 cases hp:isP L E s 5 [[45],[33]] with
 | false =>
  simp only [go_sem,seval,hp];repeat' ((with_reducible first|refine wr ?_|refine A2 ?_ ?_|fail)<;>try simp only [go_sem,seval,hp])
  refine AC.call (c_pprim L E hL hK f ib s m r hq h hP hp _ _ t hGt (by omega)) ?_;rintro v H' c3 ⟨x,s3,rfl,rfl,hx⟩ hc3;simp only [go_sem,seval,ne0,A0,A1,Ex.v_w];repeat' ((with_reducible first|refine wr ?_|refine A2 ?_ ?_|fail)<;>try simp only [go_sem,seval,ne0,A0,A1])
  rw [D9 (rv5 rfl A0)];refine ⟨_,_,I5 (cc:=cc) (K:=H.upd t (paB L E s3)) (C0 hfr htc) (fun j hj=>?_),x,s3,rfl,rfl,hx⟩;simp [Hp.upd,show ¬j=cc by omega,show ¬j=c1 by omega]
 | true =>
  obtain ⟨ho,hlt, -⟩:=T7 (by decide) hp;obtain rfl:s=m:=hq.s (by rw [<- hq.ok,ho]);obtain ⟨b,hb33,hk⟩:∃ b:Bool,((A7 L E s).text == [33])=b/\B9 L E s N9=if b=true then 1 else 0:=by
   rcases C6c hp with h1|h1
   ·exact ⟨false,by rw [B6c h1];rfl,B6r hK h1 N9 (by decide +kernel)⟩
   ·exact ⟨true,by rw [B6c h1];rfl,B6r hK h1 N9 (by decide +kernel)⟩
  unfold K8 at h;dsimp only at h;rw [hk,if_neg (by cases b<;>decide)] at h;simp only [go_sem,seval,hp];repeat' ((with_reducible first|refine wr ?_|refine A2 ?_ ?_|fail)<;>try simp only [go_sem,seval,hp])
  refine AC.call (c_deeper L E s _ _ t hGt (by omega) (by omega) hp0' hp1) ?_;rintro v H' c3 ⟨rfl,rfl⟩ hc3;by_cases h16:s.par=16
  ·have hd:(s.par == 16)=true:=by simpa using h16
   have hl:C7 L E s (s.par+1) 16 50=pfl L E s 50:=by rw [X9,if_pos (by omega)]
   rw [hl,if_pos (by unfold pfl;exact Q8 (by decide))] at h;cases h;rw [if_pos h16];simp only [go_sem,seval,hd,ne0,A0,A1];repeat' ((with_reducible first|refine wr ?_|refine A2 ?_ ?_|fail)<;>try simp only [go_sem,seval,hd,ne0,A0,A1])
   rw [D9 (rv5 rfl A0)];refine ⟨_,_,A2a (cc:=cc) (K:=H.upd t (paB L E (pfl L E s 50))) (C0 hfr htc) (fun j hj=>by simp [Hp.upd,show ¬j=cc by omega,show ¬j=c1 by omega]),Ex0,_,rfl,rfl,.refl _,fun _=>rfl,hP.fl,A8c.2.2⟩
  have hd:(s.par == 16)=false:=by simpa using h16
  rw [A0t (by omega),if_neg (by rw [ho];decide),if_neg (by cases b<;>decide)] at h;rw [if_neg h16];have hP2:PI L ({ s with i:=s.i+1,par:=s.par+1 }:Rd):=⟨hlt,hP.o0,hP.o1,by show 0<=s.par+1;omega,by show s.par+1<=16;omega⟩;cases hu:K8 L E f { s with i:=s.i+1,par:=s.par+1 } with
  | none=>rw [hu] at h;cases h
  | some q =>
   obtain ⟨e,m3⟩:=q;rw [hu] at h;dsimp only at h;cases h;have ne0:=P0 t cc c1 (c3+2) (c3+6) (by omega);simp only [go_sem,seval,hd,ne0,A0,A1];repeat' ((with_reducible first|refine wr ?_|refine A2 ?_ ?_|fail)<;>try simp only [go_sem,seval,hd,ne0,A0,A1])
   refine AC.call (iu _ _ _ (.refl _) hu hP2 _ _ t (by rw [D4w (by omega)];exact A0) (by omega)) ?_;rintro v H' c4 ⟨x,s3,rfl,rfl,hx⟩ hc4;have hi3:=hx.bd.i;have hpr3:=hx.pr;have hb3:=hx.bd;have hxe:=hx.eq;have hxv:=hx.vl;dsimp only at hpr3 hxe hxv;have hw5:IntKind.i64.wrap (s3.par-1)=s3.par-1:=w64 (by omega) (by omega);have hres:PaE L s (.mk (10+if b=true then 1 else 0) 0 [] [e] (A7 L E s).pos, { m3 with par:=m3.par-1 }) (.mk (if b=true then 11 else 10) 0 [] [x] (A7 L E s).pos) ({ s3 with par:=s3.par-1 }:Rd):=by
    refine ⟨hxe.par (fun k=>by rw [hxe.s k]),fun k=>?_,⟨hb3.i,hb3.o0,hb3.o1,by show 0<=s3.par-1;omega,by show s3.par-1<=16;omega⟩,by show s3.par-1=s.par;omega⟩;have k2:okR m3=true:=k;rw [hxv k2];cases b<;>rfl
   have hmg:∀ (X:Hp) (B:Blk),I9 [c3+6] X ((Q6 X [c3+6]).upd t B)=X.upd t B:=fun X B=>mgP (by omega);cases b with
   | true =>
    simp only [go_sem,seval,ne0,A0,A1,hmg,Ex.v_w];repeat' ((with_reducible first|refine wr ?_|refine A2 ?_ ?_|fail)<;>try simp only [go_sem,seval,ne0,A0,A1,hb33])
    and_intros
    all_goals try ((repeat rw [A3 (by omega)]);exact hfr _ (by omega))
    repeat' ((with_reducible first|refine wr ?_|refine A2 ?_ ?_|fail)<;>try simp only [go_sem,seval,hw5,ne0,A0,A1,hb33])
    rw [D9 (rv5 rfl A0)];refine ⟨_,_,B3x (cc:=cc) (b:=c3+2) (K:=H.upd t (paB L E { s3 with par:=s3.par-1 })) [x] (C0 hfr htc) (by omega) ?_ (fun j hj=>?_),.mk 11 0 [] [x] (A7 L E s).pos,_,rfl,rfl,hres⟩
    ·rw [V2];dsimp only
     repeat (first|exact A0|rw [A3 (by omega)])
    simp [Hp.upd,show ¬j=cc by omega,show ¬j=c1 by omega,show ¬j=c3+2 by omega,show ¬j=c3+6 by omega];try (split<;>rfl)
   | false =>
    simp only [go_sem,seval,ne0,A0,A1,hmg,Ex.v_w];repeat' ((with_reducible first|refine wr ?_|refine A2 ?_ ?_|fail)<;>try simp only [go_sem,seval,ne0,A0,A1,hb33])
    and_intros
    all_goals try ((repeat rw [A3 (by omega)]);exact hfr _ (by omega))
    repeat' ((with_reducible first|refine wr ?_|refine A2 ?_ ?_|fail)<;>try simp only [go_sem,seval,hw5,ne0,A0,A1,hb33])
    rw [D9 (rv5 rfl A0)];refine ⟨_,_,B3x (cc:=cc) (b:=c3+2) (K:=H.upd t (paB L E { s3 with par:=s3.par-1 })) [x] (C0 hfr htc) (by omega) ?_ (fun j hj=>?_),.mk 10 0 [] [x] (A7 L E s).pos,_,rfl,rfl,hres⟩
    ·rw [V2];dsimp only
     repeat (first|exact A0|rw [A3 (by omega)])
    simp [Hp.upd,show ¬j=cc by omega,show ¬j=c1 by omega,show ¬j=c3+2 by omega,show ¬j=c3+6 by omega];try (split<;>rfl)
theorem c_plevel (L:List Tok) (E:Int) (hL:L.length<=1000000000) (hK:∀ t∈L,J2 t) (f:Nat)
  (ib:∀ g,g<=f->∀ n s m r,1<=n->n<=6->Eqv s m->F5 L E g n m=some r->PI L s->PeC L E 123 [I64 n] s r)
  (iu:∀ s m r,Eqv s m->K8 L E f m=some r->PI L s->PeC L E 166 [] s r)
  (n:Int) (s m:Rd) (r:Ex × Rd) (hn1:1<=n) (hn6:n<=6) (hq:Eqv s m) (h:F5 L E (f+1) n m=some r) (hP:PI L s):PeC L E 123 [I64 n] s r:=by
 intro H cc t ht htc;refine AC.bodyT B1 rfl (A0B rfl) fun hfr=>?_;unfold F5 at h;have ne0:=A2i t cc (by omega);by_cases h5:5<n
 ·rw [if_pos h5] at h;have hd:(n == 6)=true:=by simp;omega
  repeat' ((with_reducible first|refine wr ?_|refine A2 ?_ ?_|fail)<;>try simp only [go_sem,seval,hd])
  refine AC.call (iu _ _ _ hq h hP _ _ t (by rw [A3 (by omega)];exact ht) (by omega)) ?_;rintro v H' c1 ⟨x,s1,rfl,rfl,hx⟩ hc1;simp only [go_sem,seval,ne0,A0,A1,Ex.v_w];repeat' ((with_reducible first|refine wr ?_|refine A2 ?_ ?_|fail)<;>try simp only [go_sem,seval,ne0,A0,A1])
  rw [D9 (rv5 rfl A0)];refine ⟨_,_,I5 (cc:=cc) (K:=H.upd t (paB L E s1)) (C0 hfr htc) (fun j hj=>?_),x,s1,rfl,rfl,hx⟩;simp [Hp.upd,show ¬j=cc by omega]
 rw [if_neg h5] at h;have hd:(n == 6)=false:=by simp;omega
 have hw:IntKind.i64.wrap (n+1)=n+1:=w64 (by omega) (by omega);cases hb:F5 L E f (n+1) m with
 | none=>rw [hb] at h;cases h
 | some q =>
  obtain ⟨e,m1⟩:=q;rw [hb] at h;dsimp only at h;repeat' ((with_reducible first|refine wr ?_|refine A2 ?_ ?_|fail)<;>try simp only [go_sem,seval,hd,hw])
  refine AC.call (ib f (A0E _) (n+1) _ _ _ (by omega) (by omega) hq hb hP _ _ t (by rw [A3 (by omega)];exact ht) (by omega)) ?_;rintro v H' c1 ⟨x,s1,rfl,rfl,hx⟩ hc1;have hx1:=hx.eq;have hx2:=hx.vl;have hx3:=hx.bd;have hx4:=hx.pr;dsimp only at hx1 hx2;have ne0:=O0 t cc c1 (by omega);simp only [go_sem,seval,ne0,A0,A1,Ex.v_w];repeat' ((with_reducible first|refine wr ?_|refine A2 ?_ ?_|fail)<;>try simp only [go_sem,seval,ne0,A0,A1])
  refine A1v (fun _:Nat × Ex × Rd × Ex × Rd=>[(0,.ptr t 0),(1,I64 n),(4,.ptr cc 0),(5,.ptr c1 0)]) (fun q=>((H.upd cc A4k).upd t (paB L E q.2.2.2.2)).upd c1 (exB q.2.2.2.1))
   (fun q c=>c1+1<=c/\q.1<=f/\K2 L E q.1 n q.2.1 q.2.2.1=some r/\Eqv q.2.2.2.2 q.2.2.1/\(okR q.2.2.1=true->q.2.2.2.1=q.2.1)/\PI L q.2.2.2.2/\q.2.2.2.2.par=s.par) (fun q=>q.1) (f,e,m1,x,s1) (fun b=>by simp [C9,tm,Tm.upd]) (by simp [C9,tm,Tm.upd]) (Sub.refl _) ⟨A0E _,A0E _,h,hx1,hx2,hx3,hx4⟩ ?_
  clear h hb hx hx1 hx2 hx3 hx4 s1 e m1 x;rintro ⟨g,e,m1,x,s1⟩ c ⟨hc,hg,hv,k1,k2,k3,k4⟩;dsimp only at hc hg hv k1 k2 k3 k4 ⊢;have hri:=k3.i;cases g with
  | zero=>simp [K2] at hv
  | succ g =>
  have hTt:∀ b:Blk,(((H.upd cc A4k).upd t (paB L E s1)).upd c1 b) t=some (paB L E s1):=fun b=>by rw [A3 (by omega),A0]
  repeat' ((with_reducible first|refine wr ?_|refine A2 ?_ ?_|fail)<;>try simp only [go_sem,seval])
  refine AC.call (c_pok L E s1 _ _ t (hTt _) (by omega)) ?_;rintro v H' c2 ⟨rfl,rfl⟩ hc2;cases ho:okR s1 with
  | false =>
   have hm:okR m1=false:=by rw [<- k1.ok,ho]
   obtain rfl:=(EN.all (g+1)).2.1 _ _ _ _ hv hm;simp only [go_sem,seval,ho];repeat' ((with_reducible first|refine wr ?_|refine A2 ?_ ?_|fail)<;>try simp only [go_sem,seval,ho,ne0,A0,A1])
   rw [D9 (rv5 rfl A0)];refine ⟨_,_,I5 (cc:=cc) (K:=H.upd t (paB L E s1)) (C0 hfr htc) (fun j hj=>?_),x,s1,rfl,rfl,k1,fun k=>(by simp [hm] at k),k3,k4⟩;simp [Hp.upd,show ¬j=cc by omega,show ¬j=c1 by omega]
  | true =>
  obtain rfl:s1=m1:=k1.s (by rw [<- k1.ok,ho]);obtain rfl:=k2 ho;unfold K2 at hv;dsimp only at hv;obtain ⟨hl1,hl2⟩:=D0v (E:=E) hK ho hn1 (by omega:n<=5);have hnn:0<=B9 L E s1 C3->s1.i<L.length:=fun h=>(H8 h).2.1;have hlk:=B1v C3 A9j rfl (A7 L E s1).text;simp only [go_sem,seval,ho];repeat' ((with_reducible first|refine wr ?_|refine A2 ?_ ?_|fail)<;>try simp only [go_sem,seval,ho,ne0,A0,A1])
  refine AC.call (c_here L E s1 _ _ t (hTt _) (by omega)) ?_;rintro v H' c3 ⟨rfl,rfl⟩ hc3;have ne0:=P0 t cc c1 c3 (c3+12) (by omega);by_cases hstop:B9 L E s1 C3<0\/B8 (12+B9 L E s1 C3)≠n
  ·rw [if_pos hstop] at hv;cases hv;have hs2:=hl1.1 hstop;by_cases hk5:(A7 L E s1).kind=5
   ·have e5:((A7 L E s1).kind != 5)=false:=by simpa using hk5
    have el:(B8 (lkI C3 A9j (A7 L E s1).text) != n)=true:=by
     rcases hs2 with h|h
     ·exact absurd hk5 h
     ·simpa using h
    simp only [go_sem,seval,ne0,A0,A1];repeat' ((with_reducible first|refine wr ?_|refine cpc c_ops ?_|refine cpc (c_levP _) ?_|refine A2 ?_ ?_|fail)<;>try simp only [go_sem,seval,e5,el,hlk,ne0,A0,A1])
    and_intros
    all_goals try ((repeat rw [A3 (by omega)]);exact hfr _ (by omega))
    repeat' ((with_reducible first|refine wr ?_|refine cpc c_ops ?_|refine cpc (c_levP _) ?_|refine A2 ?_ ?_|fail)<;>try simp only [go_sem,seval,e5,el,hlk,ne0,A0,A1])
    rw [D9 (rv5 rfl A0)];refine ⟨_,_,I5 (cc:=cc) (K:=H.upd t (paB L E s1)) (C0 hfr htc) (fun j hj=>?_),_,s1,rfl,rfl,.refl _,fun _=>rfl,k3,k4⟩;simp [Hp.upd,show ¬j=cc by omega,show ¬j=c1 by omega,show ¬j=c3 by omega]
   ·have e5:((A7 L E s1).kind != 5)=true:=by simpa using hk5
    simp only [go_sem,seval,ne0,A0,A1];repeat' ((with_reducible first|refine wr ?_|refine cpc c_ops ?_|refine cpc (c_levP _) ?_|refine A2 ?_ ?_|fail)<;>try simp only [go_sem,seval,e5,hlk,ne0,A0,A1])
    and_intros
    all_goals try ((repeat rw [A3 (by omega)]);exact hfr _ (by omega))
    repeat' ((with_reducible first|refine wr ?_|refine cpc c_ops ?_|refine cpc (c_levP _) ?_|refine A2 ?_ ?_|fail)<;>try simp only [go_sem,seval,e5,hlk,ne0,A0,A1])
    rw [D9 (rv5 rfl A0)];refine ⟨_,_,I5 (cc:=cc) (K:=H.upd t (paB L E s1)) (C0 hfr htc) (fun j hj=>?_),_,s1,rfl,rfl,.refl _,fun _=>rfl,k3,k4⟩;simp [Hp.upd,show ¬j=cc by omega,show ¬j=c1 by omega,show ¬j=c3 by omega]
  rw [if_neg hstop] at hv;have hk0:0<=B9 L E s1 C3:=by omega
  have hlt:=hnn hk0;obtain ⟨hl3,hk5,hl4⟩:=hl2 hk0;have e5:((A7 L E s1).kind != 5)=false:=by simpa using hk5
  have el:(B8 (lkI C3 A9j (A7 L E s1).text) != n)=false:=by
   rw [hl3];simp;omega
  have hP2:=k3.nxt hlt;have hwi:IntKind.i64.wrap ((s1.i:Int)+1)=((s1.i+1:Nat):Int):=by rw [w64 (by omega) (by omega)];omega
  cases hb:F5 L E g (n+1) (A8 s1) with
  | none=>rw [hb] at hv;cases hv
  | some q =>
   obtain ⟨e2,m2⟩:=q;rw [hb] at hv;dsimp only at hv;rw [<- hl3] at hv;simp only [go_sem,seval,ne0,A0,A1];repeat' ((with_reducible first|refine wr ?_|refine cpc c_ops ?_|refine cpc (c_levP _) ?_|refine A2 ?_ ?_|fail)<;>try simp only [go_sem,seval,e5,el,hlk,hwi,hw,ne0,A0,A1])
   and_intros
   all_goals try ((repeat rw [A3 (by omega)]);exact hfr _ (by omega))
   repeat' ((with_reducible first|refine wr ?_|refine cpc c_ops ?_|refine cpc (c_levP _) ?_|refine A2 ?_ ?_|fail)<;>try simp only [go_sem,seval,e5,el,hlk,hwi,hw,ne0,A0,A1])
   refine AC.call (ib g (by omega) (n+1) (A8 s1) (A8 s1) _ (by omega) (by omega) (.refl _) hb hP2 _ _ t (by repeat (first|exact A0|rw [A3 (by omega)])) (by omega)) ?_;rintro v H' c4 ⟨y,s2,rfl,rfl,hy⟩ hc4;have y1:=hy.eq;have y2:=hy.vl;have y3:=hy.bd;have y4:=hy.pr;dsimp only at y1 y2;generalize lkI C3 A9j (A7 L E s1).text=kd at *;simp only [go_sem,seval,ne0,A0,A1,Ex.v_w];repeat' ((with_reducible first|refine wr ?_|refine A2 ?_ ?_|fail)<;>try simp only [go_sem,seval,ne0,A0,A1])
   and_intros
   all_goals try ((repeat rw [A3 (by omega)]);exact hfr _ (by omega))
   by_cases h3:n=3
   ·have hd3:(n == 3)=true:=by simpa using h3
    rw [if_pos h3] at hv;cases hv;repeat' ((with_reducible first|refine wr ?_|refine A2 ?_ ?_|fail)<;>try simp only [go_sem,seval,hd3,ne0,A0,A1])
    rw [D9 (rv5 rfl A0)];refine ⟨_,_,B3x (cc:=cc) (b:=c3+12) (K:=H.upd t (paB L E s2)) [x,y] (C0 hfr htc) (by omega) ?_ (fun j hj=>?_),.mk kd 0 [] [x,y] (A7 L E s1).pos,s2,rfl,rfl,y1,fun k=>(by rw [y2 k]),y3,y4.trans k4⟩
    ·rw [B0o];dsimp only
     repeat (first|exact A0|rw [A3 (by omega)])
    simp [Hp.upd,show ¬j=cc by omega,show ¬j=c1 by omega,show ¬j=c3 by omega,show ¬j=c3+12 by omega];try (split<;>rfl)
   ·have hd3:(n == 3)=false:=by simpa using h3
    rw [if_neg h3] at hv;repeat' ((with_reducible first|refine wr ?_|refine A2 ?_ ?_|fail)<;>try simp only [go_sem,seval,hd3,ne0,A0,A1])
    refine ⟨(g,.mk kd 0 [] [x,e2] (A7 L E s1).pos,m2,.mk kd 0 [] [x,y] (A7 L E s1).pos,s2),?_,inv ⟨by omega,by simp only;omega,hv,y1,fun k=>(by simp only [y2 k]),y3,y4.trans k4⟩,by simp only;omega⟩;refine GL.frzT (id:=c3+12) (b:=⟨5,true,A4 ([x,y].map Ex.v)⟩) ?_ rfl (fun j=>?_) (FzL.refl _)
    ·rw [B0o]
     repeat (first|exact A0|rw [A3 (by omega)])
    by_cases j1:j=c1
    ·subst j1;refine .inr ⟨by omega,.inr ⟨_,_,A0,A0,rfl,rfl,.cons _ _ _ _ (.same _) (.cons _ _ _ _ (.same _) (.cons _ _ _ _ (.same _) (.cons _ _ _ _ (N7 (u:=5) (xs:=[x,y].map Ex.v) (by simp) (W0 _) ⟨[],by simp⟩) (.cons _ _ _ _ (.same _) .nil)))),by simp [DV.one]⟩⟩
    ·by_cases j2:j=c3+12
     ·subst j2;left
      repeat rw [A3 (by omega)]
      exact hfr _ (by omega)
     ·by_cases j3:j=c3
      ·subst j3;left
       repeat rw [A3 (by omega)]
       exact hfr _ (by omega)
      refine .inr ⟨j2,.inl ?_⟩;simp [Hp.upd,j1,j2,j3];try (split<;>rfl)
theorem c_plu (L:List Tok) (E:Int) (hL:L.length<=1000000000) (hK:∀ t∈L,J2 t):∀ f:Nat,(∀ n s m r,1<=n->n<=6->Eqv s m->F5 L E f n m=some r->PI L s->PeC L E 123 [I64 n] s r)/\(∀ s m r,Eqv s m->K8 L E f m=some r->PI L s->PeC L E 166 [] s r):=by
 intro f
 induction f using Nat.strongRecOn with
 | _ f ih =>
  cases f with
  | zero=>exact ⟨fun n s m r _ _ _ h=>by simp [F5] at h,fun s m r _ h=>by simp [K8] at h⟩
  | succ f =>
   exact ⟨fun n s m r h1 h2 hq h hP=>c_plevel L E hL hK f (fun g hg=>(ih g (by omega)).1) (ih f (by omega)).2 n s m r h1 h2 hq h hP,
    fun s m r hq h hP=>c_punary L E hL hK f (ih f (by omega)).1 (ih f (by omega)).2 s m r hq h hP⟩
theorem c_pexpr (L:List Tok) (E:Int) (hL:L.length<=1000000000) (hK:∀ t∈L,J2 t) (f:Nat) (s m:Rd) (r:Ex × Rd) (hq:Eqv s m) (h:H4 L E f m=some r) (hi:s.i<=L.length) :
  ∀ (H:Hp) (cc t:Nat),H t=some (paB L E s)->t<cc->AC Tryz.prog 69 [.ptr t 0] H cc (fun v H' c' => ∃ x s',v=x.v/\H'=H.upd t (paB L E s')/\Eqv s' r.2/\(okR r.2=true->x=r.1)/\PI L s'):=by
 intro H cc t ht htc;refine AC.bodyT B1 rfl (A0B rfl) fun hfr=>?_;have ne0:=A2i t cc (by omega);repeat' ((with_reducible first|refine wr ?_|refine A2 ?_ ?_|fail)<;>try simp only [go_sem,seval,ht,ne0,A0,A1])
 refine AC.call ((c_plu L E hL hK f).1 1 { s with ops:=0,par:=0 } { m with ops:=0,par:=0 } r (by decide) (by decide) ⟨hq.e,hq.p,fun k=>by rw [hq.s k]⟩ h ⟨hi,A2X 0,(by decide:(0:Int)<=32),A2X 0,(by decide:(0:Int)<=16)⟩ _ _ t (by exact A0) (by omega)) ?_;rintro v H' c1 ⟨x,s1,rfl,rfl,hx⟩ hc1;simp only [go_sem,seval,ne0,A0,A1,Ex.v_w];repeat' ((with_reducible first|refine wr ?_|refine A2 ?_ ?_|fail)<;>try simp only [go_sem,seval,ne0,A0,A1])
 rw [D9 (rv5 rfl A0)];refine ⟨_,_,I5 (cc:=cc) (K:=H.upd t (paB L E s1)) (C0 hfr htc) (fun j hj=>?_),x,s1,rfl,rfl,hx.eq,hx.vl,hx.bd⟩;simp [Hp.upd,show ¬j=cc by omega];try (split<;>rfl)
end Go.Proofs.YthlpinppaclofaaGreatDoor
set_option maxHeartbeats 8000000
namespace Go.Proofs.YthlpinppaclofaaGreatDoor
open Go.Eng (IC IOper DReg IFn C2)
open Go.Sym Go.Pb
theorem c_begins (L:List Tok) (E:Int) (s:Rd) (H:Hp) (cc t:Nat) (ht:H t=some (paB L E s)) (htc:t<cc):AC Tryz.prog 210 [.ptr t 0] H cc (fun v H' c'=>v=.bool (A9b L E s)/\H'=H):=by
 refine AC.bodyT B1 rfl (A0B rfl) fun hfr=>?_;repeat' ((with_reducible first|refine wr ?_|refine A2 ?_ ?_|fail)<;>try simp only [go_sem,seval])
 refine AC.call (c_here L E s _ _ t ht (by omega)) ?_;rintro v H' c1 ⟨rfl,rfl⟩ hc;have ne0:=A2i t c1 (by omega);have hlk:=B1v B7 Z9 rfl (A7 L E s).text;simp only [go_sem,seval,ne0,A0,A1];repeat' ((with_reducible first|refine wr ?_|refine A2 ?_ ?_|fail)<;>try simp only [go_sem,seval,ne0,A0,A1])
 refine AC.call (c_pok L E s _ _ t (by rw [A3 (by omega)];exact ht) (by omega)) ?_;rintro v H' c2 ⟨rfl,rfl⟩ hc2;unfold A9b;cases ho:okR s with
 | false =>
  simp only [go_sem,seval,ne0,A0,A1,ho];repeat' ((with_reducible first|refine wr ?_|refine A2 ?_ ?_|fail)<;>try simp only [go_sem,seval,ne0,A0,A1,ho])
  and_intros
  all_goals try ((repeat rw [A3 (by omega)]);exact hfr _ (by omega))
  repeat' ((with_reducible first|refine wr ?_|refine A2 ?_ ?_|fail)<;>try simp only [go_sem,seval,ne0,A0,A1,ho])
  exact ⟨_,_,A0u (fun i hi=>hfr i (by omega)),by simp [*],rfl⟩
 | true =>
  by_cases h1:(A7 L E s).kind=1
  ·have e1:((A7 L E s).kind == 1)=true:=by simpa using h1
   simp only [go_sem,seval,ne0,A0,A1,ho,e1];repeat' ((with_reducible first|refine wr ?_|refine A2 ?_ ?_|fail)<;>try simp only [go_sem,seval,ne0,A0,A1,ho,e1])
   and_intros
   all_goals try ((repeat rw [A3 (by omega)]);exact hfr _ (by omega))
   repeat' ((with_reducible first|refine wr ?_|refine A2 ?_ ?_|fail)<;>try simp only [go_sem,seval,ne0,A0,A1,ho])
   exact ⟨_,_,A0u (fun i hi=>hfr i (by omega)),by simp [*],rfl⟩
  have e1:((A7 L E s).kind == 1)=false:=by simpa using h1
  by_cases h2:(A7 L E s).kind=2
  ·have e2:((A7 L E s).kind == 2)=true:=by simpa using h2
   simp only [go_sem,seval,ne0,A0,A1,ho,e1,e2,hlk];repeat' ((with_reducible first|refine wr ?_|refine cpc c_stms ?_|refine A2 ?_ ?_|fail)<;>try simp only [go_sem,seval,ne0,A0,A1,ho,e1,e2,hlk])
   and_intros
   all_goals try ((repeat rw [A3 (by omega)]);exact hfr _ (by omega))
   repeat' ((with_reducible first|refine wr ?_|refine A2 ?_ ?_|fail)<;>try simp only [go_sem,seval,ne0,A0,A1,ho])
   exact ⟨_,_,A0u (fun i hi=>hfr i (by omega)),by simp [*],rfl⟩
  have e2:((A7 L E s).kind == 2)=false:=by simpa using h2
  simp only [go_sem,seval,ne0,A0,A1,ho,e1,e2];repeat' ((with_reducible first|refine wr ?_|refine A2 ?_ ?_|fail)<;>try simp only [go_sem,seval,ne0,A0,A1,ho,e1,e2])
  and_intros
  all_goals try ((repeat rw [A3 (by omega)]);exact hfr _ (by omega))
  repeat' ((with_reducible first|refine wr ?_|refine A2 ?_ ?_|fail)<;>try simp only [go_sem,seval,ne0,A0,A1,ho])
  exact ⟨_,_,A0u (fun i hi=>hfr i (by omega)),by simp [*],rfl⟩
abbrev PsC (L:List Tok) (E:Int) (f:Nat) (vs:List DV) (s:Rd) (q:Pb.St × Rd):Prop :=
 ∀ (H:Hp) (cc t:Nat),H t=some (paB L E s)->t<cc->AC Tryz.prog f (.ptr t 0 :: vs) H cc (fun v H' c' => ∃ x s',v=Pb.St.v x/\H'=H.upd t (paB L E s')/\Eqv s' q.2/\(okR q.2=true->x=q.1)/\PI L s')
abbrev PlC (L:List Tok) (E:Int) (f:Nat) (vs:List DV) (s:Rd) (q:List Pb.St × Rd):Prop :=
 ∀ (H:Hp) (cc t:Nat),H t=some (paB L E s)->t<cc->AC Tryz.prog f (.ptr t 0 :: vs) H cc (fun v H' c' => ∃ x s',v=F1 x/\H'=H.upd t (paB L E s')/\Eqv s' q.2/\(okR q.2=true->x=q.1)/\PI L s')
def B4c (L:List Tok) (E:Int) (f:Nat) (d:Int) (m:Rd):Option (List Pb.St × Rd):=if isR L E m [101,108,115,101]=true then N4 L E f d (A8 m) else some ([],m)
theorem A6r {L:List Tok} {E:Int} {m:Rd} {w:List UInt8} (k:okR (D6 L E m w)=true):okR m=true:=(Z3 (A6d k).1).1
theorem D1u {L:List Tok} {E:Int} {f:Nat} {m:Rd} {q:Ex × Rd} (h:H4 L E f m=some q) (k:okR q.2=true):okR m=true:=by
 cases ho:okR m with
 | true=>rfl
 | false=>obtain rfl:=C2t h ho;have:okR m=true:=k;rw [ho] at this;cases this
theorem C7z {L:List Tok} {E:Int} {f:Nat} {d:Int} {m:Rd} {q:List Pb.St × Rd} (h:G4 L E f d m=some q) (k:okR q.2=true):okR m=true:=by
 cases ho:okR m with
 | true=>rfl
 | false=>obtain rfl:=C7a h ho;exact absurd k (by simp [ho])
theorem D5y {L:List Tok} {E:Int} {f:Nat} {d:Int} {m:Rd} {q:List Pb.St × Rd} (h:B4c L E f d m=some q) (k:okR q.2=true):okR m=true:=by
 unfold B4c at h;split at h
 ·rename_i hi;exact (Z3 hi).1
 ·cases h;exact k
theorem c_pstmt (L:List Tok) (E:Int) (hL:L.length<=1000000000) (hK:∀ t∈L,J2 t) (f:Nat)
  (ib:∀ d s m r,0<=d->d<=9->Eqv s m->G4 L E f d m=some r->PI L s->PlC L E 198 [I64 d] s r)
  (io:∀ d s m r,0<=d->d<=8->Eqv s m->B4c L E f d m=some r->PI L s->PlC L E 222 [I64 (d+1)] s r)
  (d:Int) (s:Rd) (r:Pb.St × Rd) (hd0:0<=d) (hd:d<=8) (hbg:A9b L E s=true) (h:J6 L E (f+1) d s=some r) (hP:PI L s):PsC L E 211 [I64 d] s r:=by
 intro H cc t ht htc;obtain ⟨ho,hbk⟩:=(B8c hK).1 hbg;obtain ⟨hs1,hs2⟩:=B4x (E:=E) hK ho;have hri:=hP.i;unfold J6 at h;dsimp only at h;rw [A0t (by omega:¬ (8:Int)<d),if_neg (by rw [ho];decide)] at h;have hlt:s.i<L.length:=by
  rcases hbk with hk|hk
  ·exact (H8 hk).2.1
  ·exact (I0 (by decide) (I2 hk).2).2
 have hw1:IntKind.i64.wrap ((s.i:Int)+1)=((s.i+1:Nat):Int):=by rw [w64 (by omega) (by omega)];omega
 have hwd:IntKind.i64.wrap (d+1)=d+1:=w64 (by omega) (by omega);have hPn:=hP.nxt hlt;have hqn:=Eqv.refl (A8 s);refine AC.bodyT B1 rfl (A0B rfl) fun hfr=>?_;repeat' ((with_reducible first|refine wr ?_|refine A2 ?_ ?_|fail)<;>try simp only [go_sem,seval])
 refine AC.call (c_here L E s _ _ t (by rw [A3 (by omega)];exact ht) (by omega)) ?_;rintro v H' c1 ⟨rfl,rfl⟩ hc1;have ne0:=V4 t cc c1 (c1+1) (by omega);by_cases hk1:(A7 L E s).kind=1
 ·have e1:((A7 L E s).kind == 1)=true:=by simpa using hk1
  have hkk:G7 L E s 1=true:=by unfold G7;rw [ho,hk1];rfl
  have htk:A9 L E s 1=(A7 L E s,A8 s):=by unfold A9;rw [hkk,if_neg (by decide)]
  have hk:B9 L E s B7<0:=by
   by_cases hk:B9 L E s B7<0
   ·exact hk
   ·have:=(hs1 (by omega)).1;omega
  rw [if_pos hk,htk] at h;dsimp only at h;cases hz2:H4 L E f (D6 L E (A8 s) [61]) with
  | none=>rw [hz2] at h;cases h
  | some qhz2 =>
   obtain ⟨e,m2⟩:=qhz2;rw [hz2] at h;dsimp only at h;cases h;simp only [go_sem,seval,ne0,A0,A1];repeat' ((with_reducible first|refine wr ?_|refine A2 ?_ ?_|fail)<;>try simp only [go_sem,seval,e1,ht,hw1,ne0,A0,A1])
   refine AC.call (c_want L E (A8 s) _ _ t (by repeat (first|exact A0|rw [A3 (by omega)]|rw [D5 (by omega)])) (by omega) (by have:=hPn.i;omega) 5 [61]) ?_;rintro v H' c3 ⟨rfl,rfl⟩ hc3;have qc3:=hqn.want (L:=L) (E:=E) (k:=5) (w:=[61]) (fun s=>G5 hK (by decide +kernel));have bc3:=(hPn.want (E:=E) (k:=5) (w:=[61]) (by decide)).1;simp only [go_sem,seval,ne0,A0,A1];repeat' ((with_reducible first|refine wr ?_|refine A2 ?_ ?_|fail)<;>try simp only [go_sem,seval,ne0,A0,A1])
   refine AC.call (c_pexpr L E hL hK f (F8 L E (A8 s) 5 [61]) (D6 L E (A8 s) [61]) (e,m2) qc3 hz2 bc3.i _ _ t (by repeat (first|exact A0|rw [A3 (by omega)]|rw [D5 (by omega)])) (by omega)) ?_;rintro v H' c4 ⟨xc4,sc4,rfl,rfl,qc4,uc4,bc4⟩ hc4;dsimp only at qc4 uc4;have ne0:=P0 t cc c1 (c1+1) c4 (by omega);simp only [go_sem,seval,Ex.v_w,ne0,A0,A1];repeat' ((with_reducible first|refine wr ?_|refine A2 ?_ ?_|fail)<;>try simp only [go_sem,seval,ne0,A0,A1])
   refine AC.call (c_want L E sc4 _ _ t (by repeat (first|exact A0|rw [A3 (by omega)]|rw [D5 (by omega)])) (by omega) (by have:=bc4.i;omega) 5 [59]) ?_;rintro v H' c5 ⟨rfl,rfl⟩ hc5;have qc5:=qc4.want (L:=L) (E:=E) (k:=5) (w:=[59]) (fun s=>G5 hK (by decide +kernel));have bc5:=(bc4.want (E:=E) (k:=5) (w:=[59]) (by decide)).1;simp only [go_sem,seval,ne0,A0,A1];repeat' ((with_reducible first|refine wr ?_|refine A2 ?_ ?_|fail)<;>try simp only [go_sem,seval,ne0,A0,A1])
   rw [D9 (rv7 rfl A0)];refine ⟨_,_,R3 (cc:=cc) (K:=H.upd t (paB L E (F8 L E sc4 5 [59]))) (i:=c4) [xc4] (.inr ⟨rfl,rfl⟩) (.inr ⟨rfl,rfl⟩) (C0 hfr htc) (by omega) ?_ (fun j hj=>?_),.mk 1 (A7 L E s).text [] [xc4] [] [] (A7 L E s).pos,(F8 L E sc4 5 [59]),by rw [Pb.St.v_w];rfl,rfl,qc5,fun k=>?_,bc5⟩
   ·rw [V2];dsimp only
    repeat (first|exact A0|rw [A3 (by omega)]|rw [D5 (by omega)])
   ·simp [Hp.upd,Hp.del,show ¬j=cc by omega,show ¬j=c1 by omega,show ¬j=c1+1 by omega,show ¬j=c4 by omega];try (split<;>rfl)
   ·rw [uc4 (A6r k)]
 have e1:((A7 L E s).kind == 1)=false:=by simpa using hk1
 have hk0:0<=B9 L E s B7:=by
  rcases hbk with hk|hk
  ·exact hk
  ·exact absurd (I2 hk).2 hk1
 obtain ⟨hk2,hlv,hk18⟩:=hs1 hk0;have hlk:=B1v B7 Z9 rfl (A7 L E s).text;rw [if_neg (by omega)] at h;generalize B9 L E s B7=k at h hlv hk0 hk18;rw [hlv] at hlk;clear hlv hs1 hs2 hbk;simp only [go_sem,seval,ne0,A0,A1];repeat' ((with_reducible first|refine wr ?_|refine cpc c_stms ?_|refine A2 ?_ ?_|fail)<;>try simp only [go_sem,seval,e1,ht,hw1,hlk,ne0,A0,A1])
 and_intros
 all_goals try ((repeat rw [A3 (by omega)]);exact hfr _ (by omega))
 by_cases k0:k=0
 ·rw [if_pos (.inl k0)] at h;cases hz6:H4 L E f (A8 s) with
  | none=>rw [hz6] at h;cases h
  | some qhz6 =>
   obtain ⟨e,m2⟩:=qhz6;rw [hz6] at h;dsimp only at h;cases hz7:G4 L E f (d+1) m2 with
   | none=>rw [hz7] at h;cases h
   | some qhz7 =>
    obtain ⟨tt,m3⟩:=qhz7;rw [hz7] at h;dsimp only at h;have h':(match B4c L E f d m3 with|none=>none|some (o,s4)=>some (Pb.St.mk 2 [] [] [e] tt o (A7 L E s).pos,s4))=some r:=by
     unfold B4c;cases hi:isR L E m3 [101,108,115,101] with
     | true=>rw [if_pos ⟨k0,hi⟩] at h;rw [if_pos rfl];exact h
     | false=>rw [if_neg (by simp [hi])] at h;rw [if_neg (by decide), <- h];subst k0;rfl
    clear h;have h:=h';clear h';cases hz8:B4c L E f d m3 with
    | none=>rw [hz8] at h;cases h
    | some qhz8 =>
     obtain ⟨oo,m4⟩:=qhz8;rw [hz8] at h;dsimp only at h;cases h;have f2:(2+k == 2)=true:=by simp;omega
     have f3:(2+k == 3)=false:=by simp;omega
     have f4:(2+k == 4)=false:=by simp;omega
     have f8:(2+k == 8)=false:=by simp;omega
     have f10:(2+k == 10)=false:=by simp;omega
     have f9:(2+k == 9)=false:=by simp;omega
     have f18:(2+k == 18)=false:=by simp;omega
     have f19:(2+k == 19)=false:=by simp;omega
     repeat' ((with_reducible first|refine wr ?_|refine A2 ?_ ?_|fail)<;>try simp only [go_sem,seval,f2,f3,f4,f8,f10,f9,f18,f19,hwd,ne0,A0,A1])
     refine AC.call (c_pexpr L E hL hK f (A8 s) (A8 s) (e,m2) hqn hz6 hPn.i _ _ t (by repeat (first|exact A0|rw [A3 (by omega)]|rw [D5 (by omega)])) (by omega)) ?_;rintro v H' c9 ⟨xc9,sc9,rfl,rfl,qc9,uc9,bc9⟩ hc9;dsimp only at qc9 uc9;have ne0:=P0 t cc c1 (c1+1) c9 (by omega);simp only [go_sem,seval,Ex.v_w,ne0,A0,A1];repeat' ((with_reducible first|refine wr ?_|refine A2 ?_ ?_|fail)<;>try simp only [go_sem,seval,hwd,ne0,A0,A1])
     refine AC.call (ib (d+1) sc9 m2 (tt,m3) (by omega) (by omega) qc9 hz7 bc9 _ _ t (by repeat (first|exact A0|rw [A3 (by omega)]|rw [D5 (by omega)])) (by omega)) ?_;rintro v H' c10 ⟨xc10,sc10,rfl,rfl,qc10,uc10,bc10⟩ hc10;dsimp only at qc10 uc10;simp only [go_sem,seval,ne0,A0,A1];repeat' ((with_reducible first|refine wr ?_|refine A2 ?_ ?_|fail)<;>try simp only [go_sem,seval,hwd,ne0,A0,A1])
     refine AC.call (io d sc10 m3 (oo,m4) (by omega) (by omega) qc10 hz8 bc10 _ _ t (by repeat (first|exact A0|rw [A3 (by omega)]|rw [D5 (by omega)])) (by omega)) ?_;rintro v H' c11 ⟨xc11,sc11,rfl,rfl,qc11,uc11,bc11⟩ hc11;dsimp only at qc11 uc11;simp only [go_sem,seval,ne0,A0,A1];repeat' ((with_reducible first|refine wr ?_|refine A2 ?_ ?_|fail)<;>try simp only [go_sem,seval,hwd,ne0,A0,A1])
     subst k0;rw [D9 (rv7 rfl A0)];refine ⟨_,_,R3 (cc:=cc) (K:=H.upd t (paB L E sc11)) (i:=c9) [xc9] (.inl rfl) (.inl rfl) (C0 hfr htc) (by omega) ?_ (fun j hj=>?_),.mk 2 [] [] [xc9] xc10 xc11 (A7 L E s).pos,sc11,by rw [Pb.St.v_w];rfl,rfl,qc11,fun k=>?_,bc11⟩
     ·rw [V2];dsimp only
      repeat (first|exact A0|rw [A3 (by omega)]|rw [D5 (by omega)])
     ·simp [Hp.upd,Hp.del,show ¬j=cc by omega,show ¬j=c1 by omega,show ¬j=c1+1 by omega,show ¬j=c9 by omega];try (split<;>rfl)
     ·have k3:=D5y hz8 k;have k2:=C7z hz7 k3;rw [uc11 k,uc10 k3,uc9 k2]
 by_cases k1:k=1
 ·rw [if_pos (.inr k1)] at h;cases hz12:H4 L E f (A8 s) with
  | none=>rw [hz12] at h;cases h
  | some qhz12 =>
   obtain ⟨e,m2⟩:=qhz12;rw [hz12] at h;dsimp only at h;cases hz13:G4 L E f (d+1) m2 with
   | none=>rw [hz13] at h;cases h
   | some qhz13 =>
    obtain ⟨tt,m3⟩:=qhz13;rw [hz13] at h;dsimp only at h;rw [if_neg (fun h=>k0 h.1)] at h;cases h;have f2:(2+k == 2)=false:=by simp;omega
    have f3:(2+k == 3)=true:=by simp;omega
    have f4:(2+k == 4)=false:=by simp;omega
    have f8:(2+k == 8)=false:=by simp;omega
    have f10:(2+k == 10)=false:=by simp;omega
    have f9:(2+k == 9)=false:=by simp;omega
    have f18:(2+k == 18)=false:=by simp;omega
    have f19:(2+k == 19)=false:=by simp;omega
    repeat' ((with_reducible first|refine wr ?_|refine A2 ?_ ?_|fail)<;>try simp only [go_sem,seval,f2,f3,f4,f8,f10,f9,f18,f19,hwd,ne0,A0,A1])
    refine AC.call (c_pexpr L E hL hK f (A8 s) (A8 s) (e,m2) hqn hz12 hPn.i _ _ t (by repeat (first|exact A0|rw [A3 (by omega)]|rw [D5 (by omega)])) (by omega)) ?_;rintro v H' c14 ⟨xc14,sc14,rfl,rfl,qc14,uc14,bc14⟩ hc14;dsimp only at qc14 uc14;have ne0:=P0 t cc c1 (c1+1) c14 (by omega);simp only [go_sem,seval,Ex.v_w,ne0,A0,A1];repeat' ((with_reducible first|refine wr ?_|refine A2 ?_ ?_|fail)<;>try simp only [go_sem,seval,hwd,ne0,A0,A1])
    refine AC.call (ib (d+1) sc14 m2 (tt,m3) (by omega) (by omega) qc14 hz13 bc14 _ _ t (by repeat (first|exact A0|rw [A3 (by omega)]|rw [D5 (by omega)])) (by omega)) ?_;rintro v H' c15 ⟨xc15,sc15,rfl,rfl,qc15,uc15,bc15⟩ hc15;dsimp only at qc15 uc15;simp only [go_sem,seval,ne0,A0,A1];repeat' ((with_reducible first|refine wr ?_|refine A2 ?_ ?_|fail)<;>try simp only [go_sem,seval,hwd,ne0,A0,A1])
    subst k1;rw [D9 (rv7 rfl A0)];refine ⟨_,_,R3 (cc:=cc) (K:=H.upd t (paB L E sc15)) (i:=c14) [xc14] (.inl rfl) (.inr ⟨rfl,rfl⟩) (C0 hfr htc) (by omega) ?_ (fun j hj=>?_),.mk 3 [] [] [xc14] xc15 [] (A7 L E s).pos,sc15,by rw [Pb.St.v_w];rfl,rfl,qc15,fun k=>?_,bc15⟩
    ·rw [V2];dsimp only
     repeat (first|exact A0|rw [A3 (by omega)]|rw [D5 (by omega)])
    ·simp [Hp.upd,Hp.del,show ¬j=cc by omega,show ¬j=c1 by omega,show ¬j=c1+1 by omega,show ¬j=c14 by omega];try (split<;>rfl)
    ·have k2:=C7z hz13 k;rw [uc15 k,uc14 k2];rfl
 rw [if_neg (by omega)] at h;unfold N1 at h;by_cases k4:2+k=4
 ·rw [if_pos k4] at h;cases hz16:H4 L E f (A8 s) with
  | none=>rw [hz16] at h;cases h
  | some qhz16 =>
   obtain ⟨e,m2⟩:=qhz16;rw [hz16] at h;dsimp only at h;cases h;have f2:(2+k == 2)=false:=by simp;omega
   have f3:(2+k == 3)=false:=by simp;omega
   have f4:(2+k == 4)=true:=by simp;omega
   have f8:(2+k == 8)=false:=by simp;omega
   have f10:(2+k == 10)=false:=by simp;omega
   have f9:(2+k == 9)=false:=by simp;omega
   have f18:(2+k == 18)=false:=by simp;omega
   have f19:(2+k == 19)=false:=by simp;omega
   repeat' ((with_reducible first|refine wr ?_|refine A2 ?_ ?_|fail)<;>try simp only [go_sem,seval,f2,f3,f4,f8,f10,f9,f18,f19,ne0,A0,A1])
   refine AC.call (c_pexpr L E hL hK f (A8 s) (A8 s) (e,m2) hqn hz16 hPn.i _ _ t (by repeat (first|exact A0|rw [A3 (by omega)]|rw [D5 (by omega)])) (by omega)) ?_;rintro v H' c17 ⟨xc17,sc17,rfl,rfl,qc17,uc17,bc17⟩ hc17;dsimp only at qc17 uc17;have ne0:=P0 t cc c1 (c1+1) c17 (by omega);simp only [go_sem,seval,Ex.v_w,ne0,A0,A1];repeat' ((with_reducible first|refine wr ?_|refine A2 ?_ ?_|fail)<;>try simp only [go_sem,seval,ne0,A0,A1])
   refine AC.call (c_want L E sc17 _ _ t (by repeat (first|exact A0|rw [A3 (by omega)]|rw [D5 (by omega)])) (by omega) (by have:=bc17.i;omega) 5 [59]) ?_;rintro v H' c18 ⟨rfl,rfl⟩ hc18;have qc18:=qc17.want (L:=L) (E:=E) (k:=5) (w:=[59]) (fun s=>G5 hK (by decide +kernel));have bc18:=(bc17.want (E:=E) (k:=5) (w:=[59]) (by decide)).1;simp only [go_sem,seval,ne0,A0,A1];repeat' ((with_reducible first|refine wr ?_|refine A2 ?_ ?_|fail)<;>try simp only [go_sem,seval,ne0,A0,A1])
   rw [D9 (rv7 rfl A0)];refine ⟨_,_,R3 (cc:=cc) (K:=H.upd t (paB L E (F8 L E sc17 5 [59]))) (i:=c17) [xc17] (.inr ⟨rfl,rfl⟩) (.inr ⟨rfl,rfl⟩) (C0 hfr htc) (by omega) ?_ (fun j hj=>?_),.mk (2+k) [] [] [xc17] [] [] (A7 L E s).pos,(F8 L E sc17 5 [59]),by rw [Pb.St.v_w];rfl,rfl,qc18,fun k=>?_,bc18⟩
   ·rw [V2];dsimp only
    repeat (first|exact A0|rw [A3 (by omega)]|rw [D5 (by omega)])
   ·simp [Hp.upd,Hp.del,show ¬j=cc by omega,show ¬j=c1 by omega,show ¬j=c1+1 by omega,show ¬j=c17 by omega];try (split<;>rfl)
   ·rw [uc17 (A6r k)]
 rw [if_neg k4] at h;by_cases k18:2+k=18
 ·rw [if_pos k18] at h;cases hz19:H4 L E f (D6 L E (A9 L E (A8 s) 4).2 [44]) with
  | none=>rw [hz19] at h;cases h
  | some qhz19 =>
   obtain ⟨e,m2⟩:=qhz19;rw [hz19] at h;dsimp only at h;cases h;have f2:(2+k == 2)=false:=by simp;omega
   have f3:(2+k == 3)=false:=by simp;omega
   have f4:(2+k == 4)=false:=by simp;omega
   have f8:(2+k == 8)=false:=by simp;omega
   have f10:(2+k == 10)=false:=by simp;omega
   have f9:(2+k == 9)=false:=by simp;omega
   have f18:(2+k == 18)=true:=by simp;omega
   have f19:(2+k == 19)=false:=by simp;omega
   repeat' ((with_reducible first|refine wr ?_|refine A2 ?_ ?_|fail)<;>try simp only [go_sem,seval,f2,f3,f4,f8,f10,f9,f18,f19,ne0,A0,A1])
   refine AC.call (c_ptake L E (A8 s) _ _ t (by repeat (first|exact A0|rw [A3 (by omega)]|rw [D5 (by omega)])) (by omega) (by have:=hPn.i;omega) 4) ?_;rintro v H' c20 ⟨rfl,rfl⟩ hc20;obtain ⟨qc20,vc20⟩:=hqn.take (L:=L) (E:=E) (k:=4);have bc20:=(hPn.take (E:=E) (x:=4) (by decide)).1;simp only [go_sem,seval,ne0,A0,A1];repeat' ((with_reducible first|refine wr ?_|refine A2 ?_ ?_|fail)<;>try simp only [go_sem,seval,ne0,A0,A1])
   refine AC.call (c_want L E (A9 L E (A8 s) 4).2 _ _ t (by repeat (first|exact A0|rw [A3 (by omega)]|rw [D5 (by omega)])) (by omega) (by have:=bc20.i;omega) 5 [44]) ?_;rintro v H' c21 ⟨rfl,rfl⟩ hc21;have qc21:=qc20.want (L:=L) (E:=E) (k:=5) (w:=[44]) (fun s=>G5 hK (by decide +kernel));have bc21:=(bc20.want (E:=E) (k:=5) (w:=[44]) (by decide)).1;simp only [go_sem,seval,ne0,A0,A1];repeat' ((with_reducible first|refine wr ?_|refine A2 ?_ ?_|fail)<;>try simp only [go_sem,seval,ne0,A0,A1])
   refine AC.call (c_pexpr L E hL hK f (F8 L E (A9 L E (A8 s) 4).2 5 [44]) (D6 L E (A9 L E (A8 s) 4).2 [44]) (e,m2) qc21 hz19 bc21.i _ _ t (by repeat (first|exact A0|rw [A3 (by omega)]|rw [D5 (by omega)])) (by omega)) ?_;rintro v H' c22 ⟨xc22,sc22,rfl,rfl,qc22,uc22,bc22⟩ hc22;dsimp only at qc22 uc22;have ne0:=P0 t cc c1 (c1+1) c22 (by omega);simp only [go_sem,seval,Ex.v_w,ne0,A0,A1];repeat' ((with_reducible first|refine wr ?_|refine A2 ?_ ?_|fail)<;>try simp only [go_sem,seval,ne0,A0,A1])
   refine AC.call (c_want L E sc22 _ _ t (by repeat (first|exact A0|rw [A3 (by omega)]|rw [D5 (by omega)])) (by omega) (by have:=bc22.i;omega) 5 [59]) ?_;rintro v H' c23 ⟨rfl,rfl⟩ hc23;have qc23:=qc22.want (L:=L) (E:=E) (k:=5) (w:=[59]) (fun s=>G5 hK (by decide +kernel));have bc23:=(bc22.want (E:=E) (k:=5) (w:=[59]) (by decide)).1;simp only [go_sem,seval,ne0,A0,A1];repeat' ((with_reducible first|refine wr ?_|refine A2 ?_ ?_|fail)<;>try simp only [go_sem,seval,ne0,A0,A1])
   rw [D9 (rv7 rfl A0)];refine ⟨_,_,R3 (cc:=cc) (K:=H.upd t (paB L E (F8 L E sc22 5 [59]))) (i:=c22) [xc22] (.inr ⟨rfl,rfl⟩) (.inr ⟨rfl,rfl⟩) (C0 hfr htc) (by omega) ?_ (fun j hj=>?_),.mk (2+k) [] (A9 L E (A8 s) 4).1.text [xc22] [] [] (A7 L E s).pos,(F8 L E sc22 5 [59]),by rw [Pb.St.v_w];rfl,rfl,qc23,fun k=>?_,bc23⟩
   ·rw [V2];dsimp only
    repeat (first|exact A0|rw [A3 (by omega)]|rw [D5 (by omega)])
   ·simp [Hp.upd,Hp.del,show ¬j=cc by omega,show ¬j=c1 by omega,show ¬j=c1+1 by omega,show ¬j=c22 by omega];try (split<;>rfl)
   ·rw [uc22 (A6r k)]
 rw [if_neg k18] at h;by_cases k19:2+k=19
 ·rw [if_pos k19] at h;cases h;have f2:(2+k == 2)=false:=by simp;omega
  have f3:(2+k == 3)=false:=by simp;omega
  have f4:(2+k == 4)=false:=by simp;omega
  have f8:(2+k == 8)=false:=by simp;omega
  have f10:(2+k == 10)=false:=by simp;omega
  have f9:(2+k == 9)=false:=by simp;omega
  have f18:(2+k == 18)=false:=by simp;omega
  have f19:(2+k == 19)=true:=by simp;omega
  repeat' ((with_reducible first|refine wr ?_|refine A2 ?_ ?_|fail)<;>try simp only [go_sem,seval,f2,f3,f4,f8,f10,f9,f18,f19,ne0,A0,A1])
  refine AC.call (c_want L E (A8 s) _ _ t (by repeat (first|exact A0|rw [A3 (by omega)]|rw [D5 (by omega)])) (by omega) (by have:=hPn.i;omega) 5 [59]) ?_;rintro v H' c24 ⟨rfl,rfl⟩ hc24;have qc24:=hqn.want (L:=L) (E:=E) (k:=5) (w:=[59]) (fun s=>G5 hK (by decide +kernel));have bc24:=(hPn.want (E:=E) (k:=5) (w:=[59]) (by decide)).1;simp only [go_sem,seval,ne0,A0,A1];repeat' ((with_reducible first|refine wr ?_|refine A2 ?_ ?_|fail)<;>try simp only [go_sem,seval,ne0,A0,A1])
  rw [D9 (rv7 rfl A0)];refine ⟨_,_,B3w (cc:=cc) (K:=H.upd t (paB L E (F8 L E (A8 s) 5 [59]))) (.inr ⟨rfl,rfl⟩) (.inr ⟨rfl,rfl⟩) (.inr ⟨rfl,rfl⟩) (C0 hfr htc) (fun j hj=>?_),.mk (2+k) [] [] [] [] [] (A7 L E s).pos,(F8 L E (A8 s) 5 [59]),by rw [Pb.St.v_w];rfl,rfl,qc24,fun k=>?_,bc24⟩
  ·simp [Hp.upd,Hp.del,show ¬j=cc by omega,show ¬j=c1 by omega,show ¬j=c1+1 by omega];try (split<;>rfl)
  ·rfl
 rw [if_neg k19] at h;dsimp only at h;by_cases k8:2+k=8
 ·rw [if_pos (by omega)] at h;cases hz25:H4 L E f (A9 L E (A8 s) 1).2 with
  | none=>rw [hz25] at h;cases h
  | some qhz25 =>
   obtain ⟨e,m2⟩:=qhz25;rw [hz25] at h;dsimp only at h;rw [if_neg (by omega)] at h;cases h;have f2:(2+k == 2)=false:=by simp;omega
   have f3:(2+k == 3)=false:=by simp;omega
   have f4:(2+k == 4)=false:=by simp;omega
   have f8:(2+k == 8)=true:=by simp;omega
   have f10:(2+k == 10)=false:=by simp;omega
   have f9:(2+k == 9)=false:=by simp;omega
   have f18:(2+k == 18)=false:=by simp;omega
   have f19:(2+k == 19)=false:=by simp;omega
   repeat' ((with_reducible first|refine wr ?_|refine A2 ?_ ?_|fail)<;>try simp only [go_sem,seval,f2,f3,f4,f8,f10,f9,f18,f19,ne0,A0,A1])
   refine AC.call (c_ptake L E (A8 s) _ _ t (by repeat (first|exact A0|rw [A3 (by omega)]|rw [D5 (by omega)])) (by omega) (by have:=hPn.i;omega) 1) ?_;rintro v H' c26 ⟨rfl,rfl⟩ hc26;obtain ⟨qc26,vc26⟩:=hqn.take (L:=L) (E:=E) (k:=1);have bc26:=(hPn.take (E:=E) (x:=1) (by decide)).1;simp only [go_sem,seval,ne0,A0,A1];repeat' ((with_reducible first|refine wr ?_|refine A2 ?_ ?_|fail)<;>try simp only [go_sem,seval,ne0,A0,A1])
   refine AC.call (c_pexpr L E hL hK f (A9 L E (A8 s) 1).2 (A9 L E (A8 s) 1).2 (e,m2) qc26 hz25 bc26.i _ _ t (by repeat (first|exact A0|rw [A3 (by omega)]|rw [D5 (by omega)])) (by omega)) ?_;rintro v H' c27 ⟨xc27,sc27,rfl,rfl,qc27,uc27,bc27⟩ hc27;dsimp only at qc27 uc27;have ne0:=P0 t cc c1 (c1+1) c27 (by omega);simp only [go_sem,seval,Ex.v_w,ne0,A0,A1];repeat' ((with_reducible first|refine wr ?_|refine A2 ?_ ?_|fail)<;>try simp only [go_sem,seval,ne0,A0,A1])
   refine AC.call (c_want L E sc27 _ _ t (by repeat (first|exact A0|rw [A3 (by omega)]|rw [D5 (by omega)])) (by omega) (by have:=bc27.i;omega) 5 [59]) ?_;rintro v H' c28 ⟨rfl,rfl⟩ hc28;have qc28:=qc27.want (L:=L) (E:=E) (k:=5) (w:=[59]) (fun s=>G5 hK (by decide +kernel));have bc28:=(bc27.want (E:=E) (k:=5) (w:=[59]) (by decide)).1;simp only [go_sem,seval,ne0,A0,A1];repeat' ((with_reducible first|refine wr ?_|refine A2 ?_ ?_|fail)<;>try simp only [go_sem,seval,ne0,A0,A1])
   rw [D9 (rv7 rfl A0)];refine ⟨_,_,R3 (cc:=cc) (K:=H.upd t (paB L E (F8 L E sc27 5 [59]))) (i:=c27) [xc27] (.inr ⟨rfl,rfl⟩) (.inr ⟨rfl,rfl⟩) (C0 hfr htc) (by omega) ?_ (fun j hj=>?_),.mk (2+k) (A9 L E (A8 s) 1).1.text [] [xc27] [] [] (A7 L E s).pos,(F8 L E sc27 5 [59]),by rw [Pb.St.v_w];rfl,rfl,qc28,fun k=>?_,bc28⟩
   ·rw [V2];dsimp only
    repeat (first|exact A0|rw [A3 (by omega)]|rw [D5 (by omega)])
   ·simp [Hp.upd,Hp.del,show ¬j=cc by omega,show ¬j=c1 by omega,show ¬j=c1+1 by omega,show ¬j=c27 by omega];try (split<;>rfl)
   ·rw [uc27 (A6r k)]
 by_cases k10:2+k=10
 ·rw [if_pos (by omega)] at h;cases hz29:H4 L E f (A9 L E (A8 s) 1).2 with
  | none=>rw [hz29] at h;cases h
  | some qhz29 =>
   obtain ⟨e,m2⟩:=qhz29;rw [hz29] at h;dsimp only at h;rw [if_neg (by omega)] at h;cases h;have f2:(2+k == 2)=false:=by simp;omega
   have f3:(2+k == 3)=false:=by simp;omega
   have f4:(2+k == 4)=false:=by simp;omega
   have f8:(2+k == 8)=false:=by simp;omega
   have f10:(2+k == 10)=true:=by simp;omega
   have f9:(2+k == 9)=false:=by simp;omega
   have f18:(2+k == 18)=false:=by simp;omega
   have f19:(2+k == 19)=false:=by simp;omega
   repeat' ((with_reducible first|refine wr ?_|refine A2 ?_ ?_|fail)<;>try simp only [go_sem,seval,f2,f3,f4,f8,f10,f9,f18,f19,ne0,A0,A1])
   refine AC.call (c_ptake L E (A8 s) _ _ t (by repeat (first|exact A0|rw [A3 (by omega)]|rw [D5 (by omega)])) (by omega) (by have:=hPn.i;omega) 1) ?_;rintro v H' c30 ⟨rfl,rfl⟩ hc30;obtain ⟨qc30,vc30⟩:=hqn.take (L:=L) (E:=E) (k:=1);have bc30:=(hPn.take (E:=E) (x:=1) (by decide)).1;simp only [go_sem,seval,ne0,A0,A1];repeat' ((with_reducible first|refine wr ?_|refine A2 ?_ ?_|fail)<;>try simp only [go_sem,seval,ne0,A0,A1])
   refine AC.call (c_pexpr L E hL hK f (A9 L E (A8 s) 1).2 (A9 L E (A8 s) 1).2 (e,m2) qc30 hz29 bc30.i _ _ t (by repeat (first|exact A0|rw [A3 (by omega)]|rw [D5 (by omega)])) (by omega)) ?_;rintro v H' c31 ⟨xc31,sc31,rfl,rfl,qc31,uc31,bc31⟩ hc31;dsimp only at qc31 uc31;have ne0:=P0 t cc c1 (c1+1) c31 (by omega);simp only [go_sem,seval,Ex.v_w,ne0,A0,A1];repeat' ((with_reducible first|refine wr ?_|refine A2 ?_ ?_|fail)<;>try simp only [go_sem,seval,ne0,A0,A1])
   refine AC.call (c_want L E sc31 _ _ t (by repeat (first|exact A0|rw [A3 (by omega)]|rw [D5 (by omega)])) (by omega) (by have:=bc31.i;omega) 5 [59]) ?_;rintro v H' c32 ⟨rfl,rfl⟩ hc32;have qc32:=qc31.want (L:=L) (E:=E) (k:=5) (w:=[59]) (fun s=>G5 hK (by decide +kernel));have bc32:=(bc31.want (E:=E) (k:=5) (w:=[59]) (by decide)).1;simp only [go_sem,seval,ne0,A0,A1];repeat' ((with_reducible first|refine wr ?_|refine A2 ?_ ?_|fail)<;>try simp only [go_sem,seval,ne0,A0,A1])
   rw [D9 (rv7 rfl A0)];refine ⟨_,_,R3 (cc:=cc) (K:=H.upd t (paB L E (F8 L E sc31 5 [59]))) (i:=c31) [xc31] (.inr ⟨rfl,rfl⟩) (.inr ⟨rfl,rfl⟩) (C0 hfr htc) (by omega) ?_ (fun j hj=>?_),.mk (2+k) (A9 L E (A8 s) 1).1.text [] [xc31] [] [] (A7 L E s).pos,(F8 L E sc31 5 [59]),by rw [Pb.St.v_w];rfl,rfl,qc32,fun k=>?_,bc32⟩
   ·rw [V2];dsimp only
    repeat (first|exact A0|rw [A3 (by omega)]|rw [D5 (by omega)])
   ·simp [Hp.upd,Hp.del,show ¬j=cc by omega,show ¬j=c1 by omega,show ¬j=c1+1 by omega,show ¬j=c31 by omega];try (split<;>rfl)
   ·rw [uc31 (A6r k)]
 by_cases k9:2+k=9
 ·rw [if_pos (by omega)] at h;cases hz33:H4 L E f (A9 L E (A8 s) 1).2 with
  | none=>rw [hz33] at h;cases h
  | some qhz33 =>
   obtain ⟨e,m2⟩:=qhz33;rw [hz33] at h;dsimp only at h;rw [if_pos k9] at h;cases hz34:H4 L E f (D6 L E m2 [44]) with
   | none=>rw [hz34] at h;cases h
   | some qhz34 =>
    obtain ⟨e2,m3⟩:=qhz34;rw [hz34] at h;dsimp only at h;cases h;have f2:(2+k == 2)=false:=by simp;omega
    have f3:(2+k == 3)=false:=by simp;omega
    have f4:(2+k == 4)=false:=by simp;omega
    have f8:(2+k == 8)=false:=by simp;omega
    have f10:(2+k == 10)=false:=by simp;omega
    have f9:(2+k == 9)=true:=by simp;omega
    have f18:(2+k == 18)=false:=by simp;omega
    have f19:(2+k == 19)=false:=by simp;omega
    repeat' ((with_reducible first|refine wr ?_|refine A2 ?_ ?_|fail)<;>try simp only [go_sem,seval,f2,f3,f4,f8,f10,f9,f18,f19,ne0,A0,A1])
    refine AC.call (c_ptake L E (A8 s) _ _ t (by repeat (first|exact A0|rw [A3 (by omega)]|rw [D5 (by omega)])) (by omega) (by have:=hPn.i;omega) 1) ?_;rintro v H' c35 ⟨rfl,rfl⟩ hc35;obtain ⟨qc35,vc35⟩:=hqn.take (L:=L) (E:=E) (k:=1);have bc35:=(hPn.take (E:=E) (x:=1) (by decide)).1;simp only [go_sem,seval,ne0,A0,A1];repeat' ((with_reducible first|refine wr ?_|refine A2 ?_ ?_|fail)<;>try simp only [go_sem,seval,ne0,A0,A1])
    refine AC.call (c_pexpr L E hL hK f (A9 L E (A8 s) 1).2 (A9 L E (A8 s) 1).2 (e,m2) qc35 hz33 bc35.i _ _ t (by repeat (first|exact A0|rw [A3 (by omega)]|rw [D5 (by omega)])) (by omega)) ?_;rintro v H' c36 ⟨xc36,sc36,rfl,rfl,qc36,uc36,bc36⟩ hc36;dsimp only at qc36 uc36;have ne0:=P0 t cc c1 (c1+1) c36 (by omega);simp only [go_sem,seval,Ex.v_w,ne0,A0,A1];repeat' ((with_reducible first|refine wr ?_|refine A2 ?_ ?_|fail)<;>try simp only [go_sem,seval,ne0,A0,A1])
    refine AC.call (c_want L E sc36 _ _ t (by repeat (first|exact A0|rw [A3 (by omega)]|rw [D5 (by omega)])) (by omega) (by have:=bc36.i;omega) 5 [44]) ?_;rintro v H' c37 ⟨rfl,rfl⟩ hc37;have qc37:=qc36.want (L:=L) (E:=E) (k:=5) (w:=[44]) (fun s=>G5 hK (by decide +kernel));have bc37:=(bc36.want (E:=E) (k:=5) (w:=[44]) (by decide)).1;simp only [go_sem,seval,ne0,A0,A1];repeat' ((with_reducible first|refine wr ?_|refine A2 ?_ ?_|fail)<;>try simp only [go_sem,seval,ne0,A0,A1])
    refine AC.call (c_pexpr L E hL hK f (F8 L E sc36 5 [44]) (D6 L E m2 [44]) (e2,m3) qc37 hz34 bc37.i _ _ t (by repeat (first|exact A0|rw [A3 (by omega)]|rw [D5 (by omega)])) (by omega)) ?_;rintro v H' c38 ⟨xc38,sc38,rfl,rfl,qc38,uc38,bc38⟩ hc38;dsimp only at qc38 uc38;have ne0:=B1t t cc c1 (c1+1) c36 (c37+4) (by omega);simp only [go_sem,seval,Ex.v_w,ne0,A0,A1];repeat' ((with_reducible first|refine wr ?_|refine A2 ?_ ?_|fail)<;>try simp only [go_sem,seval,ne0,A0,A1])
    refine ⟨?_,?_⟩
    ·and_intros
     all_goals ((repeat rw [A3 (by omega)]);exact hfr _ (by omega))
    have ne0:=D0l t cc c1 (c1+1) c36 (c37+4) c38 (by omega);try simp only [go_sem,seval,K3,D5,U0,ne0,A0,A1]
    repeat' ((with_reducible first|refine wr ?_|refine A2 ?_ ?_|fail)<;>try simp only [go_sem,seval,K3,D5,U0,ne0,A0,A1])
    refine M9 (E1 (by rfl) (by omega) (by omega)) ?_;try simp only [go_sem,seval,D5,U0,ne0,A0,A1]
    repeat' ((with_reducible first|refine wr ?_|refine A2 ?_ ?_|fail)<;>try simp only [go_sem,seval,D5,U0,ne0,A0,A1])
    refine AC.call (c_want L E sc38 _ _ t (by repeat (first|exact A0|rw [A3 (by omega)]|rw [D5 (by omega)])) (by omega) (by have:=bc38.i;omega) 5 [59]) ?_;rintro v H' c39 ⟨rfl,rfl⟩ hc39;have qc39:=qc38.want (L:=L) (E:=E) (k:=5) (w:=[59]) (fun s=>G5 hK (by decide +kernel));have bc39:=(bc38.want (E:=E) (k:=5) (w:=[59]) (by decide)).1;simp only [go_sem,seval,ne0,A0,A1];repeat' ((with_reducible first|refine wr ?_|refine A2 ?_ ?_|fail)<;>try simp only [go_sem,seval,ne0,A0,A1])
    rw [D9 (rv7 rfl A0)];refine ⟨_,_,R3 (cc:=cc) (K:=H.upd t (paB L E (F8 L E sc38 5 [59]))) (i:=c38) [xc36,xc38] (.inr ⟨rfl,rfl⟩) (.inr ⟨rfl,rfl⟩) (C0 hfr htc) (by omega) ?_ (fun j hj=>?_),.mk (2+k) (A9 L E (A8 s) 1).1.text [] [xc36,xc38] [] [] (A7 L E s).pos,(F8 L E sc38 5 [59]),by rw [Pb.St.v_w];rfl,rfl,qc39,fun k=>?_,bc39⟩
    ·rw [B0o];dsimp only
     repeat (first|exact A0|rw [A3 (by omega)]|rw [D5 (by omega)])
    ·simp [Hp.upd,Hp.del,show ¬j=cc by omega,show ¬j=c1 by omega,show ¬j=c1+1 by omega,show ¬j=c36 by omega,show ¬j=c37+4 by omega,show ¬j=c38 by omega];try (split<;>rfl)
    ·have k2:=A6r k;have k3:=A6r (D1u hz34 k2);rw [uc38 k2,uc36 k3]
 rw [if_neg (by omega)] at h;cases h;have f2:(2+k == 2)=false:=by simp;omega
 have f3:(2+k == 3)=false:=by simp;omega
 have f4:(2+k == 4)=false:=by simp;omega
 have f8:(2+k == 8)=false:=by simp;omega
 have f10:(2+k == 10)=false:=by simp;omega
 have f9:(2+k == 9)=false:=by simp;omega
 have f18:(2+k == 18)=false:=by simp;omega
 have f19:(2+k == 19)=false:=by simp;omega
 repeat' ((with_reducible first|refine wr ?_|refine A2 ?_ ?_|fail)<;>try simp only [go_sem,seval,f2,f3,f4,f8,f10,f9,f18,f19,ne0,A0,A1])
 refine AC.call (c_ptake L E (A8 s) _ _ t (by repeat (first|exact A0|rw [A3 (by omega)]|rw [D5 (by omega)])) (by omega) (by have:=hPn.i;omega) 1) ?_;rintro v H' c40 ⟨rfl,rfl⟩ hc40;obtain ⟨qc40,vc40⟩:=hqn.take (L:=L) (E:=E) (k:=1);have bc40:=(hPn.take (E:=E) (x:=1) (by decide)).1;simp only [go_sem,seval,ne0,A0,A1];repeat' ((with_reducible first|refine wr ?_|refine A2 ?_ ?_|fail)<;>try simp only [go_sem,seval,ne0,A0,A1])
 refine AC.call (c_want L E (A9 L E (A8 s) 1).2 _ _ t (by repeat (first|exact A0|rw [A3 (by omega)]|rw [D5 (by omega)])) (by omega) (by have:=bc40.i;omega) 5 [59]) ?_;rintro v H' c41 ⟨rfl,rfl⟩ hc41;have qc41:=qc40.want (L:=L) (E:=E) (k:=5) (w:=[59]) (fun s=>G5 hK (by decide +kernel));have bc41:=(bc40.want (E:=E) (k:=5) (w:=[59]) (by decide)).1;simp only [go_sem,seval,ne0,A0,A1];repeat' ((with_reducible first|refine wr ?_|refine A2 ?_ ?_|fail)<;>try simp only [go_sem,seval,ne0,A0,A1])
 rw [D9 (rv7 rfl A0)];refine ⟨_,_,B3w (cc:=cc) (K:=H.upd t (paB L E (F8 L E (A9 L E (A8 s) 1).2 5 [59]))) (.inr ⟨rfl,rfl⟩) (.inr ⟨rfl,rfl⟩) (.inr ⟨rfl,rfl⟩) (C0 hfr htc) (fun j hj=>?_),.mk (2+k) (A9 L E (A8 s) 1).1.text [] [] [] [] (A7 L E s).pos,(F8 L E (A9 L E (A8 s) 1).2 5 [59]),by rw [Pb.St.v_w];rfl,rfl,qc41,fun k=>?_,bc41⟩
 ·simp [Hp.upd,Hp.del,show ¬j=cc by omega,show ¬j=c1 by omega,show ¬j=c1+1 by omega];try (split<;>rfl)
 ·rfl
theorem c_pother (L:List Tok) (E:Int) (hL:L.length<=1000000000) (hK:∀ t∈L,J2 t) (f:Nat)
  (ib:∀ g,g<f->∀ d s m r,0<=d->d<=9->Eqv s m->G4 L E g d m=some r->PI L s->PlC L E 198 [I64 d] s r)
  (is:∀ g,g<f->∀ d s r,0<=d->d<=8->A9b L E s=true->J6 L E g d s=some r->PI L s->PsC L E 211 [I64 d] s r)
  (d:Int) (s m:Rd) (r:List Pb.St × Rd) (hd0:0<=d) (hd:d<=8) (hq:Eqv s m) (h:B4c L E f d m=some r) (hP:PI L s):PlC L E 222 [I64 (d+1)] s r:=by
 intro H cc t ht htc;have hri:=hP.i;refine AC.bodyT B1 rfl (A0B rfl) fun hfr=>?_;have hio:=c_pisO L E s H (cc+1) t cc (hfr _ (A0E _)) ht (by omega) 2 [[101,108,115,101]] (by simp);unfold B4c at h;rw [W8 hK (by decide +kernel), <- hq.isP] at h;repeat' ((with_reducible first|refine wr ?_|refine A2 ?_ ?_|fail)<;>try simp only [go_sem,seval])
 refine AC.call hio ?_;rintro v H c1 ⟨rfl,rfl⟩ hc1;cases he:isP L E s 2 [[101,108,115,101]] with
 | false =>
  rw [he,if_neg (by decide)] at h;cases h;simp only [go_sem,seval,he];repeat' ((with_reducible first|refine wr ?_|refine A2 ?_ ?_|fail)<;>try simp only [go_sem,seval,he])
  exact ⟨_,_,GL.view fun ρ vs hA=>N8 (fun v h=>h.snil_lst) vs hA,[],s,rfl,(upd_same ht).symm,hq,fun _=>rfl,hP⟩
 | true =>
  obtain ⟨ho,hlt, -⟩:=T7 (by decide) he;obtain rfl:s=m:=hq.s (by rw [<- hq.ok,ho]);rw [he,if_pos rfl] at h;have hP1:=hP.nxt hlt;have hw1:IntKind.i64.wrap ((s.i:Int)+1)=((s.i+1:Nat):Int):=by rw [w64 (by omega) (by omega)];omega
  have hio2:=c_pisO L E (A8 s) (H.upd t (paB L E (A8 s))) (c1+1) t c1 (by rw [A3 (by omega)];exact hfr _ (by omega)) A0 (by omega) 2 [[105,102]] (by simp);cases f with
  | zero=>simp [N4] at h
  | succ f =>
  unfold N4 at h;rw [W8 hK (by decide +kernel)] at h;simp only [go_sem,seval,he];repeat' ((with_reducible first|refine wr ?_|refine A2 ?_ ?_|fail)<;>try simp only [go_sem,seval,he,ht,hw1,A0,A1])
  refine AC.call hio2 ?_;rintro v H' c2 ⟨rfl,rfl⟩ hc2;cases hf:isP L E (A8 s) 2 [[105,102]] with
  | false =>
   rw [hf,if_neg (by decide)] at h;simp only [go_sem,seval,hf];repeat' ((with_reducible first|refine wr ?_|refine A2 ?_ ?_|fail)<;>try simp only [go_sem,seval,hf])
   refine AC.call (ib f (by omega) (d+1) _ _ r (by omega) (by omega) (.refl _) h hP1 _ _ t A0 (by omega)) ?_;rintro v H' c3 ⟨x,s3,rfl,rfl,q1,q2,q3⟩ hc3;simp only [go_sem,seval,A1];repeat' ((with_reducible first|refine wr ?_|refine A2 ?_ ?_|fail)<;>try simp only [go_sem,seval,A1])
   exact ⟨_,_,GL.refl _ _,x,s3,rfl,rfl,q1,q2,q3⟩
  | true =>
   rw [hf,if_pos rfl] at h;cases hs:J6 L E f (d+1) (A8 s) with
   | none=>rw [hs] at h;cases h
   | some q =>
   obtain ⟨x0,m3⟩:=q;rw [hs] at h;cases h;by_cases h8:d+1>8
   ·have hd8:decide (d+1>8)=true:=by simpa using h8
    have hm3:okR m3=false/\Eqv (pfl L E (A8 s) 50) m3:=by
     cases f with
     | zero=>simp [J6] at hs
     | succ f =>
      unfold J6 at hs;dsimp only at hs;have hl:C7 L E (A8 s) (d+1) 8 50=pfl L E (A8 s) 50:=by rw [X9,if_pos h8]
      have hnk:okR (pfl L E (A8 s) 50)=false:=by unfold pfl;exact Q8 (by decide)
      rw [hl,if_pos hnk] at hs;cases hs;exact ⟨hnk,.refl _⟩
    simp only [go_sem,seval,hf];repeat' ((with_reducible first|refine wr ?_|refine A2 ?_ ?_|fail)<;>try simp only [go_sem,seval,hf,hd8])
    refine AC.call (c_pfail L E (A8 s) _ _ t A0 (by omega) 50) ?_;rintro v H' c3 ⟨rfl,rfl⟩ hc3;simp only [go_sem,seval,A1];repeat' ((with_reducible first|refine wr ?_|refine A2 ?_ ?_|fail)<;>try simp only [go_sem,seval,A1])
    exact ⟨_,_,GL.view fun ρ vs hA=>N8 (fun v h=>h.snil_lst) vs hA,[],_,rfl,rfl,hm3.2,fun k=>(by simp [hm3.1] at k),hP1.fl⟩
   ·have hd8:decide (d+1>8)=false:=by simpa using h8
    have hbg:A9b L E (A8 s)=true:=by
     obtain ⟨g1,g2,g3⟩:=T7 (by decide) hf;unfold A9b;rw [g1,g3,B6c hf];decide +kernel
    simp only [go_sem,seval,hf];repeat' ((with_reducible first|refine wr ?_|refine A2 ?_ ?_|fail)<;>try simp only [go_sem,seval,hf,hd8])
    refine AC.call (is f (by omega) (d+1) (A8 s) _ (by omega) (by omega) hbg hs hP1 _ _ t A0 (by omega)) ?_;rintro v H' c3 ⟨x,s3,rfl,rfl,q1,q2,q3⟩ hc3;simp only [go_sem,seval,A1,Pb.St.v_w];repeat' ((with_reducible first|refine wr ?_|refine A2 ?_ ?_|fail)<;>try simp only [go_sem,seval,A1])
    refine ⟨_,_,B6g (cc:=cc) (K:=H.upd t (paB L E s3)) [x] (C0 hfr htc) (by omega) (by rw [B2v];exact A0) (fun j hj=>by rw [A3 (by omega)]),[x],s3,rfl,rfl,q1,fun k=>(by rw [q2 k]),q3⟩
theorem c_pblock (L:List Tok) (E:Int) (hL:L.length<=1000000000) (hK:∀ t∈L,J2 t) (f:Nat)
  (is:∀ g,g<=f->∀ d s r,0<=d->d<=8->A9b L E s=true->J6 L E g d s=some r->PI L s->PsC L E 211 [I64 d] s r)
  (d:Int) (s m:Rd) (r:List Pb.St × Rd) (hd0:0<=d) (hd:d<=9) (hq:Eqv s m) (h:G4 L E (f+1) d m=some r) (hP:PI L s):PlC L E 198 [I64 d] s r:=by
 intro H cc t ht htc;have hri:=hP.i;refine AC.bodyT B1 rfl (A0B rfl) fun hfr=>?_;unfold G4 at h;repeat' ((with_reducible first|refine wr ?_|refine A2 ?_ ?_|fail)<;>try simp only [go_sem,seval])
 refine AC.call (c_want L E s _ _ t ht (by omega) (by omega) 5 [123]) ?_;rintro v H' c1 ⟨rfl,rfl⟩ hc1;have q0:=hq.want (L:=L) (E:=E) (k:=5) (w:=[123]) (fun s=>G5 hK (by decide +kernel));have b0:=(hP.want (E:=E) (k:=5) (w:=[123]) (by decide)).1;simp only [go_sem,seval];repeat' ((with_reducible first|refine wr ?_|refine A2 ?_ ?_|fail)<;>try simp only [go_sem,seval])
 refine D8 (fun q:Nat × List Pb.St × Rd × Option Nat × List Pb.St × Rd=>[(0,.ptr t 0),(1,I64 d),(5,B6 q.2.2.2.1 q.2.2.2.2.1.length)]) (fun q=>C5 (H.upd t (paB L E q.2.2.2.2.2)) q.2.2.2.1 ⟨7,true,A4 (q.2.2.2.2.1.map Pb.St.v)⟩)
  (fun q c=>cc<=c/\q.1<=f/\(q.2.2.2.1=none->q.2.2.2.2.1=[])/\(∀ i,q.2.2.2.1=some i->cc<=i/\i<c)/\q.2.2.2.2.1.length<=64/\K6 L E q.1 d q.2.1 q.2.2.1=some r/\Eqv q.2.2.2.2.2 q.2.2.1/\(okR q.2.2.1=true->q.2.2.2.2.1=q.2.1)/\PI L q.2.2.2.2.2) (fun q=>q.1) (f,[],D6 L E m [123],none,[],F8 L E s 5 [123])
  (by simp [C9,tm,Tm.upd,B6]) (Sub.refl _) ⟨hc1,A0E _,fun _=>rfl,(fun i hi=>by cases hi),by simp,h,q0,fun _=>rfl,b0⟩ ?_
 clear h q0 b0 hri;rintro ⟨g,l,m,o,xs,u⟩ c ⟨hc,hg,hno,ho,hl1,hv,hq,hxs,hP⟩;dsimp only at hc hg hno ho hl1 hv hq hxs hP ⊢;have hri:=hP.i;have hHt:C5 (H.upd t (paB L E u)) o ⟨7,true,A4 (xs.map Pb.St.v)⟩ t=some (paB L E u):=by rw [D2 (fun i hi=>by have:=ho i hi;omega),A0]
 have hfin:∀ (z:Rd) (j:Nat),j<cc->((C5 (H.upd t (paB L E u)) o ⟨7,true,A4 (xs.map Pb.St.v)⟩).upd t (paB L E z)) j=(H.upd t (paB L E z)) j:=fun z j hj=>by
  by_cases ej:j=t
  ·subst ej;rw [A0,A0]
  ·rw [A3 ej,A3 ej,D2 (fun i hi=>by have:=ho i hi;omega),A3 ej]
 have hbo:∀ (z:Rd) (i:Nat),o=some i->((C5 (H.upd t (paB L E u)) o ⟨7,true,A4 (xs.map Pb.St.v)⟩).upd t (paB L E z)) i=some ⟨7,true,A4 (xs.map Pb.St.v)⟩:=fun z i hi=>by
  have:=ho i hi;rw [A3 (by omega)];subst hi;exact A0
 have hsub:∀ z,Sub (C5 (H.upd t (paB L E z)) o ⟨7,true,A4 (xs.map Pb.St.v)⟩) ((C5 (H.upd t (paB L E u)) o ⟨7,true,A4 (xs.map Pb.St.v)⟩).upd t (paB L E z)):=fun z j b hj=>by
  by_cases e:j=t
  ·subst e;rw [D2 (fun i hi=>by have:=ho i hi;omega),A0] at hj;rw [A0];exact hj
  ·rw [A3 e];cases o with
   | none=>simp only [C5] at hj ⊢;rw [A3 e] at hj ⊢;exact hj
   | some i =>
    simp only [C5] at hj ⊢;by_cases e2:j=i
    ·subst e2;rw [A0] at hj ⊢;exact hj
    ·rw [A3 e2,A3 e] at hj ⊢;exact hj
 cases g with
 | zero=>simp [K6] at hv
 | succ g =>
 unfold K6 at hv;repeat' ((with_reducible first|refine wr ?_|refine A2 ?_ ?_|fail)<;>try simp only [go_sem,seval])
 refine AC.call (c_begins L E u _ _ t hHt (by omega)) ?_;rintro v H' c2 ⟨rfl,rfl⟩ hc2;have hba:=B8c (E:=E) hK (s:=u);cases hb:A9b L E u with
 | false =>
  have hres:Eqv (F8 L E u 5 [125]) r.2/\(okR r.2=true->xs=r.1):=by
   by_cases h1:okR m=true/\isR L E m [125]=false
   ·rw [if_pos h1] at hv;obtain rfl:=hq.s h1.1;have hn:¬ (0<=B9 L E u B7\/G7 L E u 1=true):=fun hh=>by
     have:=hba.2 ⟨h1.1,hh⟩;rw [hb] at this;cases this
    rw [if_pos ⟨by omega,by cases hk:G7 L E u 1 with|false=>rfl|true=>exact absurd (.inr hk) hn⟩] at hv;cases hv;have hw:F8 L E u 5 [125]=O3 L E u:=by
     rw [F8, <- G5 hK (by decide +kernel),if_pos h1.2];rfl
    rw [hw];exact ⟨.refl _,fun k=>(by rw [V3] at k;cases k)⟩
   ·rw [if_neg h1] at hv;cases hv;exact ⟨hq.want (fun s=>G5 hK (by decide +kernel)),fun k=>hxs (A6r k)⟩
  have b1:=(hP.want (E:=E) (k:=5) (w:=[125]) (by decide)).1;simp only [go_sem,seval,hb];repeat' ((with_reducible first|refine wr ?_|refine A2 ?_ ?_|fail)<;>try simp only [go_sem,seval,hb])
  refine AC.call (c_want L E u _ _ t hHt (by omega) (by omega) 5 [125]) ?_;rintro v H' c3 ⟨rfl,rfl⟩ hc3;simp only [go_sem,seval];repeat' ((with_reducible first|refine wr ?_|refine A2 ?_ ?_|fail)<;>try simp only [go_sem,seval])
  exact ⟨_,_,A8p (cc:=cc) xs (C0 hfr htc) (fun i hi=>(ho i hi).1) hno (hbo _) (hfin _),xs,_,rfl,rfl,hres.1,hres.2,b1⟩
 | true =>
  obtain ⟨hok,hbk⟩:=hba.1 hb;obtain rfl:u=m:=hq.s (by rw [<- hq.ok,hok]);obtain rfl:xs=l:=hxs hok;have hnb:isR L E u [125]=false:=by
   rw [G5 hK (by decide +kernel)];have hk5:((A7 L E u).kind == 5)=false:=by
    rcases hbk with hk|hk
    ·have:=((B4x (E:=E) hK hok).1 hk).1;simp [this]
    ·have:=(I2 hk).2;simp [this]
   unfold isP;rw [hok,hk5];rfl
  rw [if_pos ⟨hok,hnb⟩,if_neg (fun hh=>by
   rcases hbk with hk|hk
   ·omega
   ·rw [hh.2] at hk;cases hk)] at hv
  have hlen:A5z (B6 o xs.length)=some (I64 xs.length):=by
   cases o with
   | none=>rw [hno rfl];rfl
   | some b=>rfl
  cases hs:J6 L E g d (C7 L E u ((xs.length:Int)+1) 64 9) with
  | none=>rw [hs] at hv;cases hv
  | some q =>
  obtain ⟨x0,m1⟩:=q;rw [hs] at hv;dsimp only at hv;by_cases h64:xs.length=64
  ·have hd64:((xs.length:Int) == 64)=true:=by simp;omega
   have hl:C7 L E u ((xs.length:Int)+1) 64 9=pfl L E u 9:=by rw [X9,if_pos (by omega)]
   have hnk:okR (pfl L E u 9)=false:=by unfold pfl;exact Q8 (by decide)
   rw [hl] at hs;cases C4d hs hnk;simp only [go_sem,seval,hb];repeat' ((with_reducible first|refine wr ?_|refine A2 ?_ ?_|fail)<;>try simp only [go_sem,seval,hb,hlen,hd64])
   refine AC.call (c_pfail L E u _ _ t hHt (by omega) 9) ?_;rintro v H' c3 ⟨rfl,rfl⟩ hc3;simp only [go_sem,seval];repeat' ((with_reducible first|refine wr ?_|refine A2 ?_ ?_|fail)<;>try simp only [go_sem,seval])
   refine ⟨(g,xs++[St0],pfl L E u 9,o,xs,pfl L E u 9),by simp [C9,tm,Tm.upd],?_,inv ⟨by omega,by simp only;omega,hno,(fun i hi=>⟨(ho i hi).1,by have:=(ho i hi).2;omega⟩),hl1,hv,.refl _,fun k=>(by rw [hnk] at k;cases k),hP.fl⟩,by simp only;omega⟩;exact hsub _
  have hd64:((xs.length:Int) == 64)=false:=by simp;omega
  rw [A0t (by omega)] at hs;by_cases h8:d>8
  ·have hd8:decide (d>8)=true:=by simpa using h8
   have hnk:okR (pfl L E u 50)=false:=by unfold pfl;exact Q8 (by decide)
   have hm1:m1=pfl L E u 50:=by
    cases g with
    | zero=>simp [J6] at hs
    | succ g =>
     unfold J6 at hs;dsimp only at hs;have hl:C7 L E u d 8 50=pfl L E u 50:=by rw [X9,if_pos h8]
     rw [hl,if_pos hnk] at hs;cases hs;rfl
   subst hm1;simp only [go_sem,seval,hb];repeat' ((with_reducible first|refine wr ?_|refine A2 ?_ ?_|fail)<;>try simp only [go_sem,seval,hb,hlen,hd64,hd8])
   refine AC.call (c_pfail L E u _ _ t hHt (by omega) 50) ?_;rintro v H' c3 ⟨rfl,rfl⟩ hc3;simp only [go_sem,seval];repeat' ((with_reducible first|refine wr ?_|refine A2 ?_ ?_|fail)<;>try simp only [go_sem,seval])
   refine ⟨(g,xs++[x0],pfl L E u 50,o,xs,pfl L E u 50),by simp [C9,tm,Tm.upd],?_,inv ⟨by omega,by simp only;omega,hno,(fun i hi=>⟨(ho i hi).1,by have:=(ho i hi).2;omega⟩),hl1,hv,.refl _,fun k=>(by rw [hnk] at k;cases k),hP.fl⟩,by simp only;omega⟩;exact hsub _
  have hd8:decide (d>8)=false:=by simpa using h8
  simp only [go_sem,seval,hb];repeat' ((with_reducible first|refine wr ?_|refine A2 ?_ ?_|fail)<;>try simp only [go_sem,seval,hb,hlen,hd64,hd8])
  refine AC.call (is g (by omega) d u _ hd0 (by omega) hb hs hP _ _ t hHt (by omega)) ?_;rintro v H' c3 ⟨x,s3,rfl,rfl,q1,q2,q3⟩ hc3;dsimp only at q1 q2;have ne0:=O0 t c3 (c3+1) (by omega);simp only [go_sem,seval,ne0,A1,Pb.St.v_w];repeat' ((with_reducible first|refine wr ?_|refine A2 ?_ ?_|fail)<;>try simp only [go_sem,seval,ne0])
  refine C4 (E6 (cs:=A4 (xs.map Pb.St.v)) (fun e=>by rw [hno e];exact ⟨rfl,rfl⟩) (fun i hi=>?_) (by rw [B5 (u:=7) (X5 _)];simp) (by omega) (by omega) (by omega)) ?_
  ·have:=ho i hi;rw [A3 (by omega)];exact hbo _ i hi
  simp only [go_sem,seval,ne0];repeat' ((with_reducible first|refine wr ?_|refine A2 ?_ ?_|fail)<;>try simp only [go_sem,seval,ne0])
  refine ⟨(g,xs++[x0],m1,some (c3+1),xs++[x],s3),by simp only [A0A,A0F];rfl,?_,inv ⟨by omega,by simp only;omega,(fun h=>by cases h),(fun i hi=>by cases hi;omega),by simp only [A0A,A0F];omega,hv,q1,fun k=>(by simp only [q2 k]),q3⟩,by simp only;omega⟩;intro jj b hj;simp only [C5] at hj;by_cases e1:jj=c3+1
  ·subst e1;rw [A0] at hj ⊢;rw [<- hj,A0M,C6,B2v]
  ·rw [A3 e1] at hj ⊢;by_cases e2:jj=t
   ·subst e2;rw [A0] at hj;rw [E0 (fun i hi=>by have:=ho i hi;omega),A3 (by omega),A0];exact hj
   ·rw [A3 e2] at hj;have hjc:jj<cc:=Classical.byContradiction fun h=>by rw [hfr jj (by omega)] at hj;cases hj
    rw [E0 (fun i hi=>by have:=ho i hi;omega),A3 (by omega),A3 e2,D2 (fun i hi=>by have:=ho i hi;omega),A3 e2];exact hj
theorem c_pst (L:List Tok) (E:Int) (hL:L.length<=1000000000) (hK:∀ t∈L,J2 t):∀ f:Nat,
  (∀ d s m r,0<=d->d<=9->Eqv s m->G4 L E f d m=some r->PI L s->PlC L E 198 [I64 d] s r) /\
  (∀ d s r,0<=d->d<=8->A9b L E s=true->J6 L E f d s=some r->PI L s->PsC L E 211 [I64 d] s r):=by
 intro f
 induction f using Nat.strongRecOn with
 | _ f ih =>
  cases f with
  | zero=>exact ⟨fun d s m r _ _ _ h=>by simp [G4] at h,fun d s r _ _ _ h=>by simp [J6] at h⟩
  | succ f =>
   exact ⟨fun d s m r h1 h2 hq h hP=>c_pblock L E hL hK f (fun g hg=>(ih g (by omega)).2) d s m r h1 h2 hq h hP,
    fun d s r h1 h2 hb h hP=>c_pstmt L E hL hK f (ih f (by omega)).1 (fun d s m r h1 h2 hq h hP=>c_pother L E hL hK f (fun g hg=>(ih g (by omega)).1) (fun g hg=>(ih g (by omega)).2) d s m r h1 h2 hq h hP) d s r h1 h2 hb h hP⟩
theorem B9s {L:List Tok} {E:Int} {s:Rd} {k:Int} {w:List UInt8} (h:isR L E s w=isP L E s k [w]):F8 L E s k w=D6 L E s w:=by unfold F8 D6;rw [h];rfl
theorem A1l {L:List Tok} {E:Int} (hK:∀ t∈L,J2 t) {s:Rd} {w:List UInt8} (h:F6 w=false):F8 L E s 5 w=D6 L E s w:=B9s (G5 hK h)
theorem c_pdecl (L:List Tok) (E:Int) (s:Rd) (H:Hp) (cc t:Nat) (ht:H t=some (paB L E s)) (htc:t<cc) (hL:L.length<=1000000000) (hv:∀ x∈L,0<=x.value/\x.value<=9223372036854775807) (hK:∀ t∈L,J2 t) (hd:isP L E s 2 D1=true) :
  AC Tryz.prog 126 [.ptr t 0] H cc (fun v H' c'=>v=(Q9 L E (B9 L E s D1) s).1.v/\H'=H.upd t (paB L E (Q9 L E (B9 L E s D1) s).2)):=by
 obtain ⟨hok,hi,hk2⟩:=T7 (by decide) hd;have hkd:B9 L E s D1=R2 (A7 L E s).text 0 D1:=A0l (A3z hK s (by decide +kernel)) (by rw [hok,hk2];rfl) 0;have hk0:0<=B9 L E s D1:=by
  have:=A7m (A3z (E:=E) hK s (l:=D1) (by decide +kernel));rw [hd] at this;exact of_decide_eq_true this.symm
 have hk8:B9 L E s D1<8:=(A1z L E s D1 0).2;have htk:A9 L E s 2=(A7 L E s,A8 s):=by
  have hkk:G7 L E s 2=true:=by unfold G7;rw [hok,hk2];rfl
  unfold A9;rw [hkk,if_neg (by decide)]
 have hix:=c_Idx (A7 L E s).text D1 (by decide);rw [<- hkd] at hix;generalize B9 L E s D1=k at *;have hwk:IntKind.i64.wrap (1+k)=1+k:=w64 (by omega) (by omega);have hn:(A8 s).i<=L.length:=hi;have hti:=K7 (E:=E) (x:=1) (by decide) hn;refine AC.bodyT B1 rfl (A0B rfl) fun hfr=>?_;repeat' ((with_reducible first|refine wr ?_|refine A2 ?_ ?_|fail)<;>try simp only [go_sem,seval])
 refine AC.call (c_ptake L E s _ _ t (by rw [A3 (by omega)];exact ht) (by omega) (by omega) 2) ?_;rintro v H' c1 ⟨rfl,rfl⟩ hc1;rw [htk];have ne0:=V4 t cc c1 (c1+1+8) (by omega);simp only [go_sem,seval,ne0,A0,A1];repeat' ((with_reducible first|refine wr ?_|refine cpc c_pdecls ?_|refine cpc hix ?_|refine A2 ?_ ?_|fail)<;>try simp only [go_sem,seval,hwk,ne0,A0,A1])
 refine ⟨by and_intros<;>((repeat rw [A3 (by omega)]);exact hfr _ (by omega)),?_⟩;repeat' ((with_reducible first|refine wr ?_|refine cpc c_pdecls ?_|refine cpc hix ?_|refine A2 ?_ ?_|fail)<;>try simp only [go_sem,seval,hwk,ne0,A0,A1])
 refine ⟨by and_intros<;>((repeat rw [A3 (by omega)]);exact hfr _ (by omega)),?_⟩;repeat' ((with_reducible first|refine wr ?_|refine cpc c_pdecls ?_|refine cpc hix ?_|refine A2 ?_ ?_|fail)<;>try simp only [go_sem,seval,hwk,ne0,A0,A1])
 refine AC.call (c_ptake L E (A8 s) _ _ t (by repeat (first|exact A0|rw [A3 (by omega)])) (by omega) (by omega) 1) ?_;rintro v H' c2 ⟨rfl,rfl⟩ hc2;have hval:∀ z,0<=(A9 L E z 3).1.value/\(A9 L E z 3).1.value<=9223372036854775807:=fun z=>by
  unfold A9;split
  ·exact ⟨A2X 0,(by decide:(0:Int)<=9223372036854775807)⟩
  ·show 0<=(A7 L E z).value/\(A7 L E z).value<=9223372036854775807;unfold A7;rw [A0T];cases hg:L[z.i]? with
   | none=>exact ⟨A2X 0,(by decide:(0:Int)<=9223372036854775807)⟩
   | some x=>exact hv x (A0W hg)
 obtain ⟨D,hD⟩:∃ D,D=Q9 L E k s:=⟨_,rfl⟩;rw [<- hD];unfold Q9 at hD;dsimp only at hD;generalize (A7 L E s).pos=p at hD ⊢;generalize (A9 L E (A8 s) 1).2=s2 at hD hti ⊢;by_cases h6:k+1<=6
 ·rw [if_pos h6] at hD;have f7:(1+k == 7)=false:=by simp;omega
  have f8:(1+k == 8)=false:=by simp;omega
  have hw2:IntKind.i64.wrap ((s2.i:Int)+1)=((s2.i+1:Nat):Int):=by rw [w64 (by omega) (by omega)];omega
  by_cases h5:k=5
  ·have f6:(1+k == 6)=true:=by simp;omega
   have hm:(k+1 == 6)=true:=by simp;omega
   rw [hm,A1G] at hD;have hm2:isR L E s2 [45]=isP L E s2 5 [[45]]:=G5 hK (by decide +kernel);rw [hm2] at hD;simp only [go_sem,seval,ne0,A0,A1];repeat' ((with_reducible first|refine wr ?_|refine A2 ?_ ?_|fail)<;>try simp only [go_sem,seval,f6,f7,f8,ne0,A0,A1])
   refine AC.call (c_pisO L E s2 _ _ t c2 (by (repeat rw [A3 (by omega)]);exact hfr _ (by omega)) (by repeat (first|exact A0|rw [A3 (by omega)])) (by omega) 5 [[45]] (by simp)) ?_;rintro v H' c3 ⟨rfl,rfl⟩ hc3;cases hq:isP L E s2 5 [[45]] with
   | true =>
    rw [hq,if_pos rfl,if_pos rfl] at hD;have hn2:(A8 s2).i<=L.length:=(T7 (by decide) hq).2.1;have hv2:=hval (A8 s2);have hneg:IntKind.i64.wrap (0-(A9 L E (A8 s2) 3).1.value) = -(A9 L E (A8 s2) 3).1.value:=by rw [w64 (by omega) (by omega)];omega
    simp only [go_sem,seval,hq,hw2,ne0,A0,A1];repeat' ((with_reducible first|refine wr ?_|refine A2 ?_ ?_|fail)<;>try simp only [go_sem,seval,hw2,ne0,A0,A1])
    have h4i:=K7 (E:=E) (x:=3) (by decide) hn2;subst hD;refine AC.call (c_ptake L E (A8 s2) _ _ t (by repeat (first|exact A0|rw [A3 (by omega)])) (by omega) (by omega) 3) ?_;rintro v H' c4 ⟨rfl,rfl⟩ hc4;try dsimp only
    simp only [go_sem,seval,hneg,ne0,A0,A1];repeat' ((with_reducible first|refine wr ?_|refine A2 ?_ ?_|fail)<;>try simp only [go_sem,seval,hneg,ne0,A0,A1])
    refine AC.call (c_want L E (A9 L E (A8 s2) 3).2 _ _ t (by repeat (first|exact A0|rw [A3 (by omega)])) (by omega) (by omega) 5 [59]) ?_;rintro v H' c9 ⟨rfl,rfl⟩ hc9;rw [A1l hK (by decide +kernel)];simp only [go_sem,seval,ne0,A0,A1];repeat' ((with_reducible first|refine wr ?_|refine A2 ?_ ?_|fail)<;>try simp only [go_sem,seval,ne0,A0,A1])
    rw [D9 (rv4 rfl A0)];refine ⟨_,_,I5 (cc:=cc) (C0 hfr htc) (fun j hj=>?_),rfl,rfl⟩;simp [Hp.upd,show ¬j=cc by omega,show ¬j=c1 by omega,show ¬j=c1+1+8 by omega];try (split<;>rfl)
   | false =>
    rw [hq,if_neg (by decide),if_neg (by decide)] at hD;simp only [go_sem,seval,hq,ne0,A0,A1];repeat' ((with_reducible first|refine wr ?_|refine A2 ?_ ?_|fail)<;>try simp only [go_sem,seval,ne0,A0,A1])
    have h4i:=K7 (E:=E) (x:=3) (by decide) hti;subst hD;refine AC.call (c_ptake L E s2 _ _ t (by repeat (first|exact A0|rw [A3 (by omega)])) (by omega) (by omega) 3) ?_;rintro v H' c4 ⟨rfl,rfl⟩ hc4;try dsimp only
    simp only [go_sem,seval,ne0,A0,A1];repeat' ((with_reducible first|refine wr ?_|refine A2 ?_ ?_|fail)<;>try simp only [go_sem,seval,ne0,A0,A1])
    refine AC.call (c_want L E (A9 L E s2 3).2 _ _ t (by repeat (first|exact A0|rw [A3 (by omega)])) (by omega) (by omega) 5 [59]) ?_;rintro v H' c9 ⟨rfl,rfl⟩ hc9;rw [A1l hK (by decide +kernel)];simp only [go_sem,seval,ne0,A0,A1];repeat' ((with_reducible first|refine wr ?_|refine A2 ?_ ?_|fail)<;>try simp only [go_sem,seval,ne0,A0,A1])
    rw [D9 (rv4 rfl A0)];refine ⟨_,_,I5 (cc:=cc) (C0 hfr htc) (fun j hj=>?_),rfl,rfl⟩;simp [Hp.upd,show ¬j=cc by omega,show ¬j=c1 by omega,show ¬j=c1+1+8 by omega];try (split<;>rfl)
  ·have hm:(k+1 == 6)=false:=by simp;omega
   have f6:(1+k == 6)=false:=by simp;omega
   rw [hm,A3E,if_neg (by decide)] at hD;simp only [go_sem,seval,ne0,A0,A1];repeat' ((with_reducible first|refine wr ?_|refine A2 ?_ ?_|fail)<;>try simp only [go_sem,seval,f6,f7,f8,ne0,A0,A1])
   have h4i:=K7 (E:=E) (x:=3) (by decide) hti;subst hD;refine AC.call (c_ptake L E s2 _ _ t (by repeat (first|exact A0|rw [A3 (by omega)])) (by omega) (by omega) 3) ?_;rintro v H' c4 ⟨rfl,rfl⟩ hc4;try dsimp only
   simp only [go_sem,seval,ne0,A0,A1];repeat' ((with_reducible first|refine wr ?_|refine A2 ?_ ?_|fail)<;>try simp only [go_sem,seval,ne0,A0,A1])
   refine AC.call (c_want L E (A9 L E s2 3).2 _ _ t (by repeat (first|exact A0|rw [A3 (by omega)])) (by omega) (by omega) 5 [59]) ?_;rintro v H' c9 ⟨rfl,rfl⟩ hc9;rw [A1l hK (by decide +kernel)];simp only [go_sem,seval,ne0,A0,A1];repeat' ((with_reducible first|refine wr ?_|refine A2 ?_ ?_|fail)<;>try simp only [go_sem,seval,ne0,A0,A1])
   rw [D9 (rv4 rfl A0)];refine ⟨_,_,I5 (cc:=cc) (C0 hfr htc) (fun j hj=>?_),rfl,rfl⟩;simp [Hp.upd,show ¬j=cc by omega,show ¬j=c1 by omega,show ¬j=c1+1+8 by omega];try (split<;>rfl)
 ·rw [if_neg h6] at hD;have f:((1+k == 7)=true)\/((1+k == 7)=false/\(1+k == 8)=true):=by
   by_cases hh:k=6
   ·left;simp;omega
   ·right;constructor<;>simp<;>omega
  subst hD;rcases f with f7|⟨f7,f8⟩
  ·simp only [go_sem,seval,ne0,A0,A1];repeat' ((with_reducible first|refine wr ?_|refine A2 ?_ ?_|fail)<;>try simp only [go_sem,seval,f7,ne0,A0,A1])
   refine AC.call (c_want L E s2 _ _ t (by repeat (first|exact A0|rw [A3 (by omega)])) (by omega) (by omega) 5 [59]) ?_;rintro v H' c9 ⟨rfl,rfl⟩ hc9;rw [A1l hK (by decide +kernel)];simp only [go_sem,seval,ne0,A0,A1];repeat' ((with_reducible first|refine wr ?_|refine A2 ?_ ?_|fail)<;>try simp only [go_sem,seval,ne0,A0,A1])
   rw [D9 (rv4 rfl A0)];refine ⟨_,_,I5 (cc:=cc) (C0 hfr htc) (fun j hj=>?_),rfl,rfl⟩;simp [Hp.upd,show ¬j=cc by omega,show ¬j=c1 by omega,show ¬j=c1+1+8 by omega];try (split<;>rfl)
  ·simp only [go_sem,seval,ne0,A0,A1];repeat' ((with_reducible first|refine wr ?_|refine A2 ?_ ?_|fail)<;>try simp only [go_sem,seval,f7,f8,ne0,A0,A1])
   refine AC.call (c_want L E s2 _ _ t (by repeat (first|exact A0|rw [A3 (by omega)])) (by omega) (by omega) 5 [59]) ?_;rintro v H' c9 ⟨rfl,rfl⟩ hc9;rw [A1l hK (by decide +kernel)];simp only [go_sem,seval,ne0,A0,A1];repeat' ((with_reducible first|refine wr ?_|refine A2 ?_ ?_|fail)<;>try simp only [go_sem,seval,ne0,A0,A1])
   rw [D9 (rv4 rfl A0)];refine ⟨_,_,I5 (cc:=cc) (C0 hfr htc) (fun j hj=>?_),rfl,rfl⟩;simp [Hp.upd,show ¬j=cc by omega,show ¬j=c1 by omega,show ¬j=c1+1+8 by omega];try (split<;>rfl)
def hdM (L:List Tok) (E:Int) (f:Nat) (s:Rd):Option (Hd × Rd) :=
 let p:=(A7 L E s).pos
 let s2:=A8 s
 let k:=B9 L E s2 D3
 if k<0 then some (⟨0,[],[],p⟩,O3 L E s2) else
 let s3:=A8 s2
 let n:=if 2<=k then (A9 L E s3 1).1.text else []
 let s4:=if 2<=k then (A9 L E s3 1).2 else s3
 match G4 L E f 1 s4 with
 | none=>none
 | some (b,s5)=>some (⟨1+k,n,b,p⟩,s5)
theorem c_phand (L:List Tok) (E:Int) (hL:L.length<=1000000000) (hK:∀ t∈L,J2 t) (f:Nat) (s:Rd) (q:Hd × Rd) (h:hdM L E f s=some q) (hP:PI L s) (hon:isP L E s 2 [[111,110]]=true) :
  ∀ (H:Hp) (cc t:Nat),H t=some (paB L E s)->t<cc->AC Tryz.prog 172 [.ptr t 0] H cc (fun v H' c' => ∃ x s',v=Hd.v x/\H'=H.upd t (paB L E s')/\Eqv s' q.2/\(okR q.2=true->x=q.1)/\PI L s'):=by
 intro H cc t ht htc;obtain ⟨hok,hi,hk2⟩:=T7 (by decide) hon;have htk:A9 L E s 2=(A7 L E s,A8 s):=by
  have hkk:G7 L E s 2=true:=by unfold G7;rw [hok,hk2];rfl
  unfold A9;rw [hkk,if_neg (by decide)]
 have hP1:=hP.nxt hi;have hri:=hP1.i;have hri0:=hP.i;unfold hdM at h;dsimp only at h;have hpa:=A7m (A3z (E:=E) hK (A8 s) (l:=D3) (by decide +kernel));have hkr:B9 L E (A8 s) D3<6:=(A1z L E (A8 s) D3 0).2;have hkx:0<=B9 L E (A8 s) D3->B9 L E (A8 s) D3=R2 (A7 L E (A8 s)).text 0 D3/\(A7 L E (A8 s)).kind=2/\(A8 s).i<L.length:=fun hh=>by
  rw [decide_eq_true hh] at hpa;obtain ⟨g1,g2,g3⟩:=T7 (by decide) hpa;exact ⟨A0l (A3z hK (A8 s) (by decide +kernel)) (by rw [g1,g3];rfl) 0,g3,g2⟩
 have hix:=c_Idx (A7 L E (A8 s)).text D3 (by decide);refine AC.bodyT B1 rfl (A0B rfl) fun hfr=>?_;repeat' ((with_reducible first|refine wr ?_|refine A2 ?_ ?_|fail)<;>try simp only [go_sem,seval])
 refine AC.call (c_ptake L E s _ _ t (by rw [A3 (by omega)];exact ht) (by omega) (by omega) 2) ?_;rintro v H' c1 ⟨rfl,rfl⟩ hc1;rw [htk];have ne0:=O0 t cc c1 (by omega);simp only [go_sem,seval,ne0,A0,A1];repeat' ((with_reducible first|refine wr ?_|refine cpc c_ptrigs ?_|refine A2 ?_ ?_|fail)<;>try simp only [go_sem,seval,ne0,A0,A1])
 refine AC.call (c_pis L E (A8 s) _ _ t (by repeat (first|exact A0|rw [A3 (by omega)])) (by omega) 2 D3 (by decide)) ?_;rintro v H' c2 ⟨rfl,rfl⟩ hc2;by_cases hk:B9 L E (A8 s) D3<0
 ·rw [if_pos hk] at h;cases h;have hpf:isP L E (A8 s) 2 D3=false:=by rw [hpa];exact decide_eq_false (by omega)
  simp only [go_sem,seval,hpf,ne0,A0,A1];repeat' ((with_reducible first|refine wr ?_|refine cpc c_ptrigs ?_|refine A2 ?_ ?_|fail)<;>try simp only [go_sem,seval,ne0,A0,A1])
  refine AC.call (c_pfail L E (A8 s) _ _ t (by repeat (first|exact A0|rw [A3 (by omega)])) (by omega) 4) ?_;rintro v H' c3 ⟨rfl,rfl⟩ hc3;simp only [go_sem,seval,ne0,A0,A1];repeat' ((with_reducible first|refine wr ?_|refine A2 ?_ ?_|fail)<;>try simp only [go_sem,seval,ne0,A0,A1])
  rw [D9 (rv4 rfl A0)];refine ⟨_,_,(I5 (cc:=cc) (K:=H.upd t (paB L E (pfl L E (A8 s) 4))) (C0 hfr htc) (fun j hj=>?_)).trans (GL.view fun ρ vs hA=>N8 (fun v h=>D2o h) vs hA),⟨0,[],[],(A7 L E s).pos⟩,_,rfl,rfl,.refl _,fun k=>?_,hP1.fl⟩
  ·simp [Hp.upd,show ¬j=cc by omega,show ¬j=c1 by omega];try (split<;>rfl)
  ·exact absurd k (by rw [V3];decide)
 rw [if_neg hk] at h;obtain ⟨hk1,hkd2,hi2⟩:=hkx (by omega);rw [<- hk1] at hix;have hpt:isP L E (A8 s) 2 D3=true:=by rw [hpa];exact decide_eq_true (by omega)
 have htk2:A9 L E (A8 s) 2=(A7 L E (A8 s),A8 (A8 s)):=by
  have hkk:G7 L E (A8 s) 2=true:=by unfold G7;rw [(T7 (by decide) hpt).1,hkd2];rfl
  unfold A9;rw [hkk,if_neg (by decide)]
 have hP2:=hP1.nxt hi2;have hri2:=hP2.i;generalize B9 L E (A8 s) D3=k at *;have hwk:IntKind.i64.wrap (1+k)=1+k:=w64 (by omega) (by omega);simp only [go_sem,seval,hpt,ne0,A0,A1];repeat' ((with_reducible first|refine wr ?_|refine cpc c_ptrigs ?_|refine A2 ?_ ?_|fail)<;>try simp only [go_sem,seval,ne0,A0,A1])
 refine AC.call (c_ptake L E (A8 s) _ _ t (by repeat (first|exact A0|rw [A3 (by omega)])) (by omega) (by omega) 2) ?_;rintro v H' c3 ⟨rfl,rfl⟩ hc3;rw [htk2];by_cases hk2':2<=k
 ·rw [if_pos hk2',if_pos hk2'] at h;have hd3:decide (1+k≥3)=true:=by simp;omega
  simp only [go_sem,seval,hwk,ne0,A0,A1];repeat' ((with_reducible first|refine wr ?_|refine cpc hix ?_|refine A2 ?_ ?_|fail)<;>try simp only [go_sem,seval,hwk,hd3,ne0,A0,A1])
  refine AC.call (c_ptake L E (A8 (A8 s)) _ _ t (by repeat (first|exact A0|rw [A3 (by omega)])) (by omega) (by omega) 1) ?_;rintro v H' c4 ⟨rfl,rfl⟩ hc4;have hP3:=(hP2.take (E:=E) (x:=1) (by decide)).1;cases hb:G4 L E f 1 (A9 L E (A8 (A8 s)) 1).2 with
  | none=>rw [hb] at h;cases h
  | some qb =>
   obtain ⟨bd,m5⟩:=qb;rw [hb] at h;dsimp only at h;cases h;simp only [go_sem,seval,ne0,A0,A1];repeat' ((with_reducible first|refine wr ?_|refine A2 ?_ ?_|fail)<;>try simp only [go_sem,seval,ne0,A0,A1])
   refine AC.call ((c_pst L E hL hK f).1 1 _ _ (bd,m5) (by decide) (by decide) (.refl _) hb hP3 _ _ t (by repeat (first|exact A0|rw [A3 (by omega)])) (by omega)) ?_;rintro v H' c5 ⟨x,s5,rfl,rfl,q1,q2,q3⟩ hc5;dsimp only at q1 q2;simp only [go_sem,seval,ne0,A0,A1];repeat' ((with_reducible first|refine wr ?_|refine A2 ?_ ?_|fail)<;>try simp only [go_sem,seval,ne0,A0,A1])
   rw [D9 (rv4 rfl A0)];refine ⟨_,_,I5 (cc:=cc) (K:=H.upd t (paB L E s5)) (C0 hfr htc) (fun j hj=>?_),⟨1+k,(A9 L E (A8 (A8 s)) 1).1.text,x,(A7 L E s).pos⟩,s5,rfl,rfl,q1,fun k=>(by rw [q2 k]),q3⟩;simp [Hp.upd,show ¬j=cc by omega,show ¬j=c1 by omega];try (split<;>rfl)
 ·rw [if_neg hk2',if_neg hk2'] at h;have hd3:decide (1+k≥3)=false:=by simp;omega
  cases hb:G4 L E f 1 (A8 (A8 s)) with
  | none=>rw [hb] at h;cases h
  | some qb =>
   obtain ⟨bd,m5⟩:=qb;rw [hb] at h;dsimp only at h;cases h;simp only [go_sem,seval,hwk,ne0,A0,A1];repeat' ((with_reducible first|refine wr ?_|refine cpc hix ?_|refine A2 ?_ ?_|fail)<;>try simp only [go_sem,seval,hwk,hd3,ne0,A0,A1])
   refine AC.call ((c_pst L E hL hK f).1 1 _ _ (bd,m5) (by decide) (by decide) (.refl _) hb hP2 _ _ t (by repeat (first|exact A0|rw [A3 (by omega)])) (by omega)) ?_;rintro v H' c5 ⟨x,s5,rfl,rfl,q1,q2,q3⟩ hc5;dsimp only at q1 q2;simp only [go_sem,seval,ne0,A0,A1];repeat' ((with_reducible first|refine wr ?_|refine A2 ?_ ?_|fail)<;>try simp only [go_sem,seval,ne0,A0,A1])
   rw [D9 (rv4 rfl A0)];refine ⟨_,_,I5 (cc:=cc) (K:=H.upd t (paB L E s5)) (C0 hfr htc) (fun j hj=>?_),⟨1+k,[],x,(A7 L E s).pos⟩,s5,rfl,rfl,q1,fun k=>(by rw [q2 k]),q3⟩;simp [Hp.upd,show ¬j=cc by omega,show ¬j=c1 by omega];try (split<;>rfl)
theorem B7r {L:List Tok} {E:Int} {g:Nat} {l:List Hd} {s:Rd} {r:List Hd × Rd} (h:N6 L E g l s=some r) (ho:okR s=false):r.2=s:=by
 cases g with
 | zero=>simp [N6] at h
 | succ g =>
  unfold N6 at h;dsimp only at h;rw [ho,if_neg (by simp),A5i ho] at h;cases h;rfl
theorem C2u {L:List Tok} {E:Int} {s:Rd} {w:List UInt8} (h:isR L E s w=true):D6 L E s w=A8 s:=by unfold D6;rw [h,if_neg (by decide)]
theorem C1x {L:List Tok} {E:Int} {g:Nat} {l:List Hd} {u:Rd} {r:List Hd × Rd} (hok:okR u=true) (hnb:isR L E u [125]=false) (hon:isR L E u [111,110]=true) (hl:l.length+1<=32) (h:N6 L E (g+1) l u=some r) :
  ∃ q,hdM L E g u=some q/\(okR q.2=true->N6 L E g (l++[q.1]) q.2=some r)/\(okR q.2=false->r.2=q.2):=by
 unfold N6 at h;dsimp only at h;rw [if_pos ⟨hok,hnb⟩,if_neg (by simp [hon]),A0t (by omega),C2u hon] at h;unfold hdM;dsimp only;by_cases hk:B9 L E (A8 u) D3<0
 ·rw [if_pos hk] at h ⊢;cases h;exact ⟨_,rfl,fun k=>(by rw [V3] at k;cases k),fun _=>rfl⟩
 ·rw [if_neg hk] at h ⊢;generalize (if 2<=B9 L E (A8 u) D3 then (A9 L E (A8 (A8 u)) 1).2 else A8 (A8 u))=s4 at h ⊢;cases hb:G4 L E g 1 s4 with
  | none=>rw [hb] at h;cases h
  | some qb =>
   obtain ⟨bd,m5⟩:=qb;rw [hb] at h;dsimp only at h ⊢;exact ⟨_,rfl,fun _=>h,fun k=>B7r h k⟩
theorem c_pmode (L:List Tok) (E:Int) (hL:L.length<=1000000000) (hK:∀ t∈L,J2 t) (f:Nat) (s:Rd) (r:Md × Rd) (h:A0s L E f s=some r) (hP:PI L s) (hmo:isP L E s 2 [[109,111,100,101]]=true) :
  ∀ (H:Hp) (cc t:Nat),H t=some (paB L E s)->t<cc->AC Tryz.prog 127 [.ptr t 0] H cc (fun v H' c' => ∃ x s',v=Md.v x/\H'=H.upd t (paB L E s')/\Eqv s' r.2/\(okR r.2=true->x=r.1)/\PI L s'):=by
 intro H cc t ht htc;obtain ⟨hok0,hi0,hk2⟩:=T7 (by decide) hmo;have htk:A9 L E s 2=(A7 L E s,A8 s):=by
  have hkk:G7 L E s 2=true:=by unfold G7;rw [hok0,hk2];rfl
  unfold A9;rw [hkk,if_neg (by decide)]
 have hP1:=hP.nxt hi0;unfold A0s at h;dsimp only at h;have hmoR:isR L E s [109,111,100,101]=true:=by rw [W8 hK (by decide +kernel)];exact hmo
 rw [C2u hmoR] at h;have hri0:=hP.i;have hri1:=hP1.i;have b2:=(hP1.take (E:=E) (x:=1) (by decide)).1;generalize hs1:A8 s=s1 at h b2 hP1 hri1 htk;have b3:=(b2.take (E:=E) (x:=3) (by decide)).1;have b4:=(b3.want (E:=E) (k:=5) (w:=[123]) (by decide)).1;rw [A1l hK (by decide +kernel)] at b4;refine AC.bodyT B1 rfl (A0B rfl) fun hfr=>?_;repeat' ((with_reducible first|refine wr ?_|refine A2 ?_ ?_|fail)<;>try simp only [go_sem,seval])
 refine AC.call (c_ptake L E s _ _ t (by rw [A3 (by omega)];exact ht) (by omega) (by omega) 2) ?_;rintro v H' c1 ⟨rfl,rfl⟩ hc1;rw [htk];have ne0:=O0 t cc c1 (by omega);simp only [go_sem,seval,ne0,A0,A1];repeat' ((with_reducible first|refine wr ?_|refine A2 ?_ ?_|fail)<;>try simp only [go_sem,seval,ne0,A0,A1])
 refine AC.call (c_ptake L E s1 _ _ t (by repeat (first|exact A0|rw [A3 (by omega)])) (by omega) (by omega) 1) ?_;rintro v H' c3 ⟨rfl,rfl⟩ hc3;simp only [go_sem,seval,ne0,A0,A1];repeat' ((with_reducible first|refine wr ?_|refine A2 ?_ ?_|fail)<;>try simp only [go_sem,seval,ne0,A0,A1])
 generalize (A9 L E s1 1).1.text=n at h ⊢;generalize (A9 L E s1 1).2=s2 at h b2 b3 b4 ⊢;have hri2:=b2.i;refine AC.call (c_ptake L E s2 _ _ t (by repeat (first|exact A0|rw [A3 (by omega)])) (by omega) (by omega) 3) ?_;rintro v H' c4 ⟨rfl,rfl⟩ hc4;simp only [go_sem,seval,ne0,A0,A1];repeat' ((with_reducible first|refine wr ?_|refine A2 ?_ ?_|fail)<;>try simp only [go_sem,seval,ne0,A0,A1])
 have hri3:=b3.i;refine AC.call (c_want L E (A9 L E s2 3).2 _ _ t (by repeat (first|exact A0|rw [A3 (by omega)])) (by omega) (by omega) 5 [123]) ?_;rintro v H' c5 ⟨rfl,rfl⟩ hc5;rw [A1l hK (by decide +kernel)];generalize (A9 L E s2 3).1.value=z at h ⊢;generalize D6 L E (A9 L E s2 3).2 [123]=s3 at h b4 ⊢;generalize (A7 L E s).pos=p at h ⊢;cases hm:N6 L E f [] s3 with
 | none=>rw [hm] at h;cases h
 | some q =>
  obtain ⟨hl,s4⟩:=q;rw [hm] at h;dsimp only at h;cases h;simp only [go_sem,seval,ne0,A0,A1];repeat' ((with_reducible first|refine wr ?_|refine A2 ?_ ?_|fail)<;>try simp only [go_sem,seval,ne0,A0,A1])
  refine D8 (fun _:Nat × Option Nat × List Hd × Rd=>[(0,.ptr t 0),(2,.ptr cc 0),(3,.ptr c1 0)]) (fun q=>C5 (((H.upd cc ⟨0,true,[.str [],I64 0,.snil,I64 0]⟩).upd c1 ⟨0,true,[.str n,I64 z,B6 q.2.1 q.2.2.1.length,I64 p]⟩).upd t (paB L E q.2.2.2)) q.2.1 ⟨4,true,A4 (q.2.2.1.map Hd.v)⟩)
   (fun q c=>c1+1<=c/\q.1<=f/\(q.2.1=none->q.2.2.1=[])/\(∀ i,q.2.1=some i->c1<i/\i<c)/\q.2.2.1.length<=32/\PI L q.2.2.2/\((okR q.2.2.2=true/\N6 L E q.1 q.2.2.1 q.2.2.2=some (hl,s4))\/(okR q.2.2.2=false/\Eqv q.2.2.2 s4))) (fun q=>q.1) (f,none,[],s3)
   (by simp [C9,tm,Tm.upd]) (fun j b hj=>?_) ⟨by omega,A0E _,fun _=>rfl,(fun i hi=>by cases hi),by simp,b4,by
    cases ho:okR s3 with
    | true=>exact .inl ⟨rfl,hm⟩
    | false=>exact .inr ⟨rfl,by have:=B7r hm ho;dsimp only at this;rw [this];exact .refl _⟩⟩ ?_
  ·simp only [C5,A5r] at hj;by_cases e1:j=t
   ·subst e1;rw [A0] at hj ⊢;exact hj
   ·rw [A3 e1] at hj ⊢;by_cases e2:j=c1
    ·subst e2;rw [A0] at hj ⊢;exact hj
    ·rw [A3 e2] at hj ⊢;simp only [A3 e1,A3 e2];exact hj
  clear hm b2 b3 b4;rintro ⟨g,o,l,u⟩ c ⟨hc,hg,hno,ho,hl1,hPu,hv⟩;dsimp only at hc hg hno ho hl1 hPu hv ⊢;have hriu:=hPu.i;have hHt:C5 (((H.upd cc ⟨0,true,[.str [],I64 0,.snil,I64 0]⟩).upd c1 ⟨0,true,[.str n,I64 z,B6 o l.length,I64 p]⟩).upd t (paB L E u)) o ⟨4,true,A4 (l.map Hd.v)⟩ t=some (paB L E u):=by rw [D2 (fun i hi=>by have:=ho i hi;omega),A0]
  have hbx:(C5 (((H.upd cc ⟨0,true,[.str [],I64 0,.snil,I64 0]⟩).upd c1 ⟨0,true,[.str n,I64 z,B6 o l.length,I64 p]⟩).upd t (paB L E u)) o ⟨4,true,A4 (l.map Hd.v)⟩) c1=some ⟨0,true,[.str n,I64 z,B6 o l.length,I64 p]⟩:=by rw [D2 (fun i hi=>by have:=ho i hi;omega),A3 (by omega),A0]
  have hbo:∀ i:Nat,o=some i->(C5 (((H.upd cc ⟨0,true,[.str [],I64 0,.snil,I64 0]⟩).upd c1 ⟨0,true,[.str n,I64 z,B6 o l.length,I64 p]⟩).upd t (paB L E u)) o ⟨4,true,A4 (l.map Hd.v)⟩) i=some ⟨4,true,A4 (l.map Hd.v)⟩:=fun i hi=>by subst hi;exact A0
  have hbj:∀ j:Nat,j<cc->¬ j=t->(C5 (((H.upd cc ⟨0,true,[.str [],I64 0,.snil,I64 0]⟩).upd c1 ⟨0,true,[.str n,I64 z,B6 o l.length,I64 p]⟩).upd t (paB L E u)) o ⟨4,true,A4 (l.map Hd.v)⟩) j=H j:=fun j h1 h2=>by rw [D2 (fun i hi=>by have:=ho i hi;omega),A3 h2,A3 (by omega),A3 (by omega)]
  have hb0:(C5 (((H.upd cc ⟨0,true,[.str [],I64 0,.snil,I64 0]⟩).upd c1 ⟨0,true,[.str n,I64 z,B6 o l.length,I64 p]⟩).upd t (paB L E u)) o ⟨4,true,A4 (l.map Hd.v)⟩) cc=some ⟨0,true,[.str [],I64 0,.snil,I64 0]⟩:=by rw [D2 (fun i hi=>by have:=ho i hi;omega),A3 (by omega),A3 (by omega),A0]
  have hbn:∀ j:Nat,c<=j->(C5 (((H.upd cc ⟨0,true,[.str [],I64 0,.snil,I64 0]⟩).upd c1 ⟨0,true,[.str n,I64 z,B6 o l.length,I64 p]⟩).upd t (paB L E u)) o ⟨4,true,A4 (l.map Hd.v)⟩) j=none:=fun j h1=>by rw [D2 (fun i hi=>by have:=ho i hi;omega),A3 (by omega),A3 (by omega),A3 (by omega)];exact hfr _ (by omega)
  have hT:(B6 o l.length).one=true:=by cases o<;>rfl
  have hlen:A5z (B6 o l.length)=some (I64 l.length):=by
   cases o with
   | none=>rw [hno rfl];rfl
   | some b=>rfl
  generalize hHH:C5 (((H.upd cc ⟨0,true,[.str [],I64 0,.snil,I64 0]⟩).upd c1 ⟨0,true,[.str n,I64 z,B6 o l.length,I64 p]⟩).upd t (paB L E u)) o ⟨4,true,A4 (l.map Hd.v)⟩=HH at hHt hbx hbo hbj hb0 hbn ⊢;have fin:∀ (u2:Rd) (e:DV) (x:Blk) (q1 q2:DV),GL ((HH.upd t (paB L E u2)).upd cc x) [.agg [q1,q2,B6 o l.length,e]] (H.upd t (paB L E u2)) [.agg [q1,q2,T8 l,e]]:=fun u2 e x q1 q2 =>
   C2o (cc:=cc) l (C0 hfr htc) (fun i hi=>by have:=ho i hi;omega) hno (fun i hi=>by have:=ho i hi;rw [A3 (by omega),A3 (by omega)];exact hbo i hi) (fun j hj=>by
    rw [A3 (by omega)];by_cases e1:j=t
    ·subst e1;rw [A0,A0]
    ·rw [A3 e1,A3 e1,hbj j hj e1])
  repeat' ((with_reducible first|refine wr ?_|refine A2 ?_ ?_|fail)<;>try simp only [go_sem,seval])
  refine AC.call (c_pisO L E u HH _ t c (hbn c (A0E _)) hHt (by omega) 2 [[111,110]] (by simp)) ?_;rintro v H' c6 ⟨rfl,rfl⟩ hc6;have hend:isP L E u 2 [[111,110]]=false->Eqv (F8 L E u 5 [125]) s4/\(okR s4=true->l=hl):=fun hon=>by
   rcases hv with ⟨hok,hv⟩|⟨hok,hv⟩
   ·cases g with
    | zero=>simp [N6] at hv
    | succ g =>
     unfold N6 at hv;dsimp only at hv;by_cases hb:isR L E u [125]=false
     ·rw [if_pos ⟨hok,hb⟩,if_pos (by rw [W8 hK (by decide +kernel)];exact hon)] at hv;cases hv;have hw:F8 L E u 5 [125]=O3 L E u:=by rw [F8, <- G5 hK (by decide +kernel),if_pos hb];rfl
      rw [hw];exact ⟨.refl _,fun _=>rfl⟩
     ·rw [if_neg (fun hh=>hb hh.2)] at hv;cases hv;rw [A1l hK (by decide +kernel)];exact ⟨.refl _,fun _=>rfl⟩
   ·rw [A7q hok];exact ⟨hv,fun k=>by rw [<- hv.ok,hok] at k;cases k⟩
  cases hon:isP L E u 2 [[111,110]] with
  | false =>
   obtain ⟨r1,r2⟩:=hend hon;have b7:=(hPu.want (E:=E) (k:=5) (w:=[125]) (by decide)).1;simp only [go_sem,seval,hon];repeat' ((with_reducible first|refine wr ?_|refine A2 ?_ ?_|fail)<;>try simp only [go_sem,seval,hon])
   refine AC.call (c_want L E u _ _ t hHt (by omega) (by omega) 5 [125]) ?_;rintro v H' c7 ⟨rfl,rfl⟩ hc7;simp only [go_sem,seval,ne0,A0,hbx,hb0,hT];repeat' ((with_reducible first|refine wr ?_|refine A2 ?_ ?_|fail)<;>try simp only [go_sem,seval,ne0,A0,hbx,hb0,hT])
   refine C4 (A5n (by rfl) (by decide) (by clear hHH;cases o<;>rfl)) ?_;simp only [go_sem,seval,ne0,A0];repeat' ((with_reducible first|refine wr ?_|refine A2 ?_ ?_|fail)<;>try simp only [go_sem,seval,ne0,A0])
   rw [D9 (rv4 rfl A0)];exact ⟨_,_,fin _ _ _ _ _,⟨n,z,l,p⟩,_,rfl,rfl,r1,fun k=>(by rw [r2 k]),b7⟩
  | true =>
   obtain ⟨hok,hlt,hkd2⟩:=T7 (by decide) hon;have hv:N6 L E g l u=some (hl,s4):=by
    rcases hv with ⟨-,hv⟩|⟨hn, -⟩
    ·exact hv
    ·rw [hok] at hn;cases hn
   have hnb:isR L E u [125]=false:=by
    rw [G5 hK (by decide +kernel)];unfold isP;rw [hkd2];simp
   have honR:isR L E u [111,110]=true:=by rw [W8 hK (by decide +kernel)];exact hon
   cases g with
   | zero=>simp [N6] at hv
   | succ g =>
   by_cases h32:l.length=32
   ·have hd32:((l.length:Int) == 32)=true:=by simp;omega
    have hs4:s4=pfl L E u 9:=by
     unfold N6 at hv;dsimp only at hv;have hl9:C7 L E u ((l.length:Int)+1) 32 9=pfl L E u 9:=by rw [X9,if_pos (by omega)]
     have hnk:okR (pfl L E u 9)=false:=by unfold pfl;exact Q8 (by decide)
     rw [if_pos ⟨hok,hnb⟩,if_neg (by simp [honR]),hl9,A5i hnk,B9,A1y hnk,if_pos (by decide),A7g hnk] at hv;cases hv;rfl
    have hnk:okR (pfl L E u 9)=false:=by unfold pfl;exact Q8 (by decide)
    simp only [go_sem,seval,hon];repeat' ((with_reducible first|refine wr ?_|refine A2 ?_ ?_|fail)<;>try simp only [go_sem,seval,hon,hbx,hlen,hd32])
    refine AC.call (c_pfail L E u _ _ t hHt (by omega) 9) ?_;rintro v H' c7 ⟨rfl,rfl⟩ hc7;have b7:=hPu.fl (E:=E) (e:=9);have hri7:=b7.i;simp only [go_sem,seval];repeat' ((with_reducible first|refine wr ?_|refine A2 ?_ ?_|fail)<;>try simp only [go_sem,seval])
    refine AC.call (c_want L E (pfl L E u 9) _ _ t A0 (by omega) (by omega) 5 [125]) ?_;rintro v H' c8 ⟨rfl,rfl⟩ hc8;rw [A7q hnk,A1];simp only [go_sem,seval,ne0,A0,hbx,hb0,hT];repeat' ((with_reducible first|refine wr ?_|refine A2 ?_ ?_|fail)<;>try simp only [go_sem,seval,ne0,A0,hbx,hb0,hT])
    refine C4 (A5n (by rfl) (by decide) (by clear hHH;cases o<;>rfl)) ?_;simp only [go_sem,seval,ne0,A0];repeat' ((with_reducible first|refine wr ?_|refine A2 ?_ ?_|fail)<;>try simp only [go_sem,seval,ne0,A0])
    rw [D9 (rv4 rfl A0)];refine ⟨_,_,fin _ _ _ _ _,⟨n,z,l,p⟩,_,rfl,rfl,by rw [hs4];exact .refl _,fun k=>?_,b7⟩;rw [hs4,hnk] at k;cases k
   have hd32:((l.length:Int) == 32)=false:=by simp;omega
   obtain ⟨q,hq1,hq2,hq3⟩:=C1x hok hnb honR (by omega) hv;simp only [go_sem,seval,hon];repeat' ((with_reducible first|refine wr ?_|refine A2 ?_ ?_|fail)<;>try simp only [go_sem,seval,hon,hbx,hlen,hd32])
   refine AC.call (c_phand L E hL hK g u q hq1 hPu hon _ _ t hHt (by omega)) ?_;rintro v H' c7 ⟨x,s5,rfl,rfl,y1,y2,y3⟩ hc7;have ne0:=P0 t cc c1 (c6+4) c7 (by omega);simp only [go_sem,seval,ne0,A0,A1,hbx];repeat' ((with_reducible first|refine wr ?_|refine A2 ?_ ?_|fail)<;>try simp only [go_sem,seval,ne0,A0,A1,hbx])
   refine ⟨⟨by rw [A3 (by omega)];exact hbn _ (by omega),by rw [A3 (by omega)];exact hbn _ (by omega)⟩,?_⟩;have hl4:(A4 (l.map Hd.v)).length=l.length * 4:=B5 (u:=4) (V9 _) |>.trans (by simp);refine M9 (E6 (cs:=A4 (l.map Hd.v)) (fun e=>by rw [hno e];exact ⟨rfl,rfl⟩) (fun i hi=>?_) hl4 (by omega) (by omega) (by omega)) ?_
   ·have:=ho i hi
    repeat rw [A3 (by omega)]
    exact hbo i hi
   have hdx:∀ X:Hp,K3 X o c1=X c1:=fun X=>E0 (fun i hi=>by have:=ho i hi;omega);simp only [go_sem,seval,ne0,A0,A1,hdx,hbx];repeat' ((with_reducible first|refine wr ?_|refine A2 ?_ ?_|fail)<;>try simp only [go_sem,seval,ne0,A0,A1,hdx,hbx])
   refine ⟨(g,some c7,l++[x],s5),?_,inv ⟨by omega,by simp only;omega,(fun h=>by cases h),(fun i hi=>by cases hi;omega),by simp only [A0A,A0F];omega,y3,?_⟩,by simp only;omega⟩
   ·intro j b hj;simp only [C5,A1o,A0A,A0F,A0M,C6] at hj;by_cases e1:j=c7
    ·subst e1;rw [A0] at hj;rw [A3 (by omega),A0, <- hj];rfl
    rw [A3 e1] at hj;by_cases e2:j=t
    ·subst e2;rw [A0] at hj;rw [A3 (by omega),A3 (by omega),E0 (fun i hi=>by have:=ho i hi;omega),A3 (by omega),A0];exact hj
    rw [A3 e2] at hj;by_cases e3:j=c1
    ·subst e3;rw [A0] at hj ⊢;exact hj
    rw [A3 e3] at hj ⊢;by_cases e4:j=cc
    ·subst e4;rw [A0] at hj;rw [A3 (by omega),E0 (fun i hi=>by have:=ho i hi;omega)]
     repeat rw [A3 (by omega)]
     rw [hb0];exact hj
    ·rw [A3 e4] at hj;have hjc:j<cc:=Classical.byContradiction fun h=>by rw [hfr j (by omega)] at hj;cases hj
     rw [A3 (by omega),E0 (fun i hi=>by have:=ho i hi;omega)]
     repeat rw [A3 (by omega)]
     rw [hbj j hjc e2];exact hj
   ·dsimp only;cases k:okR q.2 with
    | true =>
     have e5:=y1.s k;rw [y2 k,e5];exact .inl ⟨k,hq2 k⟩
    | false =>
     have e5:=hq3 k;dsimp only at e5;rw [e5];exact .inr ⟨by rw [y1.ok,k],y1⟩
theorem A7h {L:List Tok} {E:Int} {g:Nat} {l:List Md} {s:Rd} {r:List Md × Rd} (h:N2 L E g l s=some r) (ho:okR s=false):r=(l,s):=by
 cases g with
 | zero=>simp [N2] at h
 | succ g =>
  unfold N2 at h;dsimp only at h;rw [ho,if_neg (by simp)] at h;cases h;rfl
theorem B7e {L:List Tok} {E:Int} {g:Nat} {l:List Dc} {s:Rd} {r:List Dc × Rd} (h:P3 L E g l s=some r) (ho:okR s=false):r=(l,s):=by
 cases g with
 | zero=>simp [P3] at h
 | succ g =>
  unfold P3 at h;dsimp only at h;rw [B9,A1y ho,if_pos (by decide)] at h;cases h;rfl
theorem C1g {L:List Tok} {E:Int} (hK:∀ t∈L,J2 t) {s:Rd} {w:List UInt8} (hw:F6 w=false) (h:PI L s):PI L (D6 L E s w):=by
 rw [<- A1l hK hw];exact (h.want (by decide)).1
theorem D0h {L:List Tok} {E:Int} (hK:∀ t∈L,J2 t) {s:Rd} {k:Int} (h:PI L s) (hi:s.i<L.length):PI L (Q9 L E k s).2:=by
 unfold Q9;dsimp only;have h1:=((h.nxt hi).take (E:=E) (x:=1) (by decide)).1;generalize (A9 L E (A8 s) 1).2=s2 at h1 ⊢;split
 ·have h2:PI L (if (k+1 == 6 && isR L E s2 [45])=true then A8 s2 else s2):=by
   split
   ·rename_i hh;simp only [A0D] at hh;exact h1.nxt (Z3 hh.2).2
   ·exact h1
  exact C1g hK (by decide +kernel) ((h2.take (E:=E) (x:=3) (by decide)).1)
 ·exact C1g hK (by decide +kernel) h1
theorem c_prules (L:List Tok) (E:Int) (hL:L.length<=1000000000) (hv0:∀ x∈L,0<=x.value/\x.value<=9223372036854775807) (hK:∀ t∈L,J2 t) (f:Nat) (s:Rd) (r:Ru × Rd) (h:A2e L E f s=some r) (hP:PI L s) :
  ∀ (H:Hp) (cc t:Nat),H t=some (paB L E s)->t<cc->AC Tryz.prog 73 [.ptr t 0] H cc (fun v H' c' => ∃ x s',v=Ru.v x/\H'=H.upd t (paB L E s')/\Eqv s' r.2/\(okR r.2=true->x=r.1)/\PI L s'):=by
 intro H cc t ht htc;refine AC.bodyT B1 rfl (A0B rfl) fun hfr=>?_;unfold A2e at h;cases hd:P3 L E f [] s with
 | none=>rw [hd] at h;cases h
 | some q =>
 obtain ⟨dl,s1⟩:=q;rw [hd] at h;dsimp only at h;cases hm:N2 L E f [] s1 with
 | none=>rw [hm] at h;cases h
 | some q =>
 obtain ⟨ml,s2⟩:=q;rw [hm] at h;cases h;have tail:∀ (o:Option Nat) (l:List Dc) (u:Rd) (c:Nat),cc+2<=c->(o=none->l=[])->(∀ i,o=some i->cc+1<i/\i<c)->PI L u->((okR u=true/\l=dl/\u=s1)\/(okR u=false/\Eqv u s1)) ->
   IW Tryz.prog 39 (pz Tryz.prog 73 (.o (.o (.o (.i .h))))) ⟨tm [(0,.ptr t 0),(2,.ptr cc 0),(3,.ptr (cc+1) 0)],C5 (((H.upd cc ⟨0,true,[.snil,.snil]⟩).upd t (paB L E u)).upd (cc+1) ⟨0,true,[B6 o l.length,.snil]⟩) o ⟨4,true,A4 (l.map Dc.v)⟩,c⟩ (rt [.cell 2 2 true] fun v H' c' => ∃ v2 H2,GL H' [v] H2 [v2]/\∃ x s',v2=Ru.v x/\H2=H.upd t (paB L E s')/\Eqv s' s2/\(okR s2=true->x=⟨dl,ml⟩)/\PI L s'):=by
  intro o l u c hc hno ho hPu hv;refine IW.keep [0,2,3] [.ptr t 0,.ptr cc 0,.ptr (cc+1) 0] (B7z (Hb:=(H.upd cc ⟨0,true,[.snil,.snil]⟩).upd t (paB L E u)) (ci:=cc+1) (u:=4) (pre:=[]) (suf:=[.snil]) (xs:=l.map Dc.v) (by simp [DV.one]) (fun h=>by rw [hno h];rfl) (fun i hi=>by have:=ho i hi;exact ⟨by omega,by rw [A3 (by omega),A3 (by omega)];exact hfr i (by omega)⟩) (by simp) (W1 _)) ?_;repeat' ((with_reducible first|refine wr ?_|refine A2 ?_ ?_|fail)<;>try simp only [go_sem,seval])
  refine D8 (fun q:Nat × Option Nat × List Md × Rd=>[(0,.ptr t 0),(2,.ptr cc 0),(3,.ptr (cc+1) 0)]) (fun q=>C5 (((H.upd cc ⟨0,true,[.snil,.snil]⟩).upd t (paB L E q.2.2.2)).upd (cc+1) ⟨0,true,[E8 l,B6 q.2.1 q.2.2.1.length]⟩) q.2.1 ⟨4,true,A4 (q.2.2.1.map Md.v)⟩)
   (fun q c=>cc+2<=c/\q.1<=f/\(q.2.1=none->q.2.2.1=[])/\(∀ i,q.2.1=some i->cc+1<i/\i<c)/\q.2.2.1.length<=16/\PI L q.2.2.2/\((okR q.2.2.2=true/\l=dl/\N2 L E q.1 q.2.2.1 q.2.2.2=some (ml,s2))\/(okR q.2.2.2=false/\Eqv q.2.2.2 s2))) (fun q=>q.1) (f,none,[],u)
   (by simp [C9,tm,Tm.upd]) (fun j b hj=>hj) ⟨by omega,A0E _,fun _=>rfl,(fun i hi=>by cases hi),by simp,hPu,by
    rcases hv with ⟨g1,g2,g3⟩|⟨g1,g2⟩
    ·exact .inl ⟨g1,g2,by dsimp only;rw [g3];exact hm⟩
    ·have:=A7h hm (by rw [<- g2.ok];exact g1);cases this;exact .inr ⟨g1,g2⟩⟩ ?_
  clear hv hno ho hPu;rintro ⟨g,o,m,u⟩ c ⟨hc,hg,hno,ho,hl1,hPu,hv⟩;dsimp only at hc hg hno ho hl1 hPu hv ⊢;have hriu:=hPu.i;have hlen:A5z (B6 o m.length)=some (I64 m.length):=by
   cases o with
   | none=>rw [hno rfl];rfl
   | some b=>rfl
  have hHt:C5 (((H.upd cc ⟨0,true,[.snil,.snil]⟩).upd t (paB L E u)).upd (cc+1) ⟨0,true,[E8 l,B6 o m.length]⟩) o ⟨4,true,A4 (m.map Md.v)⟩ t=some (paB L E u):=by rw [D2 (fun i hi=>by have:=ho i hi;omega),A3 (by omega),A0]
  have hbx:C5 (((H.upd cc ⟨0,true,[.snil,.snil]⟩).upd t (paB L E u)).upd (cc+1) ⟨0,true,[E8 l,B6 o m.length]⟩) o ⟨4,true,A4 (m.map Md.v)⟩ (cc+1)=some ⟨0,true,[E8 l,B6 o m.length]⟩:=by rw [D2 (fun i hi=>by have:=ho i hi;omega),A0]
  have hbo:∀ i:Nat,o=some i->C5 (((H.upd cc ⟨0,true,[.snil,.snil]⟩).upd t (paB L E u)).upd (cc+1) ⟨0,true,[E8 l,B6 o m.length]⟩) o ⟨4,true,A4 (m.map Md.v)⟩ i=some ⟨4,true,A4 (m.map Md.v)⟩:=fun i hi=>by subst hi;exact A0
  have hbj:∀ j:Nat,j<cc->¬ j=t->C5 (((H.upd cc ⟨0,true,[.snil,.snil]⟩).upd t (paB L E u)).upd (cc+1) ⟨0,true,[E8 l,B6 o m.length]⟩) o ⟨4,true,A4 (m.map Md.v)⟩ j=H j:=fun j h1 h2=>by rw [D2 (fun i hi=>by have:=ho i hi;omega),A3 (by omega),A3 h2,A3 (by omega)]
  have hb0:C5 (((H.upd cc ⟨0,true,[.snil,.snil]⟩).upd t (paB L E u)).upd (cc+1) ⟨0,true,[E8 l,B6 o m.length]⟩) o ⟨4,true,A4 (m.map Md.v)⟩ cc=some ⟨0,true,[.snil,.snil]⟩:=by rw [D2 (fun i hi=>by have:=ho i hi;omega),A3 (by omega),A3 (by omega),A0]
  have hbn:∀ j:Nat,c<=j->C5 (((H.upd cc ⟨0,true,[.snil,.snil]⟩).upd t (paB L E u)).upd (cc+1) ⟨0,true,[E8 l,B6 o m.length]⟩) o ⟨4,true,A4 (m.map Md.v)⟩ j=none:=fun j h1=>by rw [D2 (fun i hi=>by have:=ho i hi;omega),A3 (by omega),A3 (by omega),A3 (by omega)];exact hfr _ (by omega)
  have hT:(B6 o m.length).one=true:=by cases o<;>rfl
  generalize hHH:C5 (((H.upd cc ⟨0,true,[.snil,.snil]⟩).upd t (paB L E u)).upd (cc+1) ⟨0,true,[E8 l,B6 o m.length]⟩) o ⟨4,true,A4 (m.map Md.v)⟩=HH at hHt hbx hbo hbj hb0 hbn ⊢;have fin:∀ (u2:Rd) (x:Blk),GL ((HH.upd t (paB L E u2)).upd cc x) [.agg [E8 l,B6 o m.length]] (H.upd t (paB L E u2)) [.agg [E8 l,G6 m]]:=fun u2 x =>
   C2n (cc:=cc) m (C0 hfr htc) (fun i hi=>by have:=ho i hi;omega) hno (fun i hi=>by have:=ho i hi;rw [A3 (by omega),A3 (by omega)];exact hbo i hi) (fun j hj=>by
    rw [A3 (by omega)];by_cases e1:j=t
    ·subst e1;rw [A0,A0]
    ·rw [A3 e1,A3 e1,hbj j hj e1])
  have ne0:=O0 t cc (cc+1) (by omega);repeat' ((with_reducible first|refine wr ?_|refine A2 ?_ ?_|fail)<;>try simp only [go_sem,seval])
  refine AC.call (c_pisO L E u HH _ t c (hbn c (A0E _)) hHt (by omega) 2 [[109,111,100,101]] (by simp)) ?_;rintro v H' c2 ⟨rfl,rfl⟩ hc2;cases hmo:isP L E u 2 [[109,111,100,101]] with
  | false =>
   have hres:Eqv (if u.i<L.length then pfl L E u 4 else u) s2/\(okR s2=true->(⟨l,m⟩:Ru)=⟨dl,ml⟩):=by
    rcases hv with ⟨hok,g1,hv⟩|⟨hok,hv⟩
    ·cases g with
     | zero=>simp [N2] at hv
     | succ g =>
      unfold N2 at hv;dsimp only at hv;by_cases hlt:u.i<L.length
      ·rw [if_pos ⟨hok,hlt⟩,if_pos (by rw [W8 hK (by decide +kernel)];exact hmo)] at hv;cases hv;rw [if_pos hlt,g1];exact ⟨.refl _,fun _=>rfl⟩
      ·rw [if_neg (fun hh=>hlt hh.2)] at hv;cases hv;rw [if_neg hlt,g1];exact ⟨.refl _,fun _=>rfl⟩
    ·rw [show (if u.i<L.length then pfl L E u 4 else u)=u by rw [X7 hok];split<;>rfl];exact ⟨hv,fun k=>by rw [<- hv.ok,hok] at k;cases k⟩
   have b3:PI L (if u.i<L.length then pfl L E u 4 else u):=by
    split
    ·exact hPu.fl
    ·exact hPu
   simp only [go_sem,seval,hmo];repeat' ((with_reducible first|refine wr ?_|refine A2 ?_ ?_|fail)<;>try simp only [go_sem,seval,hmo])
   refine AC.call (c_pend L E u _ _ t hHt (by omega)) ?_;rintro v H' c3 ⟨rfl,rfl⟩ hc3;generalize (if u.i<L.length then pfl L E u 4 else u)=u3 at hres b3 ⊢;simp only [go_sem,seval,ne0,A0,hbx,hb0,hT];repeat' ((with_reducible first|refine wr ?_|refine A2 ?_ ?_|fail)<;>try simp only [go_sem,seval,ne0,A0,hbx,hb0,hT])
   refine C4 (A5n (by rfl) (by decide) (by clear hHH;cases o<;>rfl)) ?_;simp only [go_sem,seval,ne0,A0];repeat' ((with_reducible first|refine wr ?_|refine A2 ?_ ?_|fail)<;>try simp only [go_sem,seval,ne0,A0])
   rw [D9 (rv2 rfl A0)];exact ⟨_,_,fin _ _,⟨l,m⟩,u3,rfl,rfl,hres.1,hres.2,b3⟩
  | true =>
   obtain ⟨hok,hlt,hkd2⟩:=T7 (by decide) hmo;obtain ⟨hdl,hv⟩:l=dl/\N2 L E g m u=some (ml,s2):=by
    rcases hv with ⟨-,g1,hv⟩|⟨hn, -⟩
    ·exact ⟨g1,hv⟩
    ·rw [hok] at hn;cases hn
   have hmoR:isR L E u [109,111,100,101]=true:=by rw [W8 hK (by decide +kernel)];exact hmo
   cases g with
   | zero=>simp [N2] at hv
   | succ g =>
   unfold N2 at hv;dsimp only at hv;rw [if_pos ⟨hok,hlt⟩,if_neg (by simp [hmoR])] at hv;by_cases h16:m.length=16
   ·have hd16:((m.length:Int) == 16)=true:=by simp;omega
    have hl9:C7 L E u ((m.length:Int)+1) 16 9=pfl L E u 9:=by rw [X9,if_pos (by omega)]
    have hnk:okR (pfl L E u 9)=false:=by unfold pfl;exact Q8 (by decide)
    rw [hl9,if_neg (by rw [hnk];decide)] at hv;have e1:m=ml:=(congrArg Prod.fst (A7h hv hnk)).symm;have e2:pfl L E u 9=s2:=(congrArg Prod.snd (A7h hv hnk)).symm;subst e1 e2;have b3:=hPu.fl (E:=E) (e:=9);simp only [go_sem,seval,hmo];repeat' ((with_reducible first|refine wr ?_|refine A2 ?_ ?_|fail)<;>try simp only [go_sem,seval,hmo,hbx,hlen,hd16])
    refine AC.call (c_pfail L E u _ _ t hHt (by omega) 9) ?_;rintro v H' c3 ⟨rfl,rfl⟩ hc3;simp only [go_sem,seval];repeat' ((with_reducible first|refine wr ?_|refine A2 ?_ ?_|fail)<;>try simp only [go_sem,seval])
    refine AC.call (c_pend L E (pfl L E u 9) _ _ t A0 (by omega)) ?_;rintro v H' c4 ⟨rfl,rfl⟩ hc4;rw [show (if (pfl L E u 9).i<L.length then pfl L E (pfl L E u 9) 4 else pfl L E u 9)=pfl L E u 9 by rw [X7 hnk];split<;>rfl,A1];simp only [go_sem,seval,ne0,A0,hbx,hb0,hT];repeat' ((with_reducible first|refine wr ?_|refine A2 ?_ ?_|fail)<;>try simp only [go_sem,seval,ne0,A0,hbx,hb0,hT])
    refine C4 (A5n (by rfl) (by decide) (by clear hHH;cases o<;>rfl)) ?_;simp only [go_sem,seval,ne0,A0];repeat' ((with_reducible first|refine wr ?_|refine A2 ?_ ?_|fail)<;>try simp only [go_sem,seval,ne0,A0])
    rw [D9 (rv2 rfl A0)];exact ⟨_,_,fin _ _,⟨l,m⟩,_,rfl,rfl,.refl _,fun k=>(by rw [hnk] at k;cases k),b3⟩
   have hd16:((m.length:Int) == 16)=false:=by simp;omega
   rw [A0t (by omega),if_pos hok] at hv;cases hmd:A0s L E g u with
   | none=>rw [hmd] at hv;cases hv
   | some qm =>
   obtain ⟨md,u2⟩:=qm;rw [hmd] at hv;dsimp only at hv;simp only [go_sem,seval,hmo];repeat' ((with_reducible first|refine wr ?_|refine A2 ?_ ?_|fail)<;>try simp only [go_sem,seval,hmo,hbx,hlen,hd16])
   refine AC.call (c_pmode L E hL hK g u (md,u2) hmd hPu hmo _ _ t hHt (by omega)) ?_;rintro v H' c3 ⟨x,s5,rfl,rfl,y1,y2,y3⟩ hc3;dsimp only at y1 y2;have ne0:=P0 t cc (cc+1) (c2+4) c3 (by omega);simp only [go_sem,seval,ne0,A0,A1,hbx];repeat' ((with_reducible first|refine wr ?_|refine A2 ?_ ?_|fail)<;>try simp only [go_sem,seval,ne0,A0,A1,hbx])
   refine ⟨⟨by rw [A3 (by omega)];exact hbn _ (by omega),by rw [A3 (by omega)];exact hbn _ (by omega)⟩,?_⟩;have hl4:(A4 (m.map Md.v)).length=m.length * 4:=B5 (u:=4) (A0g _) |>.trans (by simp);refine M9 (E6 (cs:=A4 (m.map Md.v)) (fun e=>by rw [hno e];exact ⟨rfl,rfl⟩) (fun i hi=>by have:=ho i hi;rw [A3 (by omega),A3 (by omega)];exact hbo i hi) hl4 (by omega) (by omega) (by omega)) ?_;have hdx:∀ X:Hp,K3 X o (cc+1)=X (cc+1):=fun X=>E0 (fun i hi=>by have:=ho i hi;omega);simp only [go_sem,seval,ne0,A0,A1,hdx,hbx];repeat' ((with_reducible first|refine wr ?_|refine A2 ?_ ?_|fail)<;>try simp only [go_sem,seval,ne0,A0,A1,hdx,hbx])
   refine ⟨(g,some c3,m++[x],s5),?_,inv ⟨by omega,by simp only;omega,(fun h=>by cases h),(fun i hi=>by cases hi;omega),by simp only [A0A,A0F];omega,y3,?_⟩,by simp only;omega⟩
   ·intro j b hj;simp only [C5,A1o,A0A,A0F,A0M,C6] at hj;by_cases e1:j=cc+1
    ·subst e1;by_cases e3:cc+1=c3
     ·omega
     rw [A3 e3,A0] at hj;rw [A0];exact hj
    rw [A3 e1];by_cases e0:j=c3
    ·subst e0;rw [A0] at hj;rw [A0, <- hj];rfl
    rw [A3 e0] at hj ⊢;rw [A3 e1] at hj;by_cases e2:j=t
    ·subst e2;rw [A0] at hj;rw [E0 (fun i hi=>by have:=ho i hi;omega),A3 (by omega),A0];exact hj
    rw [A3 e2] at hj;by_cases e4:j=cc
    ·subst e4;rw [A0] at hj;rw [E0 (fun i hi=>by have:=ho i hi;omega)]
     repeat rw [A3 (by omega)]
     rw [hb0];exact hj
    ·rw [A3 e4] at hj;have hjc:j<cc:=Classical.byContradiction fun h=>by rw [hfr j (by omega)] at hj;cases hj
     rw [E0 (fun i hi=>by have:=ho i hi;omega)]
     repeat rw [A3 (by omega)]
     rw [hbj j hjc e2];exact hj
   ·dsimp only;cases k:okR u2 with
    | true =>
     rw [y2 k,y1.s k];exact .inl ⟨k,hdl,hv⟩
    | false =>
     cases A7h hv k;exact .inr ⟨by rw [y1.ok,k],y1⟩
 have ne0:=O0 t cc (cc+1) (by omega);repeat' ((with_reducible first|refine wr ?_|refine A2 ?_ ?_|fail)<;>try simp only [go_sem,seval,ne0,A0,A1])
 refine D8 (fun q:Nat × Option Nat × List Dc × Rd=>[(0,.ptr t 0),(2,.ptr cc 0),(3,.ptr (cc+1) 0)]) (fun q=>C5 (((H.upd cc ⟨0,true,[.snil,.snil]⟩).upd t (paB L E q.2.2.2)).upd (cc+1) ⟨0,true,[B6 q.2.1 q.2.2.1.length,.snil]⟩) q.2.1 ⟨4,true,A4 (q.2.2.1.map Dc.v)⟩)
  (fun q c=>cc+2<=c/\q.1<=f/\(q.2.1=none->q.2.2.1=[])/\(∀ i,q.2.1=some i->cc+1<i/\i<c)/\q.2.2.1.length<=128/\PI L q.2.2.2/\P3 L E q.1 q.2.2.1 q.2.2.2=some (dl,s1)) (fun q=>q.1) (f,none,[],s)
  (by simp [C9,tm,Tm.upd]) (fun j b hj=>?_) ⟨by omega,A0E _,fun _=>rfl,(fun i hi=>by cases hi),by simp,hP,hd⟩ ?_
 ·simp only [C5,A5r] at hj;by_cases e1:j=cc+1
  ·subst e1;rw [A0] at hj ⊢;exact hj
  ·rw [A3 e1] at hj ⊢;by_cases e2:j=t
   ·subst e2;rw [A0] at hj;rw [A3 (by omega),ht];exact hj
   ·rw [A3 e2] at hj;exact hj
 clear hd;rintro ⟨g,o,l,u⟩ c ⟨hc,hg,hno,ho,hl1,hPu,hv⟩;dsimp only at hc hg hno ho hl1 hPu hv ⊢;cases g with
 | zero=>simp [P3] at hv
 | succ g =>
 unfold P3 at hv;dsimp only at hv;have hriu:=hPu.i;have hlen:A5z (B6 o l.length)=some (I64 l.length):=by
  cases o with
  | none=>rw [hno rfl];rfl
  | some b=>rfl
 have hHt:C5 (((H.upd cc ⟨0,true,[.snil,.snil]⟩).upd t (paB L E u)).upd (cc+1) ⟨0,true,[B6 o l.length,.snil]⟩) o ⟨4,true,A4 (l.map Dc.v)⟩ t=some (paB L E u):=by rw [D2 (fun i hi=>by have:=ho i hi;omega),A3 (by omega),A0]
 have hbx:C5 (((H.upd cc ⟨0,true,[.snil,.snil]⟩).upd t (paB L E u)).upd (cc+1) ⟨0,true,[B6 o l.length,.snil]⟩) o ⟨4,true,A4 (l.map Dc.v)⟩ (cc+1)=some ⟨0,true,[B6 o l.length,.snil]⟩:=by rw [D2 (fun i hi=>by have:=ho i hi;omega),A0]
 have hbo:∀ i:Nat,o=some i->C5 (((H.upd cc ⟨0,true,[.snil,.snil]⟩).upd t (paB L E u)).upd (cc+1) ⟨0,true,[B6 o l.length,.snil]⟩) o ⟨4,true,A4 (l.map Dc.v)⟩ i=some ⟨4,true,A4 (l.map Dc.v)⟩:=fun i hi=>by subst hi;exact A0
 have hbj:∀ j:Nat,j<cc->¬ j=t->C5 (((H.upd cc ⟨0,true,[.snil,.snil]⟩).upd t (paB L E u)).upd (cc+1) ⟨0,true,[B6 o l.length,.snil]⟩) o ⟨4,true,A4 (l.map Dc.v)⟩ j=H j:=fun j h1 h2=>by rw [D2 (fun i hi=>by have:=ho i hi;omega),A3 (by omega),A3 h2,A3 (by omega)]
 have hb0:C5 (((H.upd cc ⟨0,true,[.snil,.snil]⟩).upd t (paB L E u)).upd (cc+1) ⟨0,true,[B6 o l.length,.snil]⟩) o ⟨4,true,A4 (l.map Dc.v)⟩ cc=some ⟨0,true,[.snil,.snil]⟩:=by rw [D2 (fun i hi=>by have:=ho i hi;omega),A3 (by omega),A3 (by omega),A0]
 have hbn:∀ j:Nat,c<=j->C5 (((H.upd cc ⟨0,true,[.snil,.snil]⟩).upd t (paB L E u)).upd (cc+1) ⟨0,true,[B6 o l.length,.snil]⟩) o ⟨4,true,A4 (l.map Dc.v)⟩ j=none:=fun j h1=>by rw [D2 (fun i hi=>by have:=ho i hi;omega),A3 (by omega),A3 (by omega),A3 (by omega)];exact hfr _ (by omega)
 have hsub:∀ z,Sub (C5 (((H.upd cc ⟨0,true,[.snil,.snil]⟩).upd t (paB L E z)).upd (cc+1) ⟨0,true,[B6 o l.length,.snil]⟩) o ⟨4,true,A4 (l.map Dc.v)⟩) ((C5 (((H.upd cc ⟨0,true,[.snil,.snil]⟩).upd t (paB L E u)).upd (cc+1) ⟨0,true,[B6 o l.length,.snil]⟩) o ⟨4,true,A4 (l.map Dc.v)⟩).upd t (paB L E z)):=fun z j b hj=>by
  by_cases e2:j=t
  ·subst e2;rw [D2 (fun i hi=>by have:=ho i hi;omega),A3 (by omega),A0] at hj;rw [A0];exact hj
  ·rw [A3 e2];cases o with
   | none =>
    simp only [C5] at hj ⊢;by_cases e1:j=cc+1
    ·subst e1;rw [A0] at hj ⊢;exact hj
    ·rw [A3 e1,A3 e2] at hj ⊢;exact hj
   | some i =>
    simp only [C5] at hj ⊢;by_cases e0:j=i
    ·subst e0;rw [A0] at hj ⊢;exact hj
    rw [A3 e0] at hj ⊢;by_cases e1:j=cc+1
    ·subst e1;rw [A0] at hj ⊢;exact hj
    ·rw [A3 e1,A3 e2] at hj ⊢;exact hj
 have htail:=tail o l;generalize hHH:C5 (((H.upd cc ⟨0,true,[.snil,.snil]⟩).upd t (paB L E u)).upd (cc+1) ⟨0,true,[B6 o l.length,.snil]⟩) o ⟨4,true,A4 (l.map Dc.v)⟩=HH at hHt hbx hbo hbj hb0 hbn hsub ⊢;have hpa:=A7m (A3z (E:=E) hK u (l:=D1) (by decide +kernel));repeat' ((with_reducible first|refine wr ?_|refine cpc c_pdecls ?_|refine A2 ?_ ?_|fail)<;>try simp only [go_sem,seval])
 refine AC.call (c_pis L E u _ _ t hHt (by omega) 2 D1 (by decide)) ?_;rintro v H' c2 ⟨rfl,rfl⟩ hc2;by_cases hk:B9 L E u D1<0
 ·have hpf:isP L E u 2 D1=false:=by rw [hpa];exact decide_eq_false (by omega)
  rw [if_pos hk] at hv;have e1:l=dl:=congrArg Prod.fst (Option.some.inj hv);have e2:u=s1:=congrArg Prod.snd (Option.some.inj hv);subst e1 e2;simp only [go_sem,seval,hpf];repeat' ((with_reducible first|refine F9 (p:=IW _ _ (pz Tryz.prog 73 (.o (.o (.o (.i .h))))) _ _) ?_|refine wr ?_|refine A2 ?_ ?_|fail)<;>try simp only [go_sem,seval,hpf])
  rw [<- hHH];refine IW.stage (by simp [C9,tm,Tm.upd]) (htail u c2 (by omega) hno (fun i hi=>by have:=ho i hi;omega) hPu ?_);cases ho:okR u with
  | true=>exact .inl ⟨rfl,rfl,rfl⟩
  | false=>exact .inr ⟨rfl,.refl _⟩
 have hpt:isP L E u 2 D1=true:=by rw [hpa];exact decide_eq_true (by omega)
 obtain ⟨hok,hlt, -⟩:=T7 (by decide) hpt;rw [if_neg hk] at hv;by_cases h128:l.length=128
 ·have hd128:((l.length:Int) == 128)=true:=by simp;omega
  have hl9:C7 L E u ((l.length:Int)+1) 128 9=pfl L E u 9:=by rw [X9,if_pos (by omega)]
  have hnk:okR (pfl L E u 9)=false:=by unfold pfl;exact Q8 (by decide)
  rw [hl9,if_neg (by rw [hnk];decide)] at hv;have e1:l=dl:=(congrArg Prod.fst (B7e hv hnk)).symm;have e2:pfl L E u 9=s1:=(congrArg Prod.snd (B7e hv hnk)).symm;subst e1 e2;simp only [go_sem,seval,hpt];repeat' ((with_reducible first|refine wr ?_|refine A2 ?_ ?_|fail)<;>try simp only [go_sem,seval,hpt,hbx,hlen,hd128])
  refine AC.call (c_pfail L E u _ _ t hHt (by omega) 9) ?_;rintro v H' c3 ⟨rfl,rfl⟩ hc3;simp only [go_sem,seval];repeat' ((with_reducible first|refine F9 (p:=IW _ _ (pz Tryz.prog 73 (.o (.o (.o (.i .h))))) _ _) ?_|refine wr ?_|refine A2 ?_ ?_|fail)<;>try simp only [go_sem,seval])
  exact IW.weaken (W5 (by simp [C9,tm,Tm.upd])) (hsub _) (htail (pfl L E u 9) c3 (by omega) hno (fun i hi=>by have:=ho i hi;omega) hPu.fl (.inr ⟨hnk,.refl _⟩))
 have hd128:((l.length:Int) == 128)=false:=by simp;omega
 rw [A0t (by omega),if_pos hok] at hv;simp only [go_sem,seval,hpt];repeat' ((with_reducible first|refine wr ?_|refine A2 ?_ ?_|fail)<;>try simp only [go_sem,seval,hpt,hbx,hlen,hd128])
 refine AC.call (c_pdecl L E u _ _ t hHt (by omega) hL hv0 hK hpt) ?_;rintro v H' c3 ⟨rfl,rfl⟩ hc3;have y3:=D0h (E:=E) (k:=B9 L E u D1) hK hPu hlt;generalize Q9 L E (B9 L E u D1) u=Q at hv y3 ⊢;obtain ⟨dc,u2⟩:=Q;dsimp only at hv y3 ⊢;have ne0:=P0 t cc (cc+1) (c2+4) c3 (by omega);simp only [go_sem,seval,ne0,A0,A1,hbx];repeat' ((with_reducible first|refine wr ?_|refine A2 ?_ ?_|fail)<;>try simp only [go_sem,seval,ne0,A0,A1,hbx])
 refine ⟨⟨by rw [A3 (by omega)];exact hbn _ (by omega),by rw [A3 (by omega)];exact hbn _ (by omega)⟩,?_⟩;have hl4:(A4 (l.map Dc.v)).length=l.length * 4:=B5 (u:=4) (W1 _) |>.trans (by simp);refine M9 (E6 (cs:=A4 (l.map Dc.v)) (fun e=>by rw [hno e];exact ⟨rfl,rfl⟩) (fun i hi=>by have:=ho i hi;rw [A3 (by omega),A3 (by omega)];exact hbo i hi) hl4 (by omega) (by omega) (by omega)) ?_;have hdx:∀ X:Hp,K3 X o (cc+1)=X (cc+1):=fun X=>E0 (fun i hi=>by have:=ho i hi;omega);simp only [go_sem,seval,ne0,A0,A1,hdx,hbx];repeat' ((with_reducible first|refine wr ?_|refine A2 ?_ ?_|fail)<;>try simp only [go_sem,seval,ne0,A0,A1,hdx,hbx])
 refine ⟨(g,some c3,l++[dc],u2),?_,inv ⟨by omega,by simp only;omega,(fun h=>by cases h),(fun i hi=>by cases hi;omega),by simp only [A0A,A0F];omega,y3,hv⟩,by simp only;omega⟩;intro j b hj;simp only [C5,A1o,A0A,A0F,A0M,C6] at hj;by_cases e1:j=cc+1
 ·subst e1;by_cases e3:cc+1=c3
  ·omega
  rw [A3 e3,A0] at hj;rw [A0];exact hj
 rw [A3 e1];by_cases e0:j=c3
 ·subst e0;rw [A0] at hj;rw [A0, <- hj];rfl
 rw [A3 e0] at hj ⊢;rw [A3 e1] at hj;by_cases e2:j=t
 ·subst e2;rw [A0] at hj;rw [E0 (fun i hi=>by have:=ho i hi;omega),A3 (by omega),A0];exact hj
 rw [A3 e2] at hj;by_cases e4:j=cc
 ·subst e4;rw [A0] at hj;rw [E0 (fun i hi=>by have:=ho i hi;omega)]
  repeat rw [A3 (by omega)]
  rw [hb0];exact hj
 ·rw [A3 e4] at hj;have hjc:j<cc:=Classical.byContradiction fun h=>by rw [hfr j (by omega)] at hj;cases hj
  rw [E0 (fun i hi=>by have:=ho i hi;omega)]
  repeat rw [A3 (by omega)]
  rw [hbj j hjc e2];exact hj
theorem PI0 {L:List Tok}:PI L rd0:=⟨A0Y _,A2X 0,(by decide:(0:Int)<=32),A2X 0,(by decide:(0:Int)<=16)⟩
theorem c_PParse (s:List UInt8) (hs:s.length<=100000):PC Tryz.prog 36 [.str s] (C4z (B3k s)):=by
 refine PC.ofT B1 rfl (A0B rfl) rfl (C4y _) ?_;have hsc:=c_Scan s hs;by_cases h0:(E7 s).2.2=0
 ·have hd:((E7 s).2.2 != 0)=false:=by simpa using h0
  repeat' ((with_reducible first|refine wr ?_|refine cpc hsc ?_|refine A2 ?_ ?_|fail)<;>try simp only [go_sem,seval,hd])
  obtain ⟨f,hf⟩:=(A5s (E7 s).1 s.length).get;refine AC.call (c_prules (E7 s).1 s.length (by have:=B7c h0;omega) (C0j h0) (A9v h0) f rd0 _ hf PI0 _ _ 1 rfl (by decide)) ?_;rintro v H' c2 ⟨x,s',rfl,rfl,q1,q2,q3⟩ hc2;have hM:B3k s=if okR (A0a (E7 s).1 s.length).2=false then (Ru0,(A0a (E7 s).1 s.length).2.pos,(A0a (E7 s).1 s.length).2.e) else ((A0a (E7 s).1 s.length).1,0,0):=by
   unfold B3k;dsimp only;rw [if_neg (by simpa using h0)]
  rw [hM];generalize A0a (E7 s).1 s.length=w at q1 q2 ⊢;clear hM hf;have ne0:=O0 0 1 c2 (by omega);simp only [go_sem,seval,ne0,A0,A1];repeat' ((with_reducible first|refine wr ?_|refine A2 ?_ ?_|fail)<;>try simp only [go_sem,seval,ne0,A0,A1])
  refine AC.call (c_pok (E7 s).1 s.length s' _ _ 1 (by rw [A3 (by omega)];exact A0) (by omega)) ?_;rintro v H' c3 ⟨rfl,rfl⟩ hc3;cases hok:okR w.2 with
  | true =>
   obtain rfl:=q2 hok;have hok':okR s'=true:=by rw [q1.ok,hok]
   rw [if_neg (by decide)];simp only [go_sem,seval,hok',ne0,A0,A1];repeat' ((with_reducible first|refine wr ?_|refine A2 ?_ ?_|fail)<;>try simp only [go_sem,seval,hok',ne0,A0,A1])
   rw [D9 (v:=C4z (w.1,0,0)) rfl];exact ⟨_,GL.refl _ _⟩
  | false =>
   have hok':okR s'=false:=by rw [q1.ok,hok]
   rw [if_pos rfl, <- q1.p, <- q1.e];simp only [go_sem,seval,hok',ne0,A0,A1];repeat' ((with_reducible first|refine wr ?_|refine A2 ?_ ?_|fail)<;>try simp only [go_sem,seval,hok',ne0,A0,A1])
   repeat refine ⟨by and_intros<;>(repeat rw [A3 (by omega)])<;>rfl,?_⟩
   repeat' ((with_reducible first|refine wr ?_|refine A2 ?_ ?_|fail)<;>try simp only [go_sem,seval,hok',ne0,A0,A1])
   rw [D9 (v:=.tup [.agg [.snil,.snil],I64 s'.pos,I64 s'.e]) rfl];exact C1k
 ·have hd:((E7 s).2.2 != 0)=true:=by simpa using h0
  have hM:B3k s=(Ru0,(E7 s).2.1,(E7 s).2.2):=by
   unfold B3k;dsimp only;rw [if_pos h0]
  rw [hM];repeat' ((with_reducible first|refine wr ?_|refine cpc hsc ?_|refine A2 ?_ ?_|fail)<;>try simp only [go_sem,seval,hd])
  rw [D9 (v:=.tup [.agg [.snil,.snil],I64 (E7 s).2.1,I64 (E7 s).2.2]) rfl];exact C1k
theorem c_PParseE (s:List UInt8) (hs:s.length<=100000):PC Tryz.prog 33 [.str s] (C1n (B1n s)):=by
 refine PC.ofT B1 rfl (A0B rfl) rfl (C1m _) ?_;have hsc:=c_Scan s hs;by_cases h0:(E7 s).2.2=0
 ·have hd:((E7 s).2.2 != 0)=false:=by simpa using h0
  repeat' ((with_reducible first|refine wr ?_|refine cpc hsc ?_|refine A2 ?_ ?_|fail)<;>try simp only [go_sem,seval,hd])
  obtain ⟨f,hf⟩:=(B9q (E7 s).1 s.length).get;refine AC.call (c_pexpr (E7 s).1 s.length (by have:=B7c h0;omega) (A9v h0) f rd0 rd0 _ (.refl _) hf (A0Y _) _ _ 1 rfl (by decide)) ?_;rintro v H' c2 ⟨x,s',rfl,rfl,q1,q2,q3⟩ hc2;obtain ⟨w,hw⟩:∃ w,w=C3n (E7 s).1 s.length:=⟨_,rfl⟩;obtain ⟨z,hz⟩:∃ z,z=(if okR w.2=true/\w.2.i<(E7 s).1.length then O3 (E7 s).1 s.length w.2 else w.2):=⟨_,rfl⟩;have hM:B1n s=if okR z=false then (Ex0,z.pos,z.e) else (w.1,0,0):=by
   unfold B1n;dsimp only;rw [if_neg (by simpa using h0), <- hw, <- hz]
  rw [<- hw] at q1 q2;rw [hM];have hq:Eqv (if s'.i<(E7 s).1.length then pfl (E7 s).1 s.length s' 4 else s') z/\(okR z=true->x=w.1):=by
   rw [hz];rcases q1.cas with ⟨e1,e2⟩|⟨e1,e2⟩
   ·rw [e1];by_cases hlt:w.2.i<(E7 s).1.length
    ·rw [if_pos hlt,if_pos ⟨e2,hlt⟩];exact ⟨.refl _,fun k=>(by rw [V3] at k;cases k)⟩
    ·rw [if_neg hlt,if_neg (fun h=>hlt h.2)];exact ⟨.refl _,q2⟩
   ·rw [show (if s'.i<(E7 s).1.length then pfl (E7 s).1 s.length s' 4 else s')=s' by rw [X7 e1];split<;>rfl,if_neg (fun h=>by rw [e2] at h;cases h.1)];exact ⟨q1,fun k=>by rw [e2] at k;cases k⟩
  clear hM hf hz hw;have ne0:=O0 0 1 c2 (by omega);simp only [go_sem,seval,ne0,A0,A1,Ex.v_w];repeat' ((with_reducible first|refine wr ?_|refine A2 ?_ ?_|fail)<;>try simp only [go_sem,seval,ne0,A0,A1])
  refine AC.call (c_pend (E7 s).1 s.length s' _ _ 1 (by rw [A3 (by omega)];exact A0) (by omega)) ?_;rintro v H' c3 ⟨rfl,rfl⟩ hc3;generalize (if s'.i<(E7 s).1.length then pfl (E7 s).1 s.length s' 4 else s')=u at hq ⊢;obtain ⟨r1,r2⟩:=hq;simp only [go_sem,seval,ne0,A0,A1];repeat' ((with_reducible first|refine wr ?_|refine A2 ?_ ?_|fail)<;>try simp only [go_sem,seval,ne0,A0,A1])
  refine AC.call (c_pok (E7 s).1 s.length u _ _ 1 A0 (by omega)) ?_;rintro v H' c4 ⟨rfl,rfl⟩ hc4;cases hok:okR z with
  | true =>
   obtain rfl:=r2 hok;have hok':okR u=true:=by rw [r1.ok,hok]
   rw [if_neg (by decide)];simp only [go_sem,seval,hok',ne0,A0,A1];repeat' ((with_reducible first|refine wr ?_|refine A2 ?_ ?_|fail)<;>try simp only [go_sem,seval,hok',ne0,A0,A1])
   rw [D9 (v:=.tup [w.1.w,I64 0,I64 0]) rfl];exact ⟨_,by rw [<- Ex.v_w];exact GL.refl _ _⟩
  | false =>
   have hok':okR u=false:=by rw [r1.ok,hok]
   rw [if_pos rfl, <- r1.p, <- r1.e];simp only [go_sem,seval,hok',ne0,A0,A1];repeat' ((with_reducible first|refine wr ?_|refine A2 ?_ ?_|fail)<;>try simp only [go_sem,seval,hok',ne0,A0,A1])
   repeat refine ⟨by and_intros<;>(repeat rw [A3 (by omega)])<;>rfl,?_⟩
   repeat' ((with_reducible first|refine wr ?_|refine A2 ?_ ?_|fail)<;>try simp only [go_sem,seval,hok',ne0,A0,A1])
   rw [D9 (v:=.tup [.agg [I64 0,I64 0,.str [],.snil,I64 0],I64 u.pos,I64 u.e]) rfl];exact C1l
 ·have hd:((E7 s).2.2 != 0)=true:=by simpa using h0
  have hM:B1n s=(Ex0,(E7 s).2.1,(E7 s).2.2):=by
   unfold B1n;dsimp only;rw [if_pos h0]
  rw [hM];repeat' ((with_reducible first|refine wr ?_|refine cpc hsc ?_|refine A2 ?_ ?_|fail)<;>try simp only [go_sem,seval,hd])
  rw [D9 (v:=.tup [.agg [I64 0,I64 0,.str [],.snil,I64 0],I64 (E7 s).2.1,I64 (E7 s).2.2]) rfl];exact C1l
end Go.Proofs.YthlpinppaclofaaGreatDoor
end

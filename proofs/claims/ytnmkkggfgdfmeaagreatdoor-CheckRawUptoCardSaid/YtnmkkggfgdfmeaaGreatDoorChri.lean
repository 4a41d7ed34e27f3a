/-
  HELPERS of the claim: part 9 of its texts.
-/
import Derived.Test.YtnmkkggfgdfmeaaGreatDoorProg
import Derived.KernelRfl
import Derived.Test.YtnmkkggfgdfmeaaGreatDoorRows
import Derived.Test.YtnmkkggfgdfmeaaGreatDoorChrh
noncomputable section
set_option maxHeartbeats 8000000
set_option maxRecDepth 100000
set_option linter.unusedSimpArgs false
set_option linter.unusedVariables false
namespace Go.Proofs.YtnmkkggfgdfmeaaGreatDoor
open Go.Eng (IC IOper DReg IFn IsFn)
open Go.Sym Go.Pb
theorem c_chk1 (x h:Hd):PC Tryz.prog 46 [x.v,.fptr [I64 h.trig,.str h.name,stsV h.body,I64 h.pos]] (.bool (x.trig == h.trig && x.name == h.name)):=by
 rw [hdl_w]
 refine PC.of mixedU isU46 (Nat.le_of_ble_eq_true rfl) (by simp [DV.nlL,DV.nl]) (by simp [DV.nlL,DV.nl]) ?_
 show IW Tryz.prog 16 u46_1 ⟨argT _,_,_⟩ (rt [.tmp 3] _)
 cases h1:(x.trig == h.trig) with
 | false =>
  repeat' ((with_reducible first|refine wr ?_|fail)<;>try simp only [go_sem,seval,h1])
  exact pc_ret rfl
 | true =>
  cases h2:(x.name == h.name) with
  | false =>
   repeat' ((with_reducible first|refine wr ?_|fail)<;>try simp only [go_sem,seval,h1,h2])
   exact pc_ret rfl
  | true =>
   repeat' ((with_reducible first|refine wr ?_|fail)<;>try simp only [go_sem,seval,h1,h2])
   exact pc_ret rfl
theorem c_Check32 (r:Ru) (hB:r.sz<4000000):PC Tryz.prog 17 [r.v] (chkV r):=by
 have hv:=c_Valid r (by omega)
 have hdl:=sz_dl r
 have hml:=sz_ml r
 have hnm:=c_names r (by omega) (by omega)
 have hch:chkV r=if vldM r=true then erV (chkE r) else .tup [I64 0,I64 1]:=rfl
 refine PC.of mixedU isU17 (Nat.le_of_ble_eq_true rfl) (by simp [Ru.v,DV.nlL,DV.nl,nlL_dcs,nlL_mds]) (chkV_nl _) ?_
 have hrv:r.v=.agg [dcsV r.decls,mdsV r.modes]:=rfl
 cases hvd:vldM r with
 | false =>
  rw [hvd] at hv hch
  rw [hch]
  rw [hrv] at hv ⊢
  show IW Tryz.prog 67 u17_1 ⟨argT _,_,_⟩ (rt [.tmp 2,.tmp 3] _)
  repeat' ((with_reducible first|refine wr ?_|refine cpc hv ?_|fail)<;>try simp only [go_sem,seval])
  exact pc_ret rfl
 | true =>
 have hk:=vld_kd hvd
 have hbv:=@vld_body _ r hvd
 have hms:∀ m∈r.modes,m.sz<=r.sz:=fun m h=>sz_md h
 rw [hvd] at hv hch
 rw [if_pos rfl] at hch
 rw [hch,erV_up]
 unfold chkE
 rw [<- upS_or (nz_hea r)]
 have hhd:=fun H cc t ht htc=>c_heads32 r hk (0,0) H cc t ht htc (by omega) (by omega)
 obtain ⟨K,V,hKV⟩:∃ K V,nmV r=.mp .s K V:=⟨_,_,rfl⟩
 have hck:∀ s:Int × Int,(⟨0,true,[.mp .s K V,I64 s.1,I64 s.2]⟩:Blk)=ckB r s:=fun s=>by unfold ckB;rw [hKV]
 rw [hKV] at hnm
 rw [hrv] at hv hnm hhd ⊢
 show IW Tryz.prog 67 u17_1 ⟨argT _,_,_⟩ (rt [.tmp 2,.tmp 3] _)
 repeat' ((with_reducible first|refine wr ?_|refine cpc hv ?_|refine cpc hnm ?_|fail)<;>try simp only [go_sem,seval])
 refine AC.call (hhd _ _ 1 (by rw [h_same];exact congrArg some (hck (0,0))) (by omega)) ?_
 rintro v' H' c' ⟨rfl,rfl⟩ hcc
 rw [h_upd2]
 obtain ⟨s0,hs0⟩:∃ s0,s0=upS (0,0) (heaE r):=⟨_,rfl⟩
 rw [<- hs0]
 have hb0:∀ b,((Sym.nil.upd 0 ⟨0,true,[dcsV r.decls,mdsV r.modes]⟩).upd 1 b) 0=some ⟨0,true,[dcsV r.decls,mdsV r.modes]⟩:=fun b=>rfl
 simp only [go_sem,seval]
 repeat' ((with_reducible first|refine wr ?_|fail)<;>try simp only [go_sem,seval,hb0])
 have hG0:∀ j,1<=j->(Sym.nil.upd 0 ⟨0,true,[dcsV r.decls,mdsV r.modes]⟩) j=none:=fun j hj=>by rw [h_ne (by omega)];rfl
 generalize Sym.nil.upd 0 ⟨0,true,[dcsV r.decls,mdsV r.modes]⟩=G0 at hG0 ⊢
 clear hb0 hs0 hhd
 refine i_loop (fun i:Nat=>[(4,.ptr 1 0),(20,mdsV r.modes),(21,I64 r.modes.length),(22,I64 i)]) (fun i=>G0.upd 1 (ckB r (upS s0 (erM r (r.modes.take i))))) (fun i c=>2<=c/\i<=r.modes.length) (fun i=>r.modes.length-i) 0 (by simp [tmLe,tm,Tm.upd]) (by rw [List.take_zero,erM,upS_none];exact Sub.refl _) ⟨by omega,Nat.zero_le _⟩ ?_
 rintro i c ⟨h1c,hki⟩
 by_cases hlt:i<r.modes.length
 ·have hd:decide ((i:Int)<r.modes.length)=true:=by simpa using hlt
  have hg:=List.getElem?_eq_getElem hlt
  have hw:=w64 (n:=(i:Int)+1) (by omega) (by omega)
  have hms:=hms _ (List.getElem_mem hlt)
  have hbv:=hbv _ (List.getElem_mem hlt)
  have het:=erM_take (r:=r) hg
  generalize r.modes[i]=d at hg hms hbv het
  have hhl:=sz_hl d
  obtain ⟨s1,hs1⟩:∃ s1,s1=upS s0 (erM r (r.modes.take i)):=⟨_,rfl⟩
  rw [<- hs1]
  have hfin:upS s0 (erM r (r.modes.take (i+1)))=upS s1 (erH r [] d.hds):=by rw [het, <- upS_or (nz_M _ _), <- hs1]
  have ne0:=nes2 1 c (by omega)
  repeat' ((with_reducible first|refine wr ?_|fail)<;>try simp only [go_sem,seval,hd,hg,md_w,ne0,h_same,h_upd2])
  obtain ⟨G,hG⟩:∃ G,G=G0.upd c ⟨0,true,[.str d.name,I64 d.prio,hdsV d.hds,I64 d.pos]⟩:=⟨_,rfl⟩
  have hGc:∀ b,(G.upd 1 b) c=some ⟨0,true,[.str d.name,I64 d.prio,hdsV d.hds,I64 d.pos]⟩:=fun b=>by rw [h_ne (by omega),hG,h_same]
  have hGn:∀ j,c+1<=j->G j=none:=fun j hj=>by rw [hG,h_ne (by omega)];exact hG0 j (by omega)
  rw [upd_cm (by omega), <- hG]
  refine i_loop (fun j:Nat=>[(4,.ptr 1 0),(6,.ptr c 0),(20,mdsV r.modes),(21,I64 r.modes.length),(22,I64 i),(27,hdsV d.hds),(28,I64 d.hds.length),(29,I64 j)]) (fun j=>G.upd 1 (ckB r (upS s1 (erH r [] (d.hds.take j))))) (fun j c2=>c+1<=c2/\j<=d.hds.length) (fun j=>d.hds.length-j) 0 (by simp [tmLe,tm,Tm.upd]) (by rw [List.take_zero,erH,upS_none];exact Sub.refl _) ⟨by omega,Nat.zero_le _⟩ ?_
  rintro j c2 ⟨h2c,hkj⟩
  by_cases hlt2:j<d.hds.length
  ·have hd2:decide ((j:Int)<d.hds.length)=true:=by simpa using hlt2
   have hg2:=List.getElem?_eq_getElem hlt2
   have hw2:=w64 (n:=(j:Int)+1) (by omega) (by omega)
   have hxs:=sz_hd (List.getElem_mem hlt2)
   have hbv:=hbv _ (List.getElem_mem hlt2)
   have heH:=erH_take (r:=r) hg2
   generalize d.hds[j]=x at hg2 hxs hbv heH
   have hxe:x.sz=1+x.name.length+Pb.St.szs x.body:=rfl
   have hbl:=c_blk32 r hk _ x.body 1 (Nat.lt_succ_self _) (by omega) hbv
   have hik:=c_inH32 x.trig
   have hcf:=c_CF_hd (f:=46) (a:=[]) (cs:=[.fptr [I64 x.trig,.str x.name,stsV x.body,I64 x.pos]]) (g:=fun y=>y.trig == x.trig && y.name == x.name) (d.hds.take j) (by rw [List.length_take];omega) rfl (by simp [DV.nlL,DV.nl,nlL_sts]) (fun y _=>c_chk1 y x)
   obtain ⟨o,ho⟩:∃ o,o=erH r [] (d.hds.take j):=⟨_,rfl⟩
   have hno:NzE o:=by rw [ho];exact nz_H _ _ _
   rw [<- ho] at heH ⊢
   have hsl:=fun H=>r_slcl (xs:=d.hds.map Hd.v) (h:=j) (sz:=4) (by rw [List.length_map];omega) (hd_unit _) H
   rw [<- List.map_take] at hsl
   have ne0:=nes3 1 c c2 (by omega)
   repeat' ((with_reducible first|refine wr ?_|refine cpc hik ?_|fail)<;>try simp only [go_sem,seval,hd2,hg2,hdl_w,ne0,h_same,h_upd2,hGc])
   obtain ⟨G2,hG2⟩:∃ G2,G2=G.upd c2 ⟨0,true,[I64 x.trig,.str x.name,stsV x.body,I64 x.pos]⟩:=⟨_,rfl⟩
   have h2c2:∀ b,(G2.upd 1 b) c2=some ⟨0,true,[I64 x.trig,.str x.name,stsV x.body,I64 x.pos]⟩:=fun b=>by rw [h_ne (by omega),hG2,h_same]
   have h2c:∀ b,(G2.upd 1 b) c=some ⟨0,true,[.str d.name,I64 d.prio,hdsV d.hds,I64 d.pos]⟩:=fun b=>by rw [h_ne (by omega),hG2,h_ne (by omega),hG,h_same]
   have h2n:∀ j,c2+1<=j->G2 j=none:=fun j hj=>by rw [hG2,h_ne (by omega)];exact hGn j (by omega)
   rw [upd_cm (by omega), <- hG2]
   refine ⟨by and_intros<;>(rw [h_ne (by omega)];exact h2n _ (by omega)),?_⟩
   refine AC.call (c_den32 r hk (upS s1 o) _ _ 1 h_same (by omega) x.name (kdH x.trig) x.pos) ?_
   rintro v' H' c3 ⟨rfl,rfl⟩ hc3
   rw [h_upd2,upS_or hno]
   obtain ⟨o2,ho2⟩:∃ o2,o2=o.or (dnE r x.name (kdH x.trig) x.pos):=⟨_,rfl⟩
   have hno2:NzE o2:=by rw [ho2];exact hno.or (nz_dn _ _ _ _)
   have heH2:erH r [] (d.hds.take (j+1))=(o2.or (if (d.hds.take j).any (fun y=>y.trig == x.trig && y.name == x.name)=true then some (x.pos,7) else none)).or (erB r x.body):=by
    rw [heH,ho2];unfold stH;simp only [Option.or_assoc]
   rw [<- ho2]
   simp only [go_sem,seval]
   generalize (d.hds.take j).any (fun y=>y.trig == x.trig && y.name == x.name)=bq at hcf heH2
   have kE:∀ (s2:Int × Int) (c4:Nat),c2+1<=c4->upS s1 (erH r [] (d.hds.take (j+1)))=upS s2 (erB r x.body)->IW Tryz.prog 67 u17_26 ⟨tm [(4,.ptr 1 0),(6,.ptr c 0),(8,.ptr c2 0),(20,mdsV r.modes),(21,I64 r.modes.length),(22,I64 i),(27,hdsV d.hds),(28,I64 d.hds.length),(29,I64 j)],G2.upd 1 (ckB r s2),c4⟩ (bk 3
      (sq Tryz.prog 67 u17_27
       (lp (fun j:Nat=>[(4,DV.ptr 1 0),(6,DV.ptr c 0),(20,mdsV r.modes),(21,I64 r.modes.length),(22,I64 i),(27,hdsV d.hds),(28,I64 d.hds.length),(29,I64 j)])
        (fun j:Nat=>G.upd 1 (ckB r (upS s1 (erH r [] (d.hds.take j)))))
        (fun j c2=>c+1<=c2/\j<=d.hds.length) (fun j=>d.hds.length-j) (d.hds.length-j)
        (bk 2
         (bk 1
          (sq Tryz.prog 67 u17_28
           (lp (fun i:Nat=>[(4,DV.ptr 1 0),(20,mdsV r.modes),(21,I64 r.modes.length),(22,I64 i)])
            (fun i:Nat=>G0.upd 1 (ckB r (upS s0 (erM r (r.modes.take i)))))
            (fun i c=>2<=c/\i<=r.modes.length) (fun i=>r.modes.length-i) (r.modes.length-i)
            (bk 0
             (sq Tryz.prog 67 u17_29
              (rt [Eng.RV.tmp 2,Eng.RV.tmp 3] fun v H' x =>
               ∃ H2,GL H' [v] H2 [DV.tup [I64 (upS s0 (erM r r.modes)).1,I64 (upS s0 (erM r r.modes)).2]])))))))))):=by
    intro s2 c4 hc4 hs2
    repeat' ((with_reducible first|refine wr ?_|fail)<;>try simp only [go_sem,seval,h2c2,h2c])
    refine AC.call (hbl s2 _ _ 1 h_same (by omega)) ?_
    rintro v' H' c5 ⟨rfl,rfl⟩ hc5
    rw [h_upd2, <- hs2]
    simp only [go_sem,seval,hw2]
    repeat' ((with_reducible first|refine wr ?_|fail)<;>try simp only [go_sem,seval,hw2])
    refine ⟨j+1,by simp,?_,inv ⟨by omega,by omega⟩,by omega⟩
    rw [hG2]
    exact sub_ckb (fun j hj=>hGn j (by omega)) (by omega)
   cases bq with
   | true =>
    rw [if_pos rfl] at heH2
    repeat' ((first|(with_reducible first|refine wr ?_)|(refine AC.call (hcf.lend rfl (GL.one (id:=c2) (b:=⟨0,true,[I64 x.trig,.str x.name,stsV x.body,I64 x.pos]⟩) (h2c2 _) rfl (.cons _ _ _ _ (.same _) (.cons _ _ _ _ (.func _ _ _ _ _ .nil (.cons _ _ _ _ (.ptr 0 _ (Nat.zero_le _) rfl) .nil)) .nil)))) ?_<;>rintro v' H' c' ⟨rfl,rfl,rfl⟩ hcc)|fail)<;>try simp only [go_sem,seval,h2c2,h2c,hsl])
    refine AC.call (c_fail32 r (upS s1 o2) _ _ 1 h_same (by omega) x.pos 7) ?_
    rintro v' H' c5 ⟨rfl,rfl⟩ hc5
    rw [h_upd2,upS_or hno2]
    simp only [go_sem,seval]
    repeat' ((with_reducible first|refine hold (p:=IW _ _ u17_26 _ _) ?_|refine wr ?_|fail)<;>try simp only [go_sem,seval])
    refine IW.stage (by simp [tmLe,tm,Tm.upd]) (kE _ _ (by omega) ?_)
    rw [heH2,upS_or (hno2.or (fun a b h=>by cases h;decide))]
   | false =>
    rw [if_neg (by decide),Option.or_none] at heH2
    repeat' ((first|(with_reducible first|refine hold (p:=IW _ _ u17_26 _ _) ?_|refine wr ?_)|(refine AC.call (hcf.lend rfl (GL.one (id:=c2) (b:=⟨0,true,[I64 x.trig,.str x.name,stsV x.body,I64 x.pos]⟩) (h2c2 _) rfl (.cons _ _ _ _ (.same _) (.cons _ _ _ _ (.func _ _ _ _ _ .nil (.cons _ _ _ _ (.ptr 0 _ (Nat.zero_le _) rfl) .nil)) .nil)))) ?_<;>rintro v' H' c' ⟨rfl,rfl,rfl⟩ hcc)|fail)<;>try simp only [go_sem,seval,h2c2,h2c,hsl])
    refine IW.stage (by simp [tmLe,tm,Tm.upd]) (kE _ _ (by omega) ?_)
    rw [heH2,upS_or hno2]
  have hd2:decide ((j:Int)<d.hds.length)=false:=by simpa using hlt2
  rw [List.take_of_length_le (by omega)]
  repeat' ((with_reducible first|refine wr ?_|fail)<;>try simp only [go_sem,seval,hd2,hw])
  refine ⟨i+1,by simp,?_,inv ⟨by omega,by omega⟩,by omega⟩
  rw [hfin,hG]
  exact sub_ckb (fun j hj=>hG0 j (by omega)) (by omega)
 have hd:decide ((i:Int)<r.modes.length)=false:=by simpa using hlt
 rw [List.take_of_length_le (by omega)]
 have hb1:(G0.upd 1 (ckB r (upS s0 (erM r r.modes)))) 1=some (ckB r (upS s0 (erM r r.modes))):=h_same
 have hcs:=(hck (upS s0 (erM r r.modes))).symm
 have hbn:∀ j,c<=j->(G0.upd 1 (ckB r (upS s0 (erM r r.modes)))) j=none:=fun j hj=>by rw [h_ne (by omega)];exact hG0 j (by omega)
 rw [hcs] at hb1 hbn ⊢
 repeat' ((with_reducible first|refine wr ?_|fail)<;>try simp only [go_sem,seval,hd,hb1])
 refine ⟨by and_intros<;>exact hG0 _ (by omega),?_⟩
 repeat' ((with_reducible first|refine wr ?_|fail)<;>try simp only [go_sem,seval,hb1])
 exact pc_ret rfl
theorem c_Lookup32 (r:Ru) (n:List UInt8) (hB:r.sz<4000000):PC Tryz.prog 28 [r.v,.str n] (lokV r n):=by
 have hv:=c_Valid r (by omega)
 have hdl:=sz_dl r
 have hml:=sz_ml r
 have hnm:=c_names r (by omega) (by omega)
 refine PC.of mixedU isU28 (Nat.le_of_ble_eq_true rfl) (by simp [Ru.v,DV.nlL,DV.nl,nlL_dcs,nlL_mds]) (lkV_nl _ _) ?_
 have hrv:r.v=.agg [dcsV r.decls,mdsV r.modes]:=rfl
 unfold lokV
 cases hvd:vldM r with
 | false =>
  rw [hvd] at hv
  rw [hrv] at hv ⊢
  show IW Tryz.prog 18 u28_1 ⟨argT _,_,_⟩ (rt [.tmp 4,.tmp 5] _)
  repeat' ((with_reducible first|refine wr ?_|refine cpc hv ?_|fail)<;>try simp only [go_sem,seval])
  exact pc_ret rfl
 | true =>
 have hk:=vld_kd hvd
 rw [hvd] at hv
 rw [if_pos rfl]
 unfold nmV at hnm
 have hlk:Sym.lkV (.agg [I64 0,I64 0]) false (mvV (meaL (nmL r))) (mfind (.str n) (mkK (meaL (nmL r))) 0)=some (.agg [I64 (lokR r n).1,I64 (lokR r n).2]):=by
  cases hl:(nmL r).lookup n with
  | some q =>
   obtain ⟨h1,h2⟩:=nm_some hk hl
   rw [h1]
   exact lk_some (ok:=false) (by rw [mea_lookup,hl];rfl)
  | none =>
   rw [nm_none hk hl]
   exact lk_none (ok:=false) (by rw [mea_lookup,hl];rfl)
 rw [hrv] at hv hnm ⊢
 show IW Tryz.prog 18 u28_1 ⟨argT _,_,_⟩ (rt [.tmp 4,.tmp 5] _)
 repeat' ((with_reducible first|refine wr ?_|refine cpc hv ?_|refine cpc hnm ?_|fail)<;>try simp only [go_sem,seval,hlk])
 exact pc_ret rfl
end Go.Proofs.YtnmkkggfgdfmeaaGreatDoor
set_option linter.unusedSectionVars false
namespace Go.Pb
variable [Go.Sym.Tab]
open Go.Sym
mutual
def exN (sn:List (List UInt8)):Ex->List (List UInt8)
 | .mk k v n a p=>exNs (seeS sn n) a
def exNs (sn:List (List UInt8)):List Ex->List (List UInt8)
 | []=>sn
 | x :: l=>exNs (exN sn x) l
end
mutual
def stN (sn:List (List UInt8)):St->List (List UInt8)
 | .mk k n t a x y p=>stNs (stNs (exNs (seeS sn n) a) x) y
def stNs (sn:List (List UInt8)):List St->List (List UInt8)
 | []=>sn
 | s :: l=>stNs (stN sn s) l
end
theorem exN_e (sn:List (List UInt8)) (e:Ex):exN sn e=exNs (seeS sn e.name) e.args:=by
 cases e with|mk k v n a p=>rw [exN];rfl
theorem stN_e (sn:List (List UInt8)) (s:St):stN sn s=stNs (stNs (exNs (seeS sn s.name) s.args) s.thn) s.els:=by
 cases s with|mk k n t a x y p=>rw [stN];rfl
theorem exNs_take {x:Ex}:∀ {l:List Ex} {i:Nat} {sn:List (List UInt8)},l[i]? = some x->exNs sn (l.take (i+1))=exN (exNs sn (l.take i)) x
 | y :: l,0,sn,h=>by cases h;simp [exNs]
 | y :: l,i+1,sn,h=>by rw [List.take_succ_cons,List.take_succ_cons,exNs,exNs,exNs_take (by simpa using h)]
theorem stNs_take {x:St}:∀ {l:List St} {i:Nat} {sn:List (List UInt8)},l[i]? = some x->stNs sn (l.take (i+1))=stN (stNs sn (l.take i)) x
 | y :: l,0,sn,h=>by cases h;simp [stNs]
 | y :: l,i+1,sn,h=>by rw [List.take_succ_cons,List.take_succ_cons,stNs,stNs,stNs_take (by simpa using h)]
def hdN (sn:List (List UInt8)) (h:Hd):List (List UInt8):=stNs (seeS sn h.name) h.body
def mdN (sn:List (List UInt8)) (m:Md):List (List UInt8):=m.hds.foldl hdN sn
def ruN (r:Ru):List (List UInt8):=r.modes.foldl mdN []
theorem fold_take {α β : Type} {f : β -> α -> β} {b : β} {l:List α} {i:Nat} {x : α} (h:l[i]? = some x):(l.take (i+1)).foldl f b=f ((l.take i).foldl f b) x:=by
 rw [List.take_add_one,h,List.foldl_append];rfl
mutual
theorem exN_has (m:List UInt8) (h0:m≠[]):∀ (e:Ex) (sn:List (List UInt8)),(∃ q,msM e=some q)->(exN sn e).contains m=(sn.contains m || inE m e)
 | .mk k v n a p,sn,⟨q,hq⟩=>by
  rw [exN,exNs_has m h0 a _ (ms_args hq),seeS_has,inE,Bool.or_assoc]
  congr 2
  obtain ⟨o,d⟩:=q
  obtain ⟨-, -,m3, -⟩:=ms_inv hq
  by_cases hk:k=2\/k=5\/k=6\/k=7
  ·have:(kdE k != 0)=true:=by unfold kdE;rcases hk with rfl|rfl|rfl|rfl<;>decide
   rw [this,Bool.true_and,Bool.eq_iff_iff];simp;exact eq_comm
  ·have e0:(kdE k != 0)=false:=by
    unfold kdE
    rw [if_neg (by omega),if_neg (by omega),if_neg (by omega),if_neg (by omega)];rfl
   rw [e0,Bool.false_and]
   unfold nmOk at m3
   rw [if_neg (by unfold namB;simp;omega)] at m3
   have hn:n=[]:=by simpa using m3
   rw [hn]
   simpa using h0
theorem exNs_has (m:List UInt8) (h0:m≠[]):∀ (l:List Ex) (sn:List (List UInt8)),(∀ e∈l, ∃ q,msM e=some q)->(exNs sn l).contains m=(sn.contains m || inEs m l)
 | [],sn,_=>by rw [exNs,inEs,Bool.or_false]
 | x :: l,sn,h=>by
  rw [exNs,exNs_has m h0 l _ (fun e he=>h e (List.mem_cons_of_mem _ he)),exN_has m h0 x _ (h x List.mem_cons_self),inEs,Bool.or_assoc]
end
mutual
theorem stN_has (m:List UInt8) (h0:m≠[]):∀ (s:St) (sn:List (List UInt8)) (d:Nat),vlSt d s=true->(stN sn s).contains m=(sn.contains m || inS m s)
 | .mk k n t a x y p,sn,d,hv=>by
  obtain ⟨v1,v2,v3⟩:=vlSt_parts hv
  rw [stN,stNs_has m h0 y _ _ v3,stNs_has m h0 x _ _ v2,exNs_has m h0 a _ v1,seeS_has,inS]
  have:(m == n)=(n == m):=by rw [Bool.eq_iff_iff];simp;exact eq_comm
  rw [this]
  simp only [Bool.or_assoc]
theorem stNs_has (m:List UInt8) (h0:m≠[]):∀ (l:List St) (sn:List (List UInt8)) (d:Nat),vlSts d l=true->(stNs sn l).contains m=(sn.contains m || inB m l)
 | [],sn,d,_=>by rw [stNs,inB,Bool.or_false]
 | s :: l,sn,d,h=>by
  rw [vlSts,Bool.and_eq_true] at h
  rw [stNs,stNs_has m h0 l _ _ h.2,stN_has m h0 s _ _ h.1,inB,Bool.or_assoc]
end
theorem mdN_has (m:List UInt8) (h0:m≠[]):∀ (l:List Hd) (sn:List (List UInt8)),(∀ h∈l,vlSts 1 h.body=true)->(l.foldl hdN sn).contains m=(sn.contains m || l.any fun h=>h.name == m || inB m h.body)
 | [],sn,_=>by simp
 | h :: l,sn,hv=>by
  rw [List.foldl_cons,mdN_has m h0 l _ (fun x hx=>hv x (List.mem_cons_of_mem _ hx)),hdN,stNs_has m h0 _ _ _ (hv h List.mem_cons_self),seeS_has,List.any_cons]
  have:(m == h.name)=(h.name == m):=by rw [Bool.eq_iff_iff];simp;exact eq_comm
  rw [this]
  simp only [Bool.or_assoc]
theorem ruN_has {r:Ru} (hv:vldM r=true) (m:List UInt8) (h0:m≠[]):(ruN r).contains m=usdM r m:=by
 have hb:=vld_body hv
 unfold ruN usdM
 have go:∀ (l:List Md) (sn:List (List UInt8)),(∀ x∈l, ∀ h∈x.hds,vlSts 1 h.body=true)->(l.foldl mdN sn).contains m=(sn.contains m || l.any fun x=>x.hds.any fun h=>h.name == m || inB m h.body):=by
  intro l
  induction l with
  | nil=>intro sn _;simp
  | cons x l ih =>
   intro sn h
   rw [List.foldl_cons,ih _ (fun y hy=>h y (List.mem_cons_of_mem _ hy)),mdN,mdN_has m h0 _ _ (h x List.mem_cons_self),List.any_cons,Bool.or_assoc]
 rw [go _ _ hb]
 rfl
theorem vld_dn {r:Ru} (h:vldM r=true):∀ d∈r.decls,d.name≠[]:=by
 intro d hd e
 unfold vldM at h
 simp only [Bool.and_eq_true] at h
 have h1:=List.all_eq_true.1 h.1.2 d hd
 unfold vlDc at h1
 simp only [Bool.and_eq_true] at h1
 have h2:=h1.1.1.2
 rw [e] at h2
 exact absurd h2 (by decide)
end Go.Pb
namespace Go.Proofs.YtnmkkggfgdfmeaaGreatDoor
open Go.Eng (IC IOper DReg IFn IsFn)
open Go.Sym Go.Pb
theorem sub_todoM {H0 HH HH':Hp} {o:Option Nat} {n id:Nat} {b1 b b':Blk} (hHH:optH H0 o b1=HH) (hn:∀ j,n<=j->H0 j=none) (ho:∀ i,o=some i->n<=i) (hx:∀ j,j<n->HH' j=HH j) (h:b=b') :
  Sym.Sub (optH H0 (some id) b) ((delO HH' o).upd id b'):=by
 subst h
 intro j q hj
 simp only [optH] at hj
 by_cases e:j=id
 ·subst e;rw [h_same] at hj ⊢;exact hj
 ·rw [h_ne e] at hj ⊢
  have hj2:j<n:=Nat.lt_of_not_le fun h2=>by rw [hn j h2] at hj;cases hj
  have hHj:HH' j=some q:=by rw [hx j hj2, <- hHH,optH_ne (fun i hi=>by have:=ho i hi;omega)];exact hj
  cases o with
  | none=>simp only [delO];exact hHj
  | some i =>
   have:=ho i rfl
   simp only [delO,Hp.del]
   rw [if_neg (by omega)];exact hHj
theorem c_exN:∀ (m:Nat) (l:List Ex),Ex.szs l<m->Ex.szs l<=100000000->∀ (sn:List (List UInt8)) (H:Hp) (cc mm:Nat) (hm:H mm=some (seeB sn)) (hmc:mm<cc),
  AC Tryz.prog 91 [exsV l,.mid mm] H cc (fun v H' c'=>v=.tup []/\H'=H.upd mm (seeB (exNs sn l))):=by
 intro m
 induction m with
 | zero=>intro l h;omega
 | succ m ih =>
 intro l hm hB sn H cc mm hmm hmc
 have hl:=Ex.szs_len l
 refine AC.body mixedU isU91 (Nat.le_of_ble_eq_true rfl) fun hfr=>?_
 show IW Tryz.prog 20 u91_1 ⟨argT _,_,_⟩ (rt [] _)
 repeat' ((with_reducible first|refine wr ?_|fail)<;>try simp only [go_sem,seval])
 have hHt:H=H.upd mm (seeB sn):=(upd_same hmm).symm
 refine i_loop (fun i:Nat=>[(1,.mid mm),(6,exsV l),(7,I64 l.length),(8,I64 i)]) (fun i=>H.upd mm (seeB (exNs sn (l.take i)))) (fun i c=>cc<=c/\i<=l.length) (fun i=>l.length-i) 0 (by simp [tmLe,tm,Tm.upd]) (by rw [List.take_zero,exNs, <- hHt];exact Sub.refl _) ⟨by omega,Nat.zero_le _⟩ ?_
 rintro i c ⟨h1c,hki⟩
 by_cases hlt:i<l.length
 ·have hd:decide ((i:Int)<l.length)=true:=by simpa using hlt
  have hg:=List.getElem?_eq_getElem hlt
  have hw:=w64 (n:=(i:Int)+1) (by omega) (by omega)
  have hsx:=Ex.szs_mem (List.getElem_mem hlt)
  have het:=exNs_take (sn:=sn) hg
  generalize l[i]=x at hg hsx het
  have hax:Ex.szs x.args<x.sz:=by cases x with|mk k v n a p=>rw [Ex.sz];show Ex.szs a<_;omega
  have hc:=ih x.args (by omega) (by omega)
  rw [exN_e] at het
  generalize exNs sn (l.take i)=s0 at het ⊢
  have hmu:=fun H c id u=>see_mu x.name s0 H c id u
  have hmB:(H.upd mm (seeB s0)) mm=some (seeB s0):=h_same
  have ne0:=nes2 mm c (by omega)
  repeat' ((with_reducible first|refine wr ?_|fail)<;>try simp only [go_sem,seval,hd,hg,Ex.v_w,ne0,h_same,h_upd2,hmu])
  refine AC.call (hc (seeS s0 x.name) _ _ mm h_same (by omega)) ?_
  rintro v' H' c2 ⟨rfl,rfl⟩ hc2
  rw [<- het]
  simp only [go_sem,seval,hw]
  repeat' ((with_reducible first|refine wr ?_|fail)<;>try simp only [go_sem,seval,hw])
  refine ⟨i+1,by simp,?_,inv ⟨by omega,by omega⟩,by omega⟩
  rw [h_upd2]
  exact sub_ckl (fun j hj=>hfr j (by omega)) (by omega)
 have hd:decide ((i:Int)<l.length)=false:=by simpa using hlt
 rw [List.take_of_length_le (by omega)]
 repeat' ((with_reducible first|refine wr ?_|fail)<;>try simp only [go_sem,seval,hd])
 exact ⟨_,_,GL.refl _ _,rfl,rfl⟩
theorem c_stN:∀ (m:Nat) (l:List Pb.St),Pb.St.szs l<m->Pb.St.szs l<=100000000->∀ (sn:List (List UInt8)) (H:Hp) (cc mm:Nat) (hm:H mm=some (seeB sn)) (hmc:mm<cc),
  AC Tryz.prog 50 [stsV l,.mid mm] H cc (fun v H' c'=>v=.tup []/\H'=H.upd mm (seeB (stNs sn l))):=by
 intro m
 induction m with
 | zero=>intro l h;omega
 | succ m ih =>
 intro l hm hB sn H cc mm hmm hmc
 have hl:=Pb.St.szs_len l
 refine AC.body mixedU isU50 (Nat.le_of_ble_eq_true rfl) fun hfr=>?_
 show IW Tryz.prog 28 u50_1 ⟨argT _,_,_⟩ (rt [] _)
 repeat' ((with_reducible first|refine wr ?_|fail)<;>try simp only [go_sem,seval])
 have hHt:H=H.upd mm (seeB sn):=(upd_same hmm).symm
 refine i_loop (fun i:Nat=>[(1,.mid mm),(6,stsV l),(7,I64 l.length),(8,I64 i)]) (fun i=>H.upd mm (seeB (stNs sn (l.take i)))) (fun i c=>cc<=c/\i<=l.length) (fun i=>l.length-i) 0 (by simp [tmLe,tm,Tm.upd]) (by rw [List.take_zero,stNs, <- hHt];exact Sub.refl _) ⟨by omega,Nat.zero_le _⟩ ?_
 rintro i c ⟨h1c,hki⟩
 by_cases hlt:i<l.length
 ·have hd:decide ((i:Int)<l.length)=true:=by simpa using hlt
  have hg:=List.getElem?_eq_getElem hlt
  have hw:=w64 (n:=(i:Int)+1) (by omega) (by omega)
  have hsx:=Pb.St.szs_mem (List.getElem_mem hlt)
  have het:=stNs_take (sn:=sn) hg
  generalize l[i]=x at hg hsx het
  have hax:Ex.szs x.args<x.sz:=by cases x with|mk k n t a x y p=>rw [Pb.St.sz];show Ex.szs a<_;omega
  have hc:=c_exN _ x.args (Nat.lt_succ_self _) (by omega)
  have hX:=ih x.thn (by have:=x.sz_thn;omega) (by have:=x.sz_thn;omega)
  have hY:=ih x.els (by have:=x.sz_els;omega) (by have:=x.sz_els;omega)
  rw [stN_e] at het
  generalize stNs sn (l.take i)=s0 at het ⊢
  have hmu:=fun H c id u=>see_mu x.name s0 H c id u
  have ne0:=nes2 mm c (by omega)
  repeat' ((with_reducible first|refine wr ?_|fail)<;>try simp only [go_sem,seval,hd,hg,Pb.St.v_w,ne0,h_same,h_upd2,hmu])
  refine AC.call (hc (seeS s0 x.name) _ _ mm h_same (by omega)) ?_
  rintro v' H' c2 ⟨rfl,rfl⟩ hc2
  rw [h_upd2]
  simp only [go_sem,seval,ne0,h_same,h_upd2]
  repeat' ((with_reducible first|refine wr ?_|fail)<;>try simp only [go_sem,seval,hd,hg,Pb.St.v_w,ne0,h_same,h_upd2])
  refine AC.call (hX (exNs (seeS s0 x.name) x.args) _ _ mm h_same (by omega)) ?_
  rintro v' H' c3 ⟨rfl,rfl⟩ hc3
  rw [h_upd2]
  simp only [go_sem,seval,ne0,h_same,h_upd2]
  repeat' ((with_reducible first|refine wr ?_|fail)<;>try simp only [go_sem,seval,hd,hg,Pb.St.v_w,ne0,h_same,h_upd2])
  refine AC.call (hY _ _ _ mm h_same (by omega)) ?_
  rintro v' H' c4 ⟨rfl,rfl⟩ hc4
  rw [h_upd2, <- het]
  simp only [go_sem,seval,hw]
  repeat' ((with_reducible first|refine wr ?_|fail)<;>try simp only [go_sem,seval,hw])
  refine ⟨i+1,by simp,?_,inv ⟨by omega,by omega⟩,by omega⟩
  exact sub_ckl (fun j hj=>hfr j (by omega)) (by omega)
 have hd:decide ((i:Int)<l.length)=false:=by simpa using hlt
 rw [List.take_of_length_le (by omega)]
 repeat' ((with_reducible first|refine wr ?_|fail)<;>try simp only [go_sem,seval,hd])
 exact ⟨_,_,GL.refl _ _,rfl,rfl⟩
theorem c_Unused32 (r:Ru) (hB:r.sz<4000000):PC Tryz.prog 21 [r.v] (unuV r):=by
 refine PC.of mixedU isU21 (Nat.le_of_ble_eq_true rfl) (by simp [Ru.v,DV.nlL,DV.nl,nlL_dcs,nlL_mds]) (unuV_nl _) ?_
 have hv:=c_Valid r (by omega)
 have hdl:=sz_dl r
 have hml:=sz_ml r
 have hms:∀ m∈r.modes,m.sz<=r.sz:=fun m h=>sz_md h
 have hrv:r.v=.agg [dcsV r.decls,mdsV r.modes]:=rfl
 unfold unuV
 cases hvd:vldM r with
 | false =>
  rw [hvd] at hv
  rw [hrv] at hv ⊢
  show IW Tryz.prog 57 u21_1 ⟨argT _,_,_⟩ (rt [.tmp 2] _)
  repeat' ((with_reducible first|refine wr ?_|refine cpc hv ?_|fail)<;>try simp only [go_sem,seval])
  exact pc_snil
 | true =>
 rw [if_pos rfl]
 rw [hvd] at hv
 obtain ⟨F,hF⟩:∃ F:Nat->List (List UInt8), ∀ k,F k=((r.decls.take k).filter fun d => !usdM r d.name).map Dc.name:=⟨_,fun _=>rfl⟩
 have hF0:F 0=[]:=by rw [hF];rfl
 have hFe:unuM r=F r.decls.length:=by rw [hF,List.take_length];rfl
 have hFl:∀ k,(F k).length<=r.decls.length:=fun k=>by
  rw [hF,List.length_map]
  refine Nat.le_trans (List.length_filter_le _ _) ?_
  rw [List.length_take];omega
 have hFs:∀ k d,r.decls[k]? = some d->F (k+1)=if (ruN r).contains d.name=true then F k else F k++[d.name]:=fun k d h=>by
  have hd0:=vld_dn hvd d (List.mem_of_getElem? h)
  rw [ruN_has hvd _ hd0,hF,hF,List.take_add_one,h,List.filter_append,List.map_append]
  show _++List.map Dc.name (List.filter _ [d])=_
  rw [List.filter_cons]
  cases usdM r d.name<;>simp
 rw [hFe]
 rw [hrv] at hv ⊢
 show IW Tryz.prog 57 u21_1 ⟨argT _,_,_⟩ (rt [.tmp 2] _)
 repeat' ((with_reducible first|refine wr ?_|refine cpc hv ?_|fail)<;>try simp only [go_sem,seval])
 obtain ⟨G0,hG0⟩:∃ G0,G0=Sym.nil.upd 0 ⟨0,true,[dcsV r.decls,mdsV r.modes]⟩:=⟨_,rfl⟩
 have hz0:∀ b,(G0.upd 1 b) 0=some ⟨0,true,[dcsV r.decls,mdsV r.modes]⟩:=fun b=>by rw [h_ne (by omega),hG0];exact h_same
 have hzn:∀ j,1<=j->G0 j=none:=fun j hj=>by rw [hG0,h_ne (by omega)];rfl
 rw [<- hG0]
 refine i_loop (fun i:Nat=>[(1,.ptr 0 0),(3,.mid 1),(16,mdsV r.modes),(17,I64 r.modes.length),(18,I64 i)]) (fun i=>G0.upd 1 (seeB ((r.modes.take i).foldl mdN []))) (fun i c=>2<=c/\i<=r.modes.length) (fun i=>r.modes.length-i) 0 (by simp [tmLe,tm,Tm.upd]) (Sub.refl _) ⟨by omega,Nat.zero_le _⟩ ?_
 rintro i c ⟨h1c,hki⟩
 by_cases hlt:i<r.modes.length
 ·have hd:decide ((i:Int)<r.modes.length)=true:=by simpa using hlt
  have hg:=List.getElem?_eq_getElem hlt
  have hw:=w64 (n:=(i:Int)+1) (by omega) (by omega)
  have hms:=hms _ (List.getElem_mem hlt)
  have het:=fold_take (f:=mdN) (b:=[]) hg
  generalize r.modes[i]=d at hg hms het
  have hhl:=sz_hl d
  generalize (r.modes.take i).foldl mdN []=s0 at het ⊢
  have ne0:=nes2 1 c (by omega)
  repeat' ((with_reducible first|refine wr ?_|fail)<;>try simp only [go_sem,seval,hd,hg,md_w,ne0,h_same,h_upd2])
  obtain ⟨G,hG⟩:∃ G,G=G0.upd c ⟨0,true,[.str d.name,I64 d.prio,hdsV d.hds,I64 d.pos]⟩:=⟨_,rfl⟩
  have hGn:∀ j,c+1<=j->G j=none:=fun j hj=>by rw [hG,h_ne (by omega)];exact hzn j (by omega)
  rw [upd_cm (by omega), <- hG]
  refine i_loop (fun j:Nat=>[(1,.ptr 0 0),(3,.mid 1),(16,mdsV r.modes),(17,I64 r.modes.length),(18,I64 i),(23,hdsV d.hds),(24,I64 d.hds.length),(25,I64 j)]) (fun j=>G.upd 1 (seeB ((d.hds.take j).foldl hdN s0))) (fun j c2=>c+1<=c2/\j<=d.hds.length) (fun j=>d.hds.length-j) 0 (by simp [tmLe,tm,Tm.upd]) (Sub.refl _) ⟨by omega,Nat.zero_le _⟩ ?_
  rintro j c2 ⟨h2c,hkj⟩
  by_cases hlt2:j<d.hds.length
  ·have hd2:decide ((j:Int)<d.hds.length)=true:=by simpa using hlt2
   have hg2:=List.getElem?_eq_getElem hlt2
   have hw2:=w64 (n:=(j:Int)+1) (by omega) (by omega)
   have hxs:=sz_hd (List.getElem_mem hlt2)
   have heH:=fold_take (f:=hdN) (b:=s0) hg2
   generalize d.hds[j]=x at hg2 hxs heH
   have hxe:x.sz=1+x.name.length+Pb.St.szs x.body:=rfl
   have hst:=c_stN _ x.body (Nat.lt_succ_self _) (by omega)
   generalize (d.hds.take j).foldl hdN s0=s1 at heH ⊢
   have hmu:=fun H c id u=>see_mu x.name s1 H c id u
   have ne0:=nes2 1 c2 (by omega)
   repeat' ((with_reducible first|refine wr ?_|fail)<;>try simp only [go_sem,seval,hd2,hg2,hdl_w,ne0,h_same,h_upd2,hmu])
   refine AC.call (hst (seeS s1 x.name) _ _ 1 h_same (by omega)) ?_
   rintro v' H' c3 ⟨rfl,rfl⟩ hc3
   rw [h_upd2]
   have:stNs (seeS s1 x.name) x.body=hdN s1 x:=rfl
   rw [this, <- heH]
   simp only [go_sem,seval,hw2]
   repeat' ((with_reducible first|refine wr ?_|fail)<;>try simp only [go_sem,seval,hw2])
   refine ⟨j+1,by simp,?_,inv ⟨by omega,by omega⟩,by omega⟩
   exact sub_ckl (fun j hj=>hGn j (by omega)) (by omega)
  have hd2:decide ((j:Int)<d.hds.length)=false:=by simpa using hlt2
  rw [List.take_of_length_le (by omega)]
  repeat' ((with_reducible first|refine wr ?_|fail)<;>try simp only [go_sem,seval,hd2,hw])
  refine ⟨i+1,by simp,?_,inv ⟨by omega,by omega⟩,by omega⟩
  rw [het,hG]
  exact sub_ckb (fun j hj=>hzn j (by omega)) (by omega)
 have hd:decide ((i:Int)<r.modes.length)=false:=by simpa using hlt
 rw [List.take_of_length_le (by omega)]
 have hru:r.modes.foldl mdN []=ruN r:=rfl
 rw [hru]
 generalize ruN r=N at hFs ⊢
 repeat' ((with_reducible first|refine wr ?_|fail)<;>try simp only [go_sem,seval,hd,hz0])
 clear hd hlt hki i
 refine i_loop (fun q:Nat × Option Nat=>[(3,.mid 1),(8,todoV q.2 (F q.1).length),(39,dcsV r.decls),(40,I64 r.decls.length),(41,I64 q.1)]) (fun q=>optH (G0.upd 1 (seeB N)) q.2 ⟨1,true,cellsL ((F q.1).map DV.str)⟩)
  (fun q c=>2<=c/\q.1<=r.decls.length/\(q.2=none->F q.1=[])/\(∀ i,q.2=some i->2<=i/\i<c)) (fun q=>r.decls.length-q.1) (0,none)
  (by simp [tmLe,tm,Tm.upd,todoV]) (Sub.refl _) ⟨h1c,Nat.zero_le _,fun _=>hF0,(fun i hi=>by cases hi)⟩ ?_
 clear h1c c
 rintro ⟨i,o⟩ c ⟨h1c,hk,hno,ho⟩
 dsimp only at hk hno ho ⊢
 have hb1:optH (G0.upd 1 (seeB N)) o ⟨1,true,cellsL ((F i).map DV.str)⟩ 1=some (seeB N):=by rw [optH_ne (fun i hi=>by have:=ho i hi;omega)];exact h_same
 have hbn:∀ j:Nat,c<=j->optH (G0.upd 1 (seeB N)) o ⟨1,true,cellsL ((F i).map DV.str)⟩ j=none:=fun j hj=>by rw [optH_ne (fun i hi=>by have:=ho i hi;omega),h_ne (by omega)];exact hzn j (by omega)
 have hbo2:∀ j:Nat,o=some j->optH (G0.upd 1 (seeB N)) o ⟨1,true,cellsL ((F i).map DV.str)⟩ j=some ⟨1,true,cellsL ((F i).map DV.str)⟩:=fun j hj=>by subst hj;exact h_same
 generalize hHH:optH (G0.upd 1 (seeB N)) o ⟨1,true,cellsL ((F i).map DV.str)⟩=HH at hb1 hbn hbo2 ⊢
 by_cases hlt:i<r.decls.length
 ·have hd:decide ((i:Int)<r.decls.length)=true:=by simpa using hlt
  have hg:=List.getElem?_eq_getElem hlt
  have hw:=w64 (n:=(i:Int)+1) (by omega) (by omega)
  have hFs:=hFs i _ hg
  generalize r.decls[i]=d at hg hFs
  have hlk:=see_lk d.name N
  generalize N.contains d.name=ub at hFs hlk
  have ne0:=nes2 1 c (by omega)
  cases ub with
  | true =>
   rw [if_pos rfl] at hFs
   repeat' ((with_reducible first|refine wr ?_|fail)<;>try simp only [go_sem,seval,hb1,hd,hg,hw,dc_w,hlk,ne0,h_same,h_upd2])
   refine ⟨(i+1,o),by simp [tmLe,tm,Tm.upd,hFs],?_,inv ⟨by omega,by omega,by rw [hFs];exact hno,(fun j hj=>by have:=ho j hj;omega)⟩,by simp only;omega⟩
   simp only [hFs]
   rw [hHH]
   exact sub_frs (hbn c (Nat.le_refl _))
  | false =>
   rw [if_neg (by decide)] at hFs
   repeat' ((with_reducible first|refine wr ?_|fail)<;>try simp only [go_sem,seval,hb1,hd,hg,hw,dc_w,hlk,ne0,h_same,h_upd2])
   have hln:(cellsL ((F i).map DV.str)).length=(F i).length * 1:=(cellsL_length (u:=1) (str_unit _)).trans (by simp)
   have hFk:=hFl i
   refine k_eval (r_apptodo (cs:=cellsL ((F i).map DV.str)) (fun e=>by rw [hno e];exact ⟨rfl,rfl⟩) (fun j hj=>by have:=ho j hj;rw [h_ne (by omega),h_ne (by omega)];exact hbo2 j hj) hln (by omega) (by omega) (by omega)) ?_
   simp only [go_sem,seval,hw]
   repeat' ((with_reducible first|refine wr ?_|fail)<;>try simp only [go_sem,seval,hw])
   refine ⟨(i+1,some (c+1+1)),by simp [tmLe,tm,Tm.upd,todoV,hFs],?_,inv ⟨by omega,by omega,(fun h=>by cases h),(fun j hj=>by cases hj;omega)⟩,by simp only;omega⟩
   refine sub_todoM (n:=2) hHH (fun j hj=>by rw [h_ne (by omega)];exact hzn j (by omega)) (fun i hi=>(ho i hi).1) (fun j hj=>by rw [h_ne (by omega),h_ne (by omega)]) ?_
   simp only [hFs,List.map_append,cellsL_append]
   rfl
 have hd:decide ((i:Int)<r.decls.length)=false:=by simpa using hlt
 have hi:i=r.decls.length:=by omega
 subst hi
 repeat' ((with_reducible first|refine wr ?_|fail)<;>try simp only [go_sem,seval,hd])
 rw [<- hHH]
 exact pc_todoX (fun h=>by rw [hno h];rfl) (by simp) (str_unit _)
end Go.Proofs.YtnmkkggfgdfmeaaGreatDoor
set_option maxHeartbeats 4000000
namespace Go.Proofs.YtnmkkggfgdfmeaaGreatDoor
open Go.Eng (IC IOper DReg IFn IsFn)
open Go.Sym
section
abbrev u14_8:IC:=qS [oM 41 8,oK 42 41 .eql 44,oM 43 42,gM 44 7 43,gK 45 44 43 .eql 38,oJ 46 43 45,oM 47 46,gM 48 10 47,gK 49 48 47 .eql 0,oJ 50 47 49,oM 51 50,gM 52 11 51,oG 53 (.len (.t 52)) 51,gK 54 53 51 .eql 1,oJ 55 51 54,oM 56 55,gM 57 11 56,oG 58 (.iad 1 (.t 57) (.k (.int .i64 0))) 56,gL 59 58 56,oG 60 (.bin .eql (.t 59) (.k (.string ⟨#[118]⟩))) 56,oJ 61 56 60,oM 62 61,gM 63 12 62,gK 64 63 62 .eql 3,oJ 65 62 64,oM 66 65,gM 67 13 66,gK 68 67 66 .eql 3,oJ 69 66 68,oM 0 69] .ret [7,8,10,11,12,13]
abbrev u14_7:IC:=qS [oD 37 4 2,oC 38 28 [.t 37,.k (.string ⟨#[108]⟩)],oM 36 38,oE 39 36 0,oE 40 36 1,oM 12 39,oM 13 40] u14_8 [4,7,8,10,11]
abbrev u14_6:IC:=qS [oD 34 4 2,oC 35 21 [.t 34],oM 11 35] u14_7 [4,7,8,10]
abbrev u14_5:IC:=qS [oD 30 4 2,oC 31 17 [.t 30],oM 29 31,oE 32 29 0,oE 33 29 1,oM 9 32,oM 10 33] u14_6 [4,7,8]
abbrev u14_4:IC:=qS [oD 25 1 2,oC 26 17 [.t 25],oM 24 26,oE 27 24 0,oE 28 24 1,oM 7 27,oM 8 28] u14_5 [1,4]
abbrev u14_3:IC:=qS [oC 20 15 [.k (.string ⟨#[108,97,109,112,32,108,32,51,59,32,118,97,114,32,118,32,48,59,32,109,111,100,101,32,109,32,49,32,123,32,111,110,32,115,116,97,114,116,32,123,32,108,105,103,104,116,32,108,32,56,59,32,125,32,125]⟩)],oM 19 20,oE 21 19 0,oE 22 19 1,oE 23 19 2,oW 4 (.agg #[.slice none 0 0,.slice none 0 0]),oS 4 21 2,oM 5 22,oM 6 23] u14_4 [1]
abbrev u14_2:IC:=qS [oC 15 15 [.k (.string ⟨#[108,97,109,112,32,108,32,51,59,32,109,111,100,101,32,109,32,49,32,123,32,111,110,32,115,116,97,114,116,32,123,32,115,99,111,114,101,32,108,59,32,125,32,125]⟩)],oM 14 15,oE 16 14 0,oE 17 14 1,oE 18 14 2,oW 1 (.agg #[.slice none 0 0,.slice none 0 0]),oS 1 16 2,oM 2 17,oM 3 18] u14_3 []
abbrev u14_1:IC:=qS [oV 0 (.bool false)] u14_2 []
def u14:IFn:=⟨70,u14_1,[.tmp 0]⟩
end
theorem isU14:IsFn Tryz.prog 14 u14:=by unfold IsFn;kernel_rfl
section
abbrev u12_4:IC:=qS [oM 17 3,oM 18 5,oB 19 17 18 .eql,oM 20 19,gM 21 4 20,gM 22 6 20,oG 23 (.bin .eql (.t 21) (.t 22)) 20,oJ 24 20 23,oM 2 24] .ret [3,4,5,6]
abbrev u12_3:IC:=qS [oD 13 1 2,oC 14 34 [.t 13],oM 12 14,oE 15 12 0,oE 16 12 1,oM 5 15,oM 6 16] u12_4 [1,3,4]
abbrev u12_2:IC:=qS [oD 8 1 2,oC 9 17 [.t 8],oM 7 9,oE 10 7 0,oE 11 7 1,oM 3 10,oM 4 11] u12_3 [1]
abbrev u12_1:IC:=qS [oX 1 0,oV 2 (.bool false)] u12_2 [0]
def u12:IFn:=⟨25,u12_1,[.tmp 2]⟩
end
theorem isU12:IsFn Tryz.prog 12 u12:=by unfold IsFn;kernel_rfl
section
abbrev u3_2:IC:=qS [oM 5 0,oM 6 1,oC 7 13 [.t 5,.t 6],oC 8 12 [.t 7],oM 9 8,⟨some 10,.call 14 [],some (9,true)⟩,oJ 11 9 10,oM 4 11] .ret [0,1]
abbrev u3_1:IC:=qS [oV 4 (.bool false)] u3_2 [0,1]
def u3:IFn:=⟨12,u3_1,[.tmp 4]⟩
end
section
abbrev u4_3:IC:=qS [oD 16 5 2,oC 17 12 [.t 16],oM 18 17,⟨some 19,.call 14 [],some (18,true)⟩,oJ 20 18 19,oM 4 20] .ret [5]
abbrev u4_2:IC:=qS [oM 9 0,oM 10 1,oC 11 16 [.t 9,.t 10],oC 12 15 [.t 11],oM 8 12,oE 13 8 0,oE 14 8 1,oE 15 8 2,oW 5 (.agg #[.slice none 0 0,.slice none 0 0]),oS 5 13 2,oM 6 14,oM 7 15] u4_3 [0,1]
abbrev u4_1:IC:=qS [oV 4 (.bool false)] u4_2 [0,1]
def u4:IFn:=⟨21,u4_1,[.tmp 4]⟩
end
section
abbrev u6_5:IC:=qS [oC 14 14 [],oM 2 14] .ret []
abbrev u6_4:IC:=qK u6_5 .skip (.t 13) [1,13]
abbrev u6_3:IC:=qS [oF 4 1 0,oL 5 4,oH 6 5,oK 7 6 .gtr 20,oM 8 7,hF 9 1 1 8,hL 10 9 8,oR 11 (.len (.t 10)) 8,hK 12 11 8 .gtr 5,oO 13 8 12] u6_4 [1]
abbrev u6_11:IC:=qK .skip (.exit 0) (.t 19) [1,3,19]
abbrev u6_10:IC:=qS [oM 15 3,oF 16 1 1,oL 17 16,oH 18 17,oB 19 15 18 .lss] u6_11 [1,3]
abbrev u6_15:IC:=qS [oC 30 14 [],oM 2 30] .ret []
abbrev u6_14:IC:=qK u6_15 .skip (.t 29) [1,3,29]
abbrev u6_13:IC:=qS [oF 22 1 1,oL 23 22,oM 24 3,oA 25 23 24 4,oF 26 25 2,oL 27 26,oH 28 27,oK 29 28 .gtr 8] u6_14 [1,3]
abbrev u6_16:IC:=qE [oM 20 3,oK 21 20 .add 1,oM 3 21] [1,3]
abbrev u6_12:IC:=qB u6_13 u6_16 1 [1,3]
abbrev u6_9:IC:=qQ u6_10 u6_12 [1,3]
abbrev u6_8:IC:=qJ (.loop u6_9) 0 [1,3]
abbrev u6_7:IC:=qS [oI 3 0] u6_8 [1]
abbrev u6_17:IC:=qS [oD 31 1 2,oC 32 12 [.t 31],oM 33 32,⟨some 34,.call 14 [],some (33,true)⟩,oJ 35 33 34,oM 2 35] .ret [1]
abbrev u6_6:IC:=qQ u6_7 u6_17 [1]
abbrev u6_2:IC:=qQ u6_3 u6_6 [1]
abbrev u6_1:IC:=qS [oX 1 0,oV 2 (.bool false)] u6_2 [0]
def u6:IFn:=⟨36,u6_1,[.tmp 2]⟩
end
theorem isU6:IsFn Tryz.prog 6 u6:=by unfold IsFn;kernel_rfl
section
abbrev u10_17:IC:=qK (.exit 1) .skip (.t 73) [7,17,64,65,66,73]
abbrev u10_16:IC:=qS [oF 70 17 3,oL 71 70,oH 72 71,oK 73 72 .gtr 4] u10_17 [7,17,64,65,66]
abbrev u10_22:IC:=qS [oV 6 (.bool false)] .ret []
abbrev u10_21:IC:=qK u10_22 .skip (.t 100) [7,64,65,66,100]
abbrev u10_20:IC:=qS [oM 88 18,oM 89 21,oB 90 88 89 .neq,oM 91 90,hM 92 19 91,hM 93 22 91,oR 94 (.bin .neq (.t 92) (.t 93)) 91,oO 95 91 94,oM 96 95,hM 97 20 96,hM 98 23 96,oR 99 (.bin .neq (.t 97) (.t 98)) 96,oO 100 96 99] u10_21 [7,18,19,20,21,22,23,64,65,66]
abbrev u10_19:IC:=qS [oD 82 7 2,oD 83 17 5,oC 84 27 [.t 82,.t 83],oM 81 84,oE 85 81 0,oE 86 81 1,oE 87 81 2,oM 21 85,oM 22 86,oM 23 87] u10_20 [7,17,18,19,20,64,65,66]
abbrev u10_18:IC:=qS [oD 75 7 2,oD 76 17 5,oC 77 26 [.t 75,.t 76],oM 74 77,oE 78 74 0,oE 79 74 1,oE 80 74 2,oM 18 78,oM 19 79,oM 20 80] u10_19 [7,17,64,65,66]
abbrev u10_15:IC:=qQ u10_16 u10_18 [7,17,64,65,66]
abbrev u10_14:IC:=qS [oA 68 64 66 5,oD 69 68 5,oW 17 (.agg #[.int .i64 0,.int .i64 0,.string ⟨#[]⟩,.slice none 0 0,.int .i64 0]),oS 17 69 5] u10_15 [7,64,65,66]
abbrev u10_23:IC:=qE [oK 101 66 .add 1,oM 66 101] [7,64,65,66]
abbrev u10_13:IC:=qB u10_14 u10_23 1 [7,64,65,66]
abbrev u10_12:IC:=qC .skip u10_13 (.exit 0) (.t 67) [7,64,65,66,67]
abbrev u10_11:IC:=qS [oB 67 66 65 .lss] u10_12 [7,64,65,66]
abbrev u10_10:IC:=qJ (.loop u10_11) 0 [7,64,65,66]
abbrev u10_9:IC:=qS [oD 56 9 5,oD 57 12 5,oD 58 15 5,oD 59 4 5,oD 60 12 5,oD 61 12 5,⟨some 62,.new (.bsl 5 2 #[.int .i64 0,.int .i64 0,.string ⟨#[]⟩,.slice none 0 0,.int .i64 0] [(0,.t 60),(1,.t 61)]),none⟩,oP 63 (.bld #[.int .i64 0,.int .i64 0,.string ⟨#[]⟩,.slice none 0 0,.int .i64 0] [(0,1),(1,1),(2,1),(3,1),(4,1)] [(0,.k (.int .i64 21)),(3,.t 62)]),⟨some 64,.new (.bsl 5 5 #[.int .i64 0,.int .i64 0,.string ⟨#[]⟩,.slice none 0 0,.int .i64 0] [(0,.t 56),(1,.t 57),(2,.t 58),(3,.t 59),(4,.t 63)]),none⟩,oH 65 64,oI 66 0] u10_10 [4,7,9,12,15]
abbrev u10_24:IC:=qS [oC 102 14 [],oM 6 102] .ret []
abbrev u10_8:IC:=qQ u10_9 u10_24 [4,7,9,12,15]
abbrev u10_7:IC:=qS [oM 48 2,oP 49 (.bin .rem (.t 48) (.k (.int .u8 15))),oP 50 (.cvi .i64 (.t 49)),oK 51 50 .add 10,oD 52 9 5,oD 53 12 5,⟨some 54,.new (.bsl 5 2 #[.int .i64 0,.int .i64 0,.string ⟨#[]⟩,.slice none 0 0,.int .i64 0] [(0,.t 52),(1,.t 53)]),none⟩,oP 55 (.bld #[.int .i64 0,.int .i64 0,.string ⟨#[]⟩,.slice none 0 0,.int .i64 0] [(0,1),(1,1),(2,1),(3,1),(4,1)] [(0,.t 51),(3,.t 54),(4,.k (.int .i64 5))]),oW 15 (.agg #[.int .i64 0,.int .i64 0,.string ⟨#[]⟩,.slice none 0 0,.int .i64 0]),oS 15 55 5] u10_8 [2,4,7,9,12]
abbrev u10_6:IC:=qS [oM 42 8,oC 43 25 [.t 42,.k (.int .i64 3)],oC 44 23 [.t 43],oM 41 44,oE 45 41 0,oE 46 41 1,oE 47 41 2,oW 12 (.agg #[.int .i64 0,.int .i64 0,.string ⟨#[]⟩,.slice none 0 0,.int .i64 0]),oS 12 45 5,oM 13 46,oM 14 47] u10_7 [2,4,7,8,9]
abbrev u10_5:IC:=qS [oM 35 8,oC 36 24 [.t 35,.k (.int .i64 3)],oC 37 23 [.t 36],oM 34 37,oE 38 34 0,oE 39 34 1,oE 40 34 2,oW 9 (.agg #[.int .i64 0,.int .i64 0,.string ⟨#[]⟩,.slice none 0 0,.int .i64 0]),oS 9 38 5,oM 10 39,oM 11 40] u10_6 [2,4,7,8]
abbrev u10_4:IC:=qS [oM 28 8,oM 29 2,oP 30 (.bin .rem (.t 29) (.k (.int .u8 9))),oP 31 (.cvi .i64 (.t 30)),oN 32 28,oF 33 32 2,oS 33 31 1] u10_5 [2,4,7,8]
abbrev u10_3:IC:=qS [oM 26 0,oC 27 22 [.t 26],oM 8 27] u10_4 [0,2,4,7]
abbrev u10_2:IC:=qS [oM 24 0,oC 25 13 [.t 24,.k (.int .u8 0)],oW 7 (.agg #[.slice none 0 0,.slice none 0 0]),oS 7 25 2] u10_3 [0,2,4]
abbrev u10_1:IC:=qS [oX 4 1,oV 6 (.bool false)] u10_2 [0,1,2]
def u10:IFn:=⟨103,u10_1,[.tmp 6]⟩
end
section
abbrev u18_8:IC:=qK .skip (.exit 0) (.t 12) [1,2,4,5,6,12]
abbrev u18_7:IC:=qS [oM 8 6,oF 9 2 0,oL 10 9,oH 11 10,oB 12 8 11 .lss] u18_8 [1,2,4,5,6]
abbrev u18_10:IC:=qG [oF 15 5 0,oL 16 15,oF 17 2 0,oL 18 17,oM 19 6,oM 20 1,oB 21 19 20 .add,oF 22 2 0,oL 23 22,oH 24 23,oB 25 21 24 .rem,oA 26 18 25 4,oD 27 26 4,⟨some 28,.new (.bsl 4 1 #[.int .i64 0,.string ⟨#[]⟩,.int .i64 0,.int .i64 0] [(0,.t 27)]),none⟩,oT 29 16 28 4 40,oF 30 5 0,oS 30 29 1] [(0,none),(1,none),(2,none),(3,none),(4,none),(5,none),(6,none),(7,none),(8,none),(9,none),(10,none),(11,none),(12,none),(13,none),(14,some []),(15,none),(16,some [])] 17 [1,2,4,5,6]
abbrev u18_11:IC:=qE [oM 13 6,oK 14 13 .add 1,oM 6 14] [1,2,4,5,6]
abbrev u18_9:IC:=qB u18_10 u18_11 1 [1,2,4,5,6]
abbrev u18_6:IC:=qQ u18_7 u18_9 [1,2,4,5,6]
abbrev u18_5:IC:=qJ (.loop u18_6) 0 [1,2,4,5,6]
abbrev u18_4:IC:=qS [oI 6 0] u18_5 [1,2,4,5]
abbrev u18_17:IC:=qK .skip (.exit 2) (.t 35) [1,2,4,5,7,35]
abbrev u18_16:IC:=qS [oM 31 7,oF 32 2 1,oL 33 32,oH 34 33,oB 35 31 34 .lss] u18_17 [1,2,4,5,7]
abbrev u18_19:IC:=qG [oF 38 5 1,oL 39 38,oF 40 2 1,oL 41 40,oM 42 7,oM 43 1,oB 44 42 43 .add,oF 45 2 1,oL 46 45,oH 47 46,oB 48 44 47 .rem,oA 49 41 48 4,oD 50 49 4,⟨some 51,.new (.bsl 4 1 #[.string ⟨#[]⟩,.int .i64 0,.slice none 0 0,.int .i64 0] [(0,.t 50)]),none⟩,oT 52 39 51 4 56,oF 53 5 1,oS 53 52 1] [(0,none),(1,none),(2,none),(3,none),(4,none),(5,none),(6,none),(7,none),(8,none),(9,none),(10,none),(11,none),(12,none),(13,none),(14,some []),(15,none),(16,some [])] 17 [1,2,4,5,7]
abbrev u18_20:IC:=qE [oM 36 7,oK 37 36 .add 1,oM 7 37] [1,2,4,5,7]
abbrev u18_18:IC:=qB u18_19 u18_20 3 [1,2,4,5,7]
abbrev u18_15:IC:=qQ u18_16 u18_18 [1,2,4,5,7]
abbrev u18_14:IC:=qJ (.loop u18_15) 2 [1,2,4,5,7]
abbrev u18_13:IC:=qS [oI 7 0] u18_14 [1,2,4,5]
abbrev u18_21:IC:=qS [oD 54 5 2,oS 4 54 2] .ret [4,5]
abbrev u18_12:IC:=qQ u18_13 u18_21 [1,2,4,5]
abbrev u18_3:IC:=qQ u18_4 u18_12 [1,2,4,5]
abbrev u18_2:IC:=qS [oW 5 (.agg #[.slice none 0 0,.slice none 0 0])] u18_3 [1,2,4]
abbrev u18_1:IC:=qS [oX 2 0,oW 4 (.agg #[.slice none 0 0,.slice none 0 0])] u18_2 [0,1]
def u18:IFn:=⟨55,u18_1,[.cell 4 2 true]⟩
end
section
abbrev u8_7:IC:=qS [oC 21 14 [],oM 2 21] .ret []
abbrev u8_6:IC:=qK u8_7 .skip (.t 20) [3,20]
abbrev u8_5:IC:=qS [oM 19 5,oK 20 19 .neq 0] u8_6 [3,5]
abbrev u8_4:IC:=qS [oD 15 3 2,oC 16 17 [.t 15],oM 14 16,oE 17 14 0,oE 18 14 1,oM 4 17,oM 5 18] u8_5 [3]
abbrev u8_13:IC:=qS [oV 2 (.bool false)] .ret []
abbrev u8_12:IC:=qK u8_13 .skip (.t 38) [6,38]
abbrev u8_11:IC:=qS [oM 31 8,oK 32 31 .neq 0,oM 33 32,oR 34 (.ld 2 true (.t 6)) 33,⟨some 35,.call 21 [.t 34],some (33,false)⟩,oR 36 (.len (.t 35)) 33,hK 37 36 33 .neq 0,oO 38 33 37] u8_12 [6,8]
abbrev u8_10:IC:=qS [oD 27 6 2,oC 28 17 [.t 27],oM 26 28,oE 29 26 0,oE 30 26 1,oM 7 29,oM 8 30] u8_11 [6]
abbrev u8_19:IC:=qK .skip (.exit 0) (.t 43) [6,9,43]
abbrev u8_18:IC:=qS [oM 39 9,oF 40 6 0,oL 41 40,oH 42 41,oB 43 39 42 .lss] u8_19 [6,9]
abbrev u8_24:IC:=qS [oV 2 (.bool false)] .ret []
abbrev u8_23:IC:=qK u8_24 .skip (.t 60) [6,9,60]
abbrev u8_22:IC:=qS [oM 59 11,oK 60 59 .neq 8] u8_23 [6,9,11]
abbrev u8_21:IC:=qD [oD 47 6 2,oF 48 6 0,oL 49 48,oM 50 9,oA 51 49 50 4,oF 52 51 1,oL 53 52,⟨some 54,.new (.bsl 1 1 #[.string ⟨#[]⟩] [(0,.t 53)]),none⟩,oC 55 20 [.t 47,.t 54],oC 56 17 [.t 55],oM 46 56,oE 57 46 0,oE 58 46 1,oM 10 57,oM 11 58] u8_22 [(0,none),(1,none),(2,none),(3,none),(4,none),(5,none),(6,none),(7,none),(8,some []),(9,some []),(10,none),(11,none),(12,none),(13,some [12]),(14,some [])] 15 [6,9]
abbrev u8_25:IC:=qE [oM 44 9,oK 45 44 .add 1,oM 9 45] [6,9]
abbrev u8_20:IC:=qB u8_21 u8_25 1 [6,9]
abbrev u8_17:IC:=qQ u8_18 u8_20 [6,9]
abbrev u8_16:IC:=qJ (.loop u8_17) 0 [6,9]
abbrev u8_15:IC:=qS [oI 9 0] u8_16 [6]
abbrev u8_26:IC:=qS [oC 61 14 [],oM 2 61] .ret []
abbrev u8_14:IC:=qQ u8_15 u8_26 [6]
abbrev u8_9:IC:=qQ u8_10 u8_14 [6]
abbrev u8_8:IC:=qD [oD 22 3 2,oD 23 3 2,oC 24 21 [.t 23],oC 25 20 [.t 22,.t 24],oW 6 (.agg #[.slice none 0 0,.slice none 0 0]),oS 6 25 2] u8_9 [(0,none),(1,none),(4,none),(2,some [0,4]),(3,some [4]),(5,some [])] 6 [3]
abbrev u8_3:IC:=qQ u8_4 u8_8 [3]
abbrev u8_2:IC:=qS [oM 12 0,oC 13 13 [.t 12,.k (.int .u8 0)],oW 3 (.agg #[.slice none 0 0,.slice none 0 0]),oS 3 13 2] u8_3 [0]
abbrev u8_1:IC:=qS [oV 2 (.bool false)] u8_2 [0]
def u8:IFn:=⟨62,u8_1,[.tmp 2]⟩
end
section
abbrev u9_3:IC:=qS [oM 11 4,oK 12 11 .eql 0,oM 13 12,⟨some 14,.call 14 [],some (13,true)⟩,oJ 15 13 14,oM 2 15] .ret [4]
abbrev u9_2:IC:=qS [oM 6 0,oC 7 13 [.t 6,.k (.int .u8 0)],oC 8 17 [.t 7],oM 5 8,oE 9 5 0,oE 10 5 1,oM 3 9,oM 4 10] u9_3 [0]
abbrev u9_1:IC:=qS [oV 2 (.bool false)] u9_2 [0]
def u9:IFn:=⟨16,u9_1,[.tmp 2]⟩
end
end Go.Proofs.YtnmkkggfgdfmeaaGreatDoor
set_option maxHeartbeats 8000000
namespace Go.Proofs.YtnmkkggfgdfmeaaGreatDoor
open Go.Eng (IC IOper DReg IFn IsFn)
open Go.Sym Go.Pb
theorem chkV_2 (r:Ru):∃ a b:Int,chkV r=.tup [I64 a,I64 b]:=by
 unfold chkV erV
 repeat' split
 all_goals exact ⟨_,_,rfl⟩
theorem c_checks (r:Ru) (hB:r.sz<4000000):PC Tryz.prog 12 [r.v] (.bool true):=by
 have h1:=c_Check32 r hB
 have h2:=c_CheckR r hB
 obtain ⟨a,b,hab⟩:=chkV_2 r
 rw [hab] at h1 h2
 refine PC.of mixedU isU12 (Nat.le_of_ble_eq_true rfl) (by simp [Ru.v,DV.nlL,DV.nl,nlL_dcs,nlL_mds]) rfl ?_
 have hrv:r.v=.agg [dcsV r.decls,mdsV r.modes]:=rfl
 rw [hrv] at h1 h2 ⊢
 show IW Tryz.prog 25 u12_1 ⟨argT _,_,_⟩ (rt [.tmp 2] _)
 repeat' ((with_reducible first|refine wr ?_|refine cpc h1 ?_|refine cpc h2 ?_|fail)<;>try simp only [go_sem,seval])
 all_goals exact pc_ret rfl
def lit1:List UInt8:=[108,97,109,112,32,108,32,51,59,32,109,111,100,101,32,109,32,49,32,123,32,111,110,32,115,116,97,114,116,32,123,32,115,99,111,114,101,32,108,59,32,125,32,125]
def lit2:List UInt8:=[108,97,109,112,32,108,32,51,59,32,118,97,114,32,118,32,48,59,32,109,111,100,101,32,109,32,49,32,123,32,111,110,32,115,116,97,114,116,32,123,32,108,105,103,104,116,32,108,32,56,59,32,125,32,125]
def ru1:Ru:=⟨[⟨3,[108],3,0⟩],[⟨[109],1,[⟨1,[],[.mk 4 [] [] [.mk 2 0 [108] [] 38] [] [] 32],21⟩],10⟩]⟩
def ru2:Ru:=⟨[⟨3,[108],3,0⟩,⟨6,[118],0,10⟩],[⟨[109],1,[⟨1,[],[.mk 8 [108] [] [.mk 1 8 [] [] 49] [] [] 41],30⟩],19⟩]⟩
theorem par_of {s:List UInt8} {L:List Tok} {r:Ru} {i:Nat} {p o q:Int} (h1:scanM s=(L,0,0)) (N:Nat) (h2:∀ n,rulR L s.length (n+N) rd0=some (r,⟨i,0,p,o,q⟩)):parM s=(r,0,0):=by
 have hE:Evt (fun f=>rulR L s.length f rd0) (r,⟨i,0,p,o,q⟩):=⟨N,fun f hf=>by
  obtain ⟨n,rfl⟩:∃ n,f=n+N:=⟨f-N,by omega⟩
  exact h2 n⟩
 have hr:=Evt.uniq (rulF_e L s.length) hE
 unfold parM
 dsimp only
 rw [h1]
 dsimp only
 rw [if_neg (by decide),hr,if_neg (by show ¬ ((0:Int) == 0)=false;decide)]
theorem par1:parM lit1=(ru1,0,0):=par_of (L:=(scanM lit1).1) (by decide +kernel) 40 (fun n=>rfl)
theorem par2:parM lit2=(ru2,0,0):=par_of (L:=(scanM lit2).1) (by decide +kernel) 40 (fun n=>rfl)
theorem chk1:chkV ru1=.tup [I64 38,I64 44]:=by rfl
theorem chk2:chkV ru2=.tup [I64 0,I64 0]:=by rfl
theorem unu2:unuV ru2=.lst [.str [118]]:=by rfl
theorem lok2:lokV ru2 [108]=.tup [I64 3,I64 3]:=by rfl
theorem c_sane:PC Tryz.prog 14 [] (.bool true):=by
 have p1:=c_Parse lit1 (by decide)
 have p2:=c_Parse lit2 (by decide)
 rw [par1] at p1
 rw [par2] at p2
 have k1:=c_Check32 ru1 (by decide)
 have k2:=c_Check32 ru2 (by decide)
 rw [chk1] at k1
 rw [chk2] at k2
 have u2:=c_Unused32 ru2 (by decide)
 rw [unu2] at u2
 have l2:=c_Lookup32 ru2 [108] (by decide)
 rw [lok2] at l2
 dsimp only [parV] at p1 p2
 have e1:ru1.v=.agg [dcsV ru1.decls,mdsV ru1.modes]:=rfl
 have e2:ru2.v=.agg [dcsV ru2.decls,mdsV ru2.modes]:=rfl
 rw [e1] at p1 k1
 rw [e2] at p2 k2 u2 l2
 generalize ru1.decls.map Dc.v=d1 at *
 generalize ru1.modes.map Md.v=m1 at *
 generalize ru2.decls.map Dc.v=d2 at *
 generalize ru2.modes.map Md.v=m2 at *
 unfold lit1 at p1
 unfold lit2 at p2
 refine PC.of mixedU isU14 (Nat.le_of_ble_eq_true rfl) (by simp [DV.nlL,DV.nl]) (by simp [DV.nlL,DV.nl]) ?_
 show IW Tryz.prog 70 u14_1 ⟨argT _,_,_⟩ (rt [.tmp 0] _)
 repeat' ((with_reducible first|refine wr ?_|refine cpc p1 ?_|refine cpc p2 ?_|refine cpc k1 ?_|refine cpc k2 ?_|refine cpc u2 ?_|refine cpc l2 ?_|fail)<;>try simp only [go_sem,seval])
 all_goals exact pc_ret rfl
theorem c_CheckRaw (r:Ru) (hB:r.sz<4000000):PC Tryz.prog 6 [r.v] (.bool true):=by
 have hs:=c_sane
 have hc:=c_checks r hB
 have hdl:=sz_dl r
 have hml:=sz_ml r
 have hms:∀ m∈r.modes,m.sz<=r.sz:=fun m h=>sz_md h
 refine PC.of mixedU isU6 (Nat.le_of_ble_eq_true rfl) (by simp [Ru.v,DV.nlL,DV.nl,nlL_dcs,nlL_mds]) rfl ?_
 have hrv:r.v=.agg [dcsV r.decls,mdsV r.modes]:=rfl
 rw [hrv] at hc ⊢
 show IW Tryz.prog 36 u6_1 ⟨argT _,_,_⟩ (rt [.tmp 2] _)
 repeat' ((with_reducible first|refine wr ?_|refine cpc hs ?_|refine cpc hc ?_|refine wb2 ?_ ?_<;>(intro hb;try simp only [hb])|fail)<;>try simp only [go_sem,seval,List.length_map])
 ·exact pc_ret rfl
 ·exact pc_ret rfl
 refine i_loop (fun i:Nat=>[(1,.ptr 0 0),(3,I64 i)]) (fun _=>Sym.nil.upd 0 ⟨0,true,[dcsV r.decls,mdsV r.modes]⟩) (fun i c=>i<=r.modes.length) (fun i=>r.modes.length-i) 0 (by simp [tmLe,tm,Tm.upd]) (Sub.refl _) (Nat.zero_le _) ?_
 rintro i c hk
 by_cases hlt:i<r.modes.length
 ·have hd:decide ((i:Int)<r.modes.length)=true:=by simpa using hlt
  have hg:=List.getElem?_eq_getElem hlt
  have hw:=w64 (n:=(i:Int)+1) (by omega) (by omega)
  generalize r.modes[i]=d at hg
  repeat' ((with_reducible first|refine wr ?_|refine cpc hs ?_|refine cpc hc ?_|refine wb2 ?_ ?_<;>(intro hb;try simp only [hb])|fail)<;>try simp only [go_sem,seval,hd,hg,hw,md_w,List.length_map])
  ·exact pc_ret rfl
  ·exact ⟨i+1,by simp,Sub.refl _,inv (by omega),by omega⟩
 have hd:decide ((i:Int)<r.modes.length)=false:=by simpa using hlt
 repeat' ((with_reducible first|refine wr ?_|refine cpc hs ?_|refine cpc hc ?_|fail)<;>try simp only [go_sem,seval,hd,List.length_map])
 exact pc_ret rfl
open Go.Sym Go.Pb Go.RowKit
section
variable {H:Type} {enc:TypeId × Value->H} {W:World} {hT:TabOk W}
theorem upto_all:∀ l:List (DataW H),Rows.uptoBulkAll l=(l.map Rows.uptoBulk).sum
 | []=>by simp [Rows.uptoBulkAll]
 | d :: l=>by rw [Rows.uptoBulkAll,upto_all l];simp
theorem upto_bulky:Bulky (Rows.uptoBulk (H:=H)) where
 pos:=fun d=>by
  cases d with
  | lit l=>cases l<;>simp [Rows.uptoBulk]
  | nil=>simp [Rows.uptoBulk]
  | ptr d=>simp [Rows.uptoBulk]
  | slice elems spare=>simp [Rows.uptoBulk]
  | agg parts=>simp [Rows.uptoBulk]
  | iface t d=>simp [Rows.uptoBulk]
  | map entries=>simp [Rows.uptoBulk]
  | held h=>simp [Rows.uptoBulk]
 str:=fun l=>by simp [Rows.uptoBulk]
 slc:=fun xs ys=>by simp only [Rows.uptoBulk,upto_all];omega
 agg:=fun xs=>by simp only [Rows.uptoBulk,upto_all]
abbrev RB (enc:TypeId × Value->H) (W:World) (hT:TabOk W) (t:TypeId) (N:Nat) {α : Type} (G : α -> DV) (sz : α -> Nat):Prop:=ReadsB enc Tryz.prog W hT (Rows.uptoBulk (H:=H)) t N G sz
theorem rbI (N:Nat):RB enc W hT 3 N I64 (fun _=>1):=rb_int upto_bulky Tryz.underlying3
theorem rbS (N:Nat):RB enc W hT 9 N DV.str (fun s=>s.length+1):=rb_str upto_bulky Tryz.underlying9
theorem off5 {fs:Array Field} {k:Nat} (hk:fs.size=k) (h0:((fs.toList.map (·.offset)) == List.range k && fs.toList.all fun f=>Tryz.prog.cellsOf f.type == 1)=true):∀ (j:Nat) f,fs[j]? = some f->f.offset=j/\Tryz.prog.cellsOf f.type=1:=by
 have h:(fs.toList.map (·.offset))=List.range k/\∀ f∈fs.toList,Tryz.prog.cellsOf f.type=1:=by
  rw [Bool.and_eq_true] at h0
  exact ⟨by simpa using h0.1,fun f hf=>by simpa using List.all_eq_true.1 h0.2 f hf⟩
 intro j f hf
 have hf':fs.toList[j]? = some f:=by simpa using hf
 refine ⟨?_,h.2 f (List.mem_of_getElem? hf')⟩
 have e:(fs.toList.map (·.offset))[j]? = some f.offset:=by simp [hf']
 rw [h.1] at e
 have:=(List.getElem?_eq_some_iff.1 e)
 obtain ⟨h1,h2⟩:=this
 rw [List.getElem_range] at h2
 exact h2.symm
theorem len4 {α : Type} {l:List α} (h:l.length=4):∃ a b c d,l=[a,b,c,d]:=by
 match l,h with
 | [a,b,c,d],_=>exact ⟨a,b,c,d,rfl⟩
theorem len5 {α : Type} {l:List α} (h:l.length=5):∃ a b c d e,l=[a,b,c,d,e]:=by
 match l,h with
 | [a,b,c,d,e],_=>exact ⟨a,b,c,d,e,rfl⟩
theorem len7 {α : Type} {l:List α} (h:l.length=7):∃ a b c d e f g,l=[a,b,c,d,e,f,g]:=by
 match l,h with
 | [a,b,c,d,e,f,g],_=>exact ⟨a,b,c,d,e,f,g,rfl⟩
theorem len2 {α : Type} {l:List α} (h:l.length=2):∃ a b,l=[a,b]:=by
 match l,h with
 | [a,b],_=>exact ⟨a,b,rfl⟩
theorem RB.val {t:TypeId} {N n:Nat} {α : Type} {G : α -> DV} {sz : α -> Nat} {y:Value × DataW H × List MemPlace} (h:RB enc W hT t N G sz) (hn:DataW.trod enc Tryz.prog W 0 (fun _=>true) true n t [y.1]=some y.2) (hb:Rows.uptoBulk y.2.1<=N) (hG:∀ a,(G a).cells=[G a]) :
  ∃ a,sz a<=Rows.uptoBulk y.2.1/\VRel (topR W hT) (G a) y.1:=by
 obtain ⟨a,r,q⟩:=h n _ _ hn hb
 rw [hG] at q
 exact ⟨a,r,q.2 0 _ _ rfl rfl⟩
theorem rbExs {N:Nat} (h:RB enc W hT 53 N Ex.v Ex.sz):RB enc W hT 51 (N+1) (fun l:List Ex=>exsV l) (fun l=>(l.map Ex.sz).sum) :=
 rb_slice upto_bulky (u:=5) (by omega) Tryz.underlying51 (by kernel_rfl) (fun a=>by rw [Ex.v_w];rfl) (fun a d hd=>by
  rw [Ex.v_w] at hd
  have hd:d∈[I64 a.kind,I64 a.value,.str a.name,exsV a.args,I64 a.pos]:=hd
  simp at hd;rcases hd with rfl|rfl|rfl|rfl|rfl<;>rfl) h
theorem rbEx:∀ N,RB enc W hT 53 N Ex.v Ex.sz
 | 0=>fun n cs x h hx=>by have:=upto_bulky.pos x.1;omega
 | N+1=>fun n cs x h hx=>by
  obtain ⟨m,ys,rfl,hl,hb,hp⟩:=rb_parts upto_bulky Tryz.underlying53 rfl (off5 rfl (by kernel_rfl)) (by kernel_rfl) h
  obtain ⟨y0,y1,y2,y3,y4,rfl⟩:=len5 hl
  simp only [List.map_cons,List.map_nil,List.sum_cons,List.sum_nil] at hb
  obtain ⟨a0, -,r0⟩:=(rbI _).val (hp 0 _ y0 rfl rfl) (Nat.le_refl _) (fun _=>rfl)
  obtain ⟨a1, -,r1⟩:=(rbI _).val (hp 1 _ y1 rfl rfl) (Nat.le_refl _) (fun _=>rfl)
  obtain ⟨a2,s2,r2⟩:=(rbS _).val (hp 2 _ y2 rfl rfl) (Nat.le_refl _) (fun _=>rfl)
  obtain ⟨a3,s3,r3⟩:=(rbExs (rbEx N)).val (hp 3 _ y3 rfl rfl) (by omega) (fun _=>rfl)
  obtain ⟨a4, -,r4⟩:=(rbI _).val (hp 4 _ y4 rfl rfl) (Nat.le_refl _) (fun _=>rfl)
  refine ⟨.mk a0 a1 a2 a3 a4,?_,?_⟩
  ·rw [Ex.sz,Ex.szs_map];omega
  ·rw [Ex.v_w]
   exact .cons r0 (.cons r1 (.cons r2 (.cons r3 (.cons r4 .nil))))
theorem rbSts {N:Nat} (h:RB enc W hT 127 N Pb.St.v Pb.St.sz):RB enc W hT 84 (N+1) (fun l:List Pb.St=>stsV l) (fun l=>(l.map Pb.St.sz).sum) :=
 rb_slice upto_bulky (u:=7) (by omega) Tryz.underlying84 (by kernel_rfl) (fun a=>by rw [Pb.St.v_w];rfl) (fun a d hd=>by
  rw [Pb.St.v_w] at hd
  have hd:d∈[I64 a.kind,.str a.name,.str a.text,exsV a.args,stsV a.thn,stsV a.els,I64 a.pos]:=hd
  simp at hd;rcases hd with rfl|rfl|rfl|rfl|rfl|rfl|rfl<;>rfl) h
theorem rbSt:∀ N,RB enc W hT 127 N Pb.St.v Pb.St.sz
 | 0=>fun n cs x h hx=>by have:=upto_bulky.pos x.1;omega
 | N+1=>fun n cs x h hx=>by
  obtain ⟨m,ys,rfl,hl,hb,hp⟩:=rb_parts upto_bulky Tryz.underlying127 rfl (off5 rfl (by kernel_rfl)) (by kernel_rfl) h
  obtain ⟨y0,y1,y2,y3,y4,y5,y6,rfl⟩:=len7 hl
  simp only [List.map_cons,List.map_nil,List.sum_cons,List.sum_nil] at hb
  obtain ⟨a0, -,r0⟩:=(rbI _).val (hp 0 _ y0 rfl rfl) (Nat.le_refl _) (fun _=>rfl)
  obtain ⟨a1,s1,r1⟩:=(rbS _).val (hp 1 _ y1 rfl rfl) (Nat.le_refl _) (fun _=>rfl)
  obtain ⟨a2,s2,r2⟩:=(rbS _).val (hp 2 _ y2 rfl rfl) (Nat.le_refl _) (fun _=>rfl)
  obtain ⟨a3,s3,r3⟩:=(rbExs (rbEx N)).val (hp 3 _ y3 rfl rfl) (by omega) (fun _=>rfl)
  obtain ⟨a4,s4,r4⟩:=(rbSts (rbSt N)).val (hp 4 _ y4 rfl rfl) (by omega) (fun _=>rfl)
  obtain ⟨a5,s5,r5⟩:=(rbSts (rbSt N)).val (hp 5 _ y5 rfl rfl) (by omega) (fun _=>rfl)
  obtain ⟨a6, -,r6⟩:=(rbI _).val (hp 6 _ y6 rfl rfl) (Nat.le_refl _) (fun _=>rfl)
  refine ⟨.mk a0 a1 a2 a3 a4 a5 a6,?_,?_⟩
  ·rw [Pb.St.sz,Ex.szs_map,Pb.St.szs_map,Pb.St.szs_map];omega
  ·rw [Pb.St.v_w]
   exact .cons r0 (.cons r1 (.cons r2 (.cons r3 (.cons r4 (.cons r5 (.cons r6 .nil))))))
theorem rbDc (N:Nat):RB enc W hT 38 N Dc.v Dc.sz:=fun n cs x h hx=>by
 obtain ⟨m,ys,rfl,hl,hb,hp⟩:=rb_parts upto_bulky Tryz.underlying38 rfl (off5 rfl (by kernel_rfl)) (by kernel_rfl) h
 obtain ⟨y0,y1,y2,y3,rfl⟩:=len4 hl
 simp only [List.map_cons,List.map_nil,List.sum_cons,List.sum_nil] at hb
 obtain ⟨a0, -,r0⟩:=(rbI _).val (hp 0 _ y0 rfl rfl) (Nat.le_refl _) (fun _=>rfl)
 obtain ⟨a1,s1,r1⟩:=(rbS _).val (hp 1 _ y1 rfl rfl) (Nat.le_refl _) (fun _=>rfl)
 obtain ⟨a2, -,r2⟩:=(rbI _).val (hp 2 _ y2 rfl rfl) (Nat.le_refl _) (fun _=>rfl)
 obtain ⟨a3, -,r3⟩:=(rbI _).val (hp 3 _ y3 rfl rfl) (Nat.le_refl _) (fun _=>rfl)
 exact ⟨⟨a0,a1,a2,a3⟩,by unfold Dc.sz;show 1+a1.length<=_;omega,.cons r0 (.cons r1 (.cons r2 (.cons r3 .nil)))⟩
theorem rbDcs (N:Nat):RB enc W hT 24 (N+1) (fun l:List Dc=>dcsV l) (fun l=>(l.map Dc.sz).sum) :=
 rb_slice upto_bulky (u:=4) (by omega) Tryz.underlying24 (by kernel_rfl) (fun a=>rfl) (fun a d hd=>by
  have hd:d∈[I64 a.kind,.str a.name,I64 a.value,I64 a.pos]:=hd
  simp at hd;rcases hd with rfl|rfl|rfl|rfl<;>rfl) (rbDc N)
theorem rbHd (N:Nat):RB enc W hT 86 N Hd.v Hd.sz:=fun n cs x h hx=>by
 obtain ⟨m,ys,rfl,hl,hb,hp⟩:=rb_parts upto_bulky Tryz.underlying86 rfl (off5 rfl (by kernel_rfl)) (by kernel_rfl) h
 obtain ⟨y0,y1,y2,y3,rfl⟩:=len4 hl
 simp only [List.map_cons,List.map_nil,List.sum_cons,List.sum_nil] at hb
 obtain ⟨a0, -,r0⟩:=(rbI _).val (hp 0 _ y0 rfl rfl) (Nat.le_refl _) (fun _=>rfl)
 obtain ⟨a1,s1,r1⟩:=(rbS _).val (hp 1 _ y1 rfl rfl) (Nat.le_refl _) (fun _=>rfl)
 obtain ⟨a2,s2,r2⟩:=(rbSts (rbSt N)).val (hp 2 _ y2 rfl rfl) (by omega) (fun _=>rfl)
 obtain ⟨a3, -,r3⟩:=(rbI _).val (hp 3 _ y3 rfl rfl) (Nat.le_refl _) (fun _=>rfl)
 exact ⟨⟨a0,a1,a2,a3⟩,by unfold Hd.sz;rw [Pb.St.szs_map];show 1+a1.length+(a2.map Pb.St.sz).sum<=_;omega,.cons r0 (.cons r1 (.cons r2 (.cons r3 .nil)))⟩
theorem rbHds (N:Nat):RB enc W hT 40 (N+1) (fun l:List Hd=>hdsV l) (fun l=>(l.map Hd.sz).sum) :=
 rb_slice upto_bulky (u:=4) (by omega) Tryz.underlying40 (by kernel_rfl) (fun a=>rfl) (fun a d hd=>by
  have hd:d∈[I64 a.trig,.str a.name,stsV a.body,I64 a.pos]:=hd
  simp at hd;rcases hd with rfl|rfl|rfl|rfl<;>rfl) (rbHd N)
theorem rbMd (N:Nat):RB enc W hT 42 N Md.v Md.sz:=fun n cs x h hx=>by
 obtain ⟨m,ys,rfl,hl,hb,hp⟩:=rb_parts upto_bulky Tryz.underlying42 rfl (off5 rfl (by kernel_rfl)) (by kernel_rfl) h
 obtain ⟨y0,y1,y2,y3,rfl⟩:=len4 hl
 simp only [List.map_cons,List.map_nil,List.sum_cons,List.sum_nil] at hb
 obtain ⟨a0,s0,r0⟩:=(rbS _).val (hp 0 _ y0 rfl rfl) (Nat.le_refl _) (fun _=>rfl)
 obtain ⟨a1, -,r1⟩:=(rbI _).val (hp 1 _ y1 rfl rfl) (Nat.le_refl _) (fun _=>rfl)
 obtain ⟨a2,s2,r2⟩:=(rbHds N).val (hp 2 _ y2 rfl rfl) (by omega) (fun _=>rfl)
 obtain ⟨a3, -,r3⟩:=(rbI _).val (hp 3 _ y3 rfl rfl) (Nat.le_refl _) (fun _=>rfl)
 exact ⟨⟨a0,a1,a2,a3⟩,by unfold Md.sz;show 1+a0.length+(a2.map Hd.sz).sum<=_;omega,.cons r0 (.cons r1 (.cons r2 (.cons r3 .nil)))⟩
theorem rbMds (N:Nat):RB enc W hT 25 (N+1) (fun l:List Md=>mdsV l) (fun l=>(l.map Md.sz).sum) :=
 rb_slice upto_bulky (u:=4) (by omega) Tryz.underlying25 (by kernel_rfl) (fun a=>rfl) (fun a d hd=>by
  have hd:d∈[.str a.name,I64 a.prio,hdsV a.hds,I64 a.pos]:=hd
  simp at hd;rcases hd with rfl|rfl|rfl|rfl<;>rfl) (rbMd N)
theorem rbRu (N:Nat):RB enc W hT 27 N Ru.v Ru.sz:=fun n cs x h hx=>by
 obtain ⟨m,ys,rfl,hl,hb,hp⟩:=rb_parts upto_bulky Tryz.underlying27 rfl (off5 rfl (by kernel_rfl)) (by kernel_rfl) h
 obtain ⟨y0,y1,rfl⟩:=len2 hl
 simp only [List.map_cons,List.map_nil,List.sum_cons,List.sum_nil] at hb
 obtain ⟨a0,s0,r0⟩:=(rbDcs N).val (hp 0 _ y0 rfl rfl) (by omega) (fun _=>rfl)
 obtain ⟨a1,s1,r1⟩:=(rbMds N).val (hp 1 _ y1 rfl rfl) (by omega) (fun _=>rfl)
 exact ⟨⟨a0,a1⟩,by unfold Ru.sz;show (a0.map Dc.sz).sum+(a1.map Md.sz).sum<=_;omega,.cons r0 (.cons r1 .nil)⟩
theorem upto_mem {l:List (DataW H)} (hk:Rows.uptoSmall H l=true) {d:DataW H} (h:d∈l):Rows.uptoBulk d<=1048576:=by
 have hk:Rows.uptoBulkAll l<=1048576:=by simpa [Rows.uptoSmall] using hk
 have:∀ {l:List (DataW H)},d∈l->Rows.uptoBulk d<=Rows.uptoBulkAll l:=by
  intro l h
  induction l with
  | nil=>cases h
  | cons x r ih =>
   simp only [Rows.uptoBulkAll]
   rcases List.mem_cons.1 h with rfl|e
   ·omega
   ·have:=ih e;omega
 exact Nat.le_trans (this h) hk
end
end Go.Proofs.YtnmkkggfgdfmeaaGreatDoor
end

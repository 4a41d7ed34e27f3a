/-
  HELPERS of the claim: part 3 of its texts.
-/
import Derived.IntWalk
import Derived.Below
import Derived.ChangeSame
import Derived.Test.YtcallbfckjlagaaDoorJudb
noncomputable section
set_option linter.unusedVariables false
set_option linter.unusedSectionVars false
set_option linter.unusedSimpArgs false
namespace Go.Sym
variable [Go.Sym.Tab]
open Go.Eng (Tgt Opd FOp AOp EOp IOp IOper DReg IC RV IFn trC trFn IsFn Callable)
variable {P:Program} {N:Nat} {Q:Exit→St→Prop} {R:St→Prop} {s:St} {x y:IC} {os:List IOper} {T:Tm} {H:Hp} {c:Nat} {dst:Option Nat} {v:DV}
def nx (P:Program) (N:Nat) (y:IC) (Q:Exit→St→Prop):St→Prop:=fun s=>IW P N y s Q
def sq (P:Program) (N:Nat) (y:IC) (Q:Exit→St→Prop):Exit→St→Prop:=thenS (nx P N y Q) Q
def bk (id:Nat) (Q:Exit→St→Prop):Exit→St→Prop:=blkS id Q
def no (Q:Exit→St→Prop):St→Prop:=Q .normal
def rt (rs:List RV) (Q:DV→Hp→Nat→Prop):Exit→St→Prop:=retQ rs Q
def purK (P:Program) (R:St→Prop) (os:List IOper) (T:Tm) (H:Hp) (c:Nat) (dst:Option Nat):Option DV→Prop
 | some v=>rwp P R os ⟨updO T dst v,H,c⟩
 | none=>False
def newK (P:Program) (R:St→Prop) (os:List IOper) (T:Tm) (H:Hp) (c:Nat) (dst:Option Nat):Option (Option Nat × Blk)→Prop
 | some (k,b)=>rwp P R os ⟨updO T dst (mkv c k),H.upd c b,c+1⟩
 | none=>False
def effK (P:Program) (R:St→Prop) (os:List IOper) (T:Tm) (dst:Option Nat):Option (DV × Hp × Nat)→Prop
 | some (v,H',c')=>rwp P R os ⟨updO T dst v,H',c'⟩
 | none=>False
def calK (P:Program) (R:St→Prop) (os:List IOper) (T:Tm) (dst:Option Nat) (v:DV) (H:Hp) (c:Nat):Prop:=rwp P R os ⟨updO T dst v,H,c⟩
def clvK (P:Program) (R:St→Prop) (os:List IOper) (T:Tm) (H:Hp) (c:Nat) (dst:Option Nat) (args:List DV):DV→Prop
 | .func f a cs=>AC P f (a++args++cs) H c (calK P R os T dst)
 | _=>False
def grdK (P:Program) (R:St→Prop) (dst:Option Nat) (op:IOp) (os:List IOper) (T:Tm) (H:Hp) (c:Nat):Option Bool→Prop
 | some true=>rwp P R (⟨dst,op,none⟩ :: os) ⟨T,H,c⟩
 | some false=>rwp P R os ⟨updO T dst (.tup []),H,c⟩
 | none=>False
def cndK (P:Program) (N:Nat) (x y:IC) (s:St) (Q:Exit→St→Prop):DV→Prop
 | .bool b=>(b=true→IW P N x s Q)∧(b=false→IW P N y s Q)
 | _=>False
theorem i_seq (h:IW P N x s (sq P N y Q)):IW P N (.seq x y) s Q:=by
 intro hm c hc
 cases c<;>simp only [trC] at hc<;>(try (cases hc;done))
 case seq a b =>
  split at hc
  ·rename_i x' y' hx hy
   cases hc
   refine .seq ((h hm a hx).mono fun e s' q=>?_)
   cases e with
   | normal=>exact q hm b hy
   | _=>exact q
  ·cases hc
 all_goals (repeat' (split at hc))<;>(try (cases hc;done))
 all_goals simp at hc
theorem i_sreg (h:rwp P (nx P N y Q) os s):IW P N (.seq (.reg os) y) s Q:=IW.of h
theorem i_sdrw {n:Nat} {d:DReg} (h:dwp P (nx P N y Q) d.ops s.c d.plan ⟨s.T,s.H,s.c+n⟩):IW P N (.seq (.drw n d) y) s Q:=IW.of h
theorem i_reg (h:rwp P (no Q) os s):IW P N (.reg os) s Q:=IW.of h
theorem i_drw {n:Nat} {d:DReg} (h:dwp P (no Q) d.ops s.c d.plan ⟨s.T,s.H,s.c+n⟩):IW P N (.drw n d) s Q:=IW.of h
theorem i_cond {o:Opd} (h:cndK P N x y s Q (ev s.T o)):IW P N (.cond o x y) s Q:=by
 refine IW.of ?_
 simp only [wpI]
 cases hv:ev s.T o<;>rw [hv] at h<;>first|exact h|exact h.elim
theorem i_scond {o:Opd} {z:IC} (h:cndK P N x y s (sq P N z Q) (ev s.T o)):IW P N (.seq (.cond o x y) z) s Q:=i_seq (i_cond h)
theorem i_blk {id:Nat} (h:IW P N x s (bk id Q)):IW P N (.blk id x) s Q:=by
 intro hm c hc
 cases c<;>simp only [trC] at hc<;>(try (cases hc;done))
 case block i b =>
  simp only [Option.map_eq_some_iff] at hc
  obtain ⟨x',hx,he⟩:=hc
  cases he
  exact .block (h hm b hx)
 all_goals (repeat' (split at hc))<;>(try (cases hc;done))
 all_goals simp at hc
theorem i_exit {id:Nat} (h:Q (.exit id) s):IW P N (.exit id) s Q:=IW.of h
theorem i_ret (h:Q .ret s):IW P N .ret s Q:=IW.of h
theorem i_skip (h:Q .normal s):IW P N .skip s Q:=IW.of h
theorem k_nx:nx P N y Q ⟨T,H,c⟩=IW P N y ⟨T,H,c⟩ Q:=propext Iff.rfl
theorem k_no:no Q s=Q .normal s:=propext Iff.rfl
theorem k_sn:sq P N y Q .normal ⟨T,H,c⟩=IW P N y ⟨T,H,c⟩ Q:=propext Iff.rfl
theorem k_sr:sq P N y Q .ret s=Q .ret s:=propext Iff.rfl
theorem k_se {i:Nat}:sq P N y Q (.exit i) s=Q (.exit i) s:=propext Iff.rfl
theorem k_bn {i:Nat}:bk i Q .normal s=Q .normal s:=propext Iff.rfl
theorem k_br {i:Nat}:bk i Q .ret s=Q .ret s:=propext Iff.rfl
theorem k_be {i:Nat}:bk i Q (.exit i) s=Q .normal s:=if_pos rfl
theorem k_bo {i j:Nat} (h:¬ j=i):bk i Q (.exit j) s=Q (.exit j) s:=if_neg h
theorem k_r1 {t:Nat} {q:DV→Hp→Nat→Prop}:rt [.tmp t] q .ret ⟨T,H,c⟩=q (T t) H c:=propext Iff.rfl
theorem k_r2 {t u:Nat} {q:DV→Hp→Nat→Prop}:rt [.tmp t,.tmp u] q .ret ⟨T,H,c⟩=q (.tup [T t,T u]) H c:=propext Iff.rfl
theorem k_r3 {t u w:Nat} {q:DV→Hp→Nat→Prop}:rt [.tmp t,.tmp u,.tmp w] q .ret ⟨T,H,c⟩=q (.tup [T t,T u,T w]) H c:=propext Iff.rfl
theorem k_n0 {q:DV→Hp→Nat→Prop}:rt [] q .normal ⟨T,H,c⟩=q (.tup []) H c:=propext Iff.rfl
theorem k_rv {rs:List RV} {q:DV→Hp→Nat→Prop} {v:DV} (h:resV s rs=some v):rt rs q .ret s=q v s.H s.c:=by simp only [rt,retQ,h]
theorem k_nil:rwp P R [] s=R s:=propext Iff.rfl
theorem k_pur {f:FOp}:rwp P R (⟨dst,.pur f,none⟩ :: os) ⟨T,H,c⟩=purK P R os T H c dst (fev H (ev T) f):=by
 simp only [rwp,wantG,oneP,purK]
 cases fev H (ev T) f<;>rfl
theorem k_new {f:AOp}:rwp P R (⟨dst,.new f,none⟩ :: os) ⟨T,H,c⟩=newK P R os T H c dst (aev (ev T) f):=by
 simp only [rwp,wantG,oneP,newK]
 cases aev (ev T) f<;>rfl
theorem k_eff {f:EOp}:rwp P R (⟨dst,.eff f,none⟩ :: os) ⟨T,H,c⟩=effK P R os T dst (eev H c (ev T) f):=by
 simp only [rwp,wantG,oneP,effK]
 cases eev H c (ev T) f<;>rfl
theorem k_call {f:Nat} {as:List Opd}:rwp P R (⟨dst,.call f as,none⟩ :: os) ⟨T,H,c⟩=AC P f (as.map (ev T)) H c (calK P R os T dst):=propext Iff.rfl
theorem k_clv {o:Opd} {as:List Opd}:rwp P R (⟨dst,.callv o as,none⟩ :: os) ⟨T,H,c⟩=clvK P R os T H c dst (as.map (ev T)) (ev T o):=by
 simp only [rwp,wantG,oneP]
 unfold clvK
 cases ev T o<;>rfl
theorem k_clf {f:Nat} {a cs args:List DV}:clvK P R os T H c dst args (.func f a cs)=AC P f (a++args++cs) H c (calK P R os T dst):=propext Iff.rfl
theorem k_some:purK P R os T H c dst (some v)=rwp P R os ⟨updO T dst v,H,c⟩:=propext Iff.rfl
theorem k_nsome {k:Option Nat} {b:Blk}:newK P R os T H c dst (some (k,b))=rwp P R os ⟨updO T dst (mkv c k),H.upd c b,c+1⟩:=propext Iff.rfl
theorem k_esome {H':Hp} {c':Nat}:effK P R os T dst (some (v,H',c'))=rwp P R os ⟨updO T dst v,H',c'⟩:=propext Iff.rfl
theorem k_ap {H':Hp} {c':Nat}:calK P R os T dst v H' c'=rwp P R os ⟨updO T dst v,H',c'⟩:=propext Iff.rfl
theorem k_grd {op:IOp} {t:Nat} {b:Bool}:rwp P R (⟨dst,op,some (t,b)⟩ :: os) ⟨T,H,c⟩=grdK P R dst op os T H c (wantV (T t) b):=by
 simp only [rwp,wantG,grdK]
 cases wantV (T t) b with
 | none=>rfl
 | some b=>cases b<;>rfl
theorem k_gt {op:IOp}:grdK P R dst op os T H c (some true)=rwp P R (⟨dst,op,none⟩ :: os) ⟨T,H,c⟩:=propext Iff.rfl
theorem k_gf {op:IOp}:grdK P R dst op os T H c (some false)=rwp P R os ⟨updO T dst (.tup []),H,c⟩:=propext Iff.rfl
theorem k_want {b d:Bool}:wantV (.bool b) d=some (b == d):=id rfl
theorem k_wu {d:Bool}:wantV (.tup []) d=some false:=id rfl
theorem k_ct:cndK P N x y s Q (.bool true)=IW P N x s Q:=by
 apply propext
 constructor
 ·intro h;exact h.1 rfl
 ·intro h;exact ⟨fun _=>h,fun e=>(by cases e)⟩
theorem k_cf:cndK P N x y s Q (.bool false)=IW P N y s Q:=by
 apply propext
 constructor
 ·intro h;exact h.2 rfl
 ·intro h;exact ⟨fun e=>(by cases e),fun _=>h⟩
theorem k_cb {b:Bool} (h1:b=true→IW P N x s Q) (h2:b=false→IW P N y s Q):cndK P N x y s Q (.bool b):=⟨h1,h2⟩
theorem k_gb {op:IOp} {b d:Bool} (h1:b=true→grdK P R dst op os T H c (some (true == d))) (h2:b=false→grdK P R dst op os T H c (some (false == d))):grdK P R dst op os T H c (some (b == d)):=by
 cases b
 ·exact h2 rfl
 ·exact h1 rfl
theorem k_gb' {op:IOp} {b:Bool} (h1:b=true→grdK P R dst op os T H c (some true)) (h2:b=false→grdK P R dst op os T H c (some false)):grdK P R dst op os T H c (some b):=by
 cases b
 ·exact h2 rfl
 ·exact h1 rfl
theorem k_val {o:Option DV} (h:o=some v) (k:rwp P R os ⟨updO T dst v,H,c⟩):purK P R os T H c dst o:=by rw [h];exact k
theorem k_eval {o:Option (DV × Hp × Nat)} {H':Hp} {c':Nat} (h:o=some (v,H',c')) (k:rwp P R os ⟨updO T dst v,H',c'⟩):effK P R os T dst o:=by rw [h];exact k
theorem k_nval {o:Option (Option Nat × Blk)} {k:Option Nat} {b:Blk} (h:o=some (k,b)) (k':rwp P R os ⟨updO T dst (mkv c k),H.upd c b,c+1⟩):newK P R os T H c dst o:=by rw [h];exact k'
theorem u_some {d:Nat}:updO T (some d) v=T.upd d v:=id rfl
theorem u_none:updO T none v=T:=id rfl
theorem u_same {d:Nat}:T.upd d v d=v:=by simp [Tm.upd]
theorem u_ne {d j:Nat} (h:¬ j=d):T.upd d v j=T j:=by simp [Tm.upd,h]
theorem t_same {k:Nat} {r:List (Nat × DV)}:tm ((k,v) :: r) k=v:=by simp [tm,Tm.upd]
theorem t_ne {k j:Nat} {r:List (Nat × DV)} (h:¬ j=k):tm ((k,v) :: r) j=tm r j:=by simp [tm,Tm.upd,h]
theorem h_same {id:Nat} {b:Blk}:(H.upd id b) id=some b:=by simp [Hp.upd]
theorem h_ne {id j:Nat} {b:Blk} (h:¬ j=id):(H.upd id b) j=H j:=by simp [Hp.upd,h]
theorem h_dsame {id:Nat}:(H.del id) id=none:=by simp [Hp.del]
theorem h_dne {id j:Nat} (h:¬ j=id):(H.del id) j=H j:=by simp [Hp.del,h]
theorem h_nil {j:Nat}:nil j=none:=id rfl
theorem h_upd2 {id:Nat} {b b':Blk}:(H.upd id b).upd id b'=H.upd id b':=by
 funext j;simp only [Hp.upd];split<;>rfl
theorem e_t {n:Nat}:ev T (.t n)=T n:=id rfl
theorem e_k {v:Value}:ev T (.k v)=inj v:=id rfl
theorem e_f {n:Nat}:ev T (.f n)=.func n [] []:=id rfl
theorem a_0 {r:List DV}:argT (v :: r) 0=v:=id rfl
theorem a_1 {a b:DV} {r:List DV}:argT (a :: b :: r) 1=b:=id rfl
theorem a_2 {a b d:DV} {r:List DV}:argT (a :: b :: d :: r) 2=d:=id rfl
theorem a_3 {a b d e:DV} {r:List DV}:argT (a :: b :: d :: e :: r) 3=e:=id rfl
theorem j_bool {b:Bool}:inj (.bool b)=.bool b:=id rfl
theorem j_int {k:IntKind} {n:Int}:inj (.int k n)=.int k n:=id rfl
theorem j_str {a:Array UInt8}:inj (.string ⟨a⟩)=.str a.toList:=id rfl
theorem j_snil:inj (.slice none 0 0)=.snil:=id rfl
theorem j_agg {a:List Value}:inj (.agg ⟨a⟩)=.agg (a.map injS):=id rfl
theorem j_sbool {b:Bool}:injS (.bool b)=.bool b:=id rfl
theorem j_sint {k:IntKind} {n:Int}:injS (.int k n)=.int k n:=id rfl
theorem j_sstr {a:Array UInt8}:injS (.string ⟨a⟩)=.str a.toList:=id rfl
theorem j_ssnil:injS (.slice none 0 0)=.snil:=id rfl
section
variable {e:Opd→DV} {a b o:Opd} {n off sz:Nat}
theorem f_mv:fev H e (.mv o)=some (e o):=id rfl
theorem f_pick:fev H e (.pick o a b)=pickR (e o) (e a) (e b):=id rfl
theorem f_ld {g:Bool}:fev H e (.ld n g o)=ldv H n g (e o):=id rfl
theorem f_fad:fev H e (.fad off o)=fadR off (e o):=id rfl
theorem f_iad:fev H e (.iad sz a b)=iadR sz (e a) (e b):=id rfl
theorem f_iada:fev H e (.iada n sz a b)=iadaR n sz (e a) (e b):=id rfl
theorem f_idx:fev H e (.idx a b)=idxR (e a) (e b):=id rfl
theorem f_ext:fev H e (.ext o n)=extR n (e o):=id rfl
theorem f_nck:fev H e (.nck o)=nckR (e o):=id rfl
theorem f_bin {op:BinOp}:fev H e (.bin op a b)=binR op (e a) (e b):=id rfl
theorem f_eqa {g:Bool} {ks:List Nat}:fev H e (.eqa g ks a b)=eqaR g ks (e a) (e b):=id rfl
theorem f_un {op:UnOp}:fev H e (.un op a)=unR op (e a):=id rfl
theorem f_cvi {k:IntKind}:fev H e (.cvi k a)=cviR k (e a):=id rfl
theorem f_cvbs:fev H e (.cvbs a)=cvbsR H (e a):=id rfl
theorem f_slc {lo hi:Option Opd}:fev H e (.slc sz a lo hi)=slcR H sz (e a) (lo.map e) (hi.map e):=id rfl
theorem f_sls {lo hi:Option Opd}:fev H e (.sls a lo hi)=slsX (e a) (lo.map e) (hi.map e):=id rfl
theorem f_mkf {f:Nat} {p q:List Opd}:fev H e (.mkf f p q)=some (.func f (p.map e) (q.map e)):=id rfl
theorem f_bld {z:Array Value} {pl:List (Nat × Nat)} {ps:List (Nat × Opd)}:fev H e (.bld z pl ps)=bldR (z.toList.map injS) pl (ps.map fun p=>(p.1,e p.2)):=id rfl
theorem f_len:fev H e (.len a)=lenR (e a):=id rfl
theorem f_lens:fev H e (.lens a)=lensR (e a):=id rfl
theorem f_mn:fev H e (.mn a b)=mnR (e a) (e b):=id rfl
theorem f_mx:fev H e (.mx a b)=mxR (e a) (e b):=id rfl
theorem g_box:aev e (.box a)=boxR (e a):=id rfl
theorem g_bsl {z:Array Value} {ps:List (Nat × Opd)}:aev e (.bsl sz n z ps)=bslR sz n (z.toList.map injS) (ps.map fun p=>(p.1,e p.2)):=id rfl
theorem g_msl {z:Array Value} {bytes:Nat}:aev e (.msl sz bytes z a b)=mslR sz bytes (z.toList.map injS) (e a) (e b):=id rfl
theorem g_st:eev H c e (.st n a b)=stR H c n (e a) (e b):=id rfl
theorem g_app {bytes:Nat}:eev H c e (.app sz bytes a b)=apX H c sz bytes (e a) (srcOf H sz (e b)):=id rfl
theorem g_apps:eev H c e (.apps a b)=apsX H c (e a) (e b):=id rfl
end
def ldB (n:Nat) (agg:Bool) (off:Nat):Option Blk→Option DV
 | some b=>match agg with
  | true=>match Nat.ble (off+n) b.cells.length with
   | true=>some (.agg ((b.cells.drop off).take n))
   | false=>none
  | false=>b.cells[off]?
 | none=>none
def iadO (sz:Nat):Option DV→Option DV
 | some y=>if y.cells.length=sz then some (.fptr y.cells) else none
 | none=>none
def chO:Option UInt8→Option DV
 | some d=>some (.int .u8 d.toNat)
 | none=>none
def stB (H:Hp) (c id n off:Nat) (v:DV):Option Blk→Option (DV × Hp × Nat)
 | some b =>
  if b.own=true∧v.cells.length=n∧off+n≤b.cells.length∧v.cells.all DV.one=true then
   some (.tup [],H.upd id ⟨b.unit,true,b.cells.take off++v.cells++b.cells.drop (off+n)⟩,c)
  else none
 | none=>none
def srB (sz o m:Nat):Option Blk→Option (Nat × List DV)
 | some b=>match Nat.ble (o+m * sz) b.cells.length with
  | true=>some (m,(b.cells.drop o).take (m * sz))
  | false=>none
 | none=>none
def apB (H:Hp) (c id sz bytes n m:Nat) (src:List DV):Option Blk→Option (DV × Hp × Nat)
 | some b =>
  if b.own=true∧b.unit=sz∧n * sz≤b.cells.length∧(n+m) * bytes≤140737488355328∧n+m≤maxLen then
   some (.slc c 0 (n+m),(H.del id).upd c ⟨sz,true,b.cells.take (n * sz)++src⟩,c+1)
  else none
 | none=>none
section
variable {k:IntKind} {m n j:Int} {id off i sz bytes:Nat} {cs xs:List DV} {blk:Blk} {p q b:Bool}
theorem r_pt {a b:DV}:pickR (.bool true) a b=some a:=_root_.id rfl
theorem r_pf {a b:DV}:pickR (.bool false) a b=some b:=_root_.id rfl
theorem r_ld {g:Bool}:ldv H i g (.ptr id off)=ldB i g off (H id):=by
 simp only [ldv,ldB]
 cases H id<;>rfl
theorem b_ld1 {u:Nat} {o:Bool}:ldB 1 false off (some ⟨u,o,cs⟩)=cs[off]? := _root_.id rfl
theorem b_ldn {u:Nat} {o:Bool} (hl:off+i≤cs.length):ldB i true off (some ⟨u,o,cs⟩)=some (.agg ((cs.drop off).take i)):=by
 have:Nat.ble (off+i) cs.length=true:=by rw [Nat.ble_eq];exact hl
 simp only [ldB,this]
theorem r_fld1:ldv H 1 false (.fptr cs)=cs[0]? := _root_.id rfl
theorem r_fldn {sz:Nat} (hl:sz≤cs.length):ldv H sz true (.fptr cs)=some (.agg (cs.take sz)):=by
 have:Nat.ble sz cs.length=true:=by rw [Nat.ble_eq];exact hl
 simp only [ldv,this]
theorem r_fadp:fadR off (.ptr id i)=some (.ptr id (i+off)):=_root_.id rfl
theorem r_fadf (hl:off≤cs.length):fadR off (.fptr cs)=some (.fptr (cs.drop off)):=by
 have:Nat.ble off cs.length=true:=by rw [Nat.ble_eq];exact hl
 simp only [fadR,this]
theorem r_iadl:iadR sz (.lst xs) (.int k j)=if 0≤j then iadO sz xs[j.toNat]? else none:=by
 by_cases h:0≤j
 ·simp only [iadR,h,true_and,if_true]
  by_cases h2:j<xs.length
  ·simp only [h2,if_true];unfold iadO;rfl
  ·simp only [h2,if_false]
   rw [List.getElem?_eq_none (by omega)];rfl
 ·simp only [iadR,h,false_and,if_false]
theorem r_iadn {l:Nat}:iadR sz (.lst xs) (.int k (l:Int))=iadO sz xs[l]? := by
 rw [r_iadl,if_pos (Int.natCast_nonneg l),Int.toNat_natCast]
theorem o_iad {y:DV} (h:y.cells.length=sz):iadO sz (some y)=some (.fptr y.cells):=by simp only [iadO,h,if_true]
theorem r_iads {l:Nat} (h0:0≤j) (h1:j<l):iadR sz (.slc id off l) (.int k j)=some (.ptr id (off+j.toNat * sz)):=by
 simp only [iadR,h0,h1,and_self,if_true]
theorem r_iada {l:Nat} (h0:0≤j) (h1:j<l):iadaR l sz (.ptr id off) (.int k j)=some (.ptr id (off+j.toNat * sz)):=by
 simp only [iadaR,h0,h1,and_self,if_true]
theorem r_idx {s:List UInt8}:idxR (.str s) (.int k j)=if 0≤j then chO s[j.toNat]? else none:=by
 simp only [idxR];split<;>rfl
theorem r_idxn {s:List UInt8} {l:Nat}:idxR (.str s) (.int k (l:Int))=chO s[l]? := by
 rw [r_idx,if_pos (Int.natCast_nonneg l),Int.toNat_natCast]
theorem o_ch {d:UInt8}:chO (some d)=some (.int .u8 d.toNat):=_root_.id rfl
theorem r_ext:extR i (.tup xs)=xs[i]? := _root_.id rfl
theorem r_nckp:nckR (.ptr id off)=some (.ptr id off):=_root_.id rfl
theorem r_neg:unR .neg (.int k n)=some (.int k (k.wrap (0-n))):=_root_.id rfl
theorem r_not:unR .not (.bool p)=some (.bool (!p)):=_root_.id rfl
theorem r_cvi {k':IntKind}:cviR k (.int k' n)=some (.int k (k.wrap n)):=_root_.id rfl
theorem r_lenn:lenR .snil=some (.int .i64 0):=_root_.id rfl
theorem r_lens {l:Nat}:lenR (.slc id off l)=some (.int .i64 l):=_root_.id rfl
theorem r_lenl:lenR (.lst xs)=some (.int .i64 xs.length):=_root_.id rfl
theorem r_slen {s:List UInt8}:lensR (.str s)=some (.int .i64 s.length):=_root_.id rfl
theorem r_mn {k':IntKind}:mnR (.int k m) (.int k' n)=some (.int k (if n<m then n else m)):=_root_.id rfl
theorem r_mx {k':IntKind}:mxR (.int k m) (.int k' n)=some (.int k (if n>m then n else m)):=_root_.id rfl
theorem r_slsx {s:List UInt8} {lo hi:Option DV}:slsX (.str s) lo hi=slsR s lo hi:=_root_.id rfl
theorem r_sls {s:List UInt8} {lo hi:Option DV} {l h:Nat} (h1:boundOf s.length hi=some h) (h2:boundOf 0 lo=some l) (h3:h≤s.length) (h4:l≤h):slsR s lo hi=some (.str ((s.drop l).take (h-l))):=by
 simp only [slsR,h1,h2,h3,h4,and_self,if_true]
theorem r_eql:binR .eql (.int k m) (.int k n)=some (.bool (m == n)):=by cases k<;>rfl
theorem r_neq:binR .neq (.int k m) (.int k n)=some (.bool (m != n)):=by cases k<;>rfl
theorem r_lss:binR .lss (.int k m) (.int k n)=some (.bool (decide (m<n))):=by cases k<;>rfl
theorem r_leq:binR .leq (.int k m) (.int k n)=some (.bool (decide (m≤n))):=by cases k<;>rfl
theorem r_gtr:binR .gtr (.int k m) (.int k n)=some (.bool (decide (m>n))):=by cases k<;>rfl
theorem r_geq:binR .geq (.int k m) (.int k n)=some (.bool (decide (m≥n))):=by cases k<;>rfl
theorem r_add:binR .add (.int k m) (.int k n)=some (.int k (k.wrap (m+n))):=by cases k<;>rfl
theorem r_sub:binR .sub (.int k m) (.int k n)=some (.int k (k.wrap (m-n))):=by cases k<;>rfl
theorem r_mul:binR .mul (.int k m) (.int k n)=some (.int k (k.wrap (m * n))):=by cases k<;>rfl
theorem r_quo (h:¬ n=0):binR .quo (.int k m) (.int k n)=some (.int k (k.wrap (m.tdiv n))):=by cases k<;>exact if_neg h
theorem r_rem (h:¬ n=0):binR .rem (.int k m) (.int k n)=some (.int k (m.tmod n)):=by cases k<;>exact if_neg h
theorem r_and:binR .and (.int k m) (.int k n)=some (.int k (bits .and k m n)):=by cases k<;>rfl
theorem r_or:binR .or (.int k m) (.int k n)=some (.int k (bits .or k m n)):=by cases k<;>rfl
theorem r_shl {k':IntKind} (h:¬ n<0):binR .shl (.int k m) (.int k' n)=some (.int k (k.wrap (m * 2 ^ (min n.toNat k.bits)))):=if_neg h
theorem r_sadd {s t:List UInt8} (h:s.length+t.length≤maxLen):binR .add (.str s) (.str t)=some (.str (s++t)):=if_pos h
theorem r_seql {s t:List UInt8}:binR .eql (.str s) (.str t)=some (.bool (s == t)):=_root_.id rfl
theorem r_sneq {s t:List UInt8}:binR .neq (.str s) (.str t)=some (.bool (!(s == t))):=_root_.id rfl
theorem m_p:mkv c none=.ptr c 0:=_root_.id rfl
theorem m_s {l:Nat}:mkv c (some l)=.slc c 0 l:=_root_.id rfl
theorem r_box (h:v.cells.all DV.one=true):boxR v=some (none,⟨0,true,v.cells⟩):=by simp only [boxR,h]
theorem r_st:stR H c i (.ptr id off) v=stB H c id i off v (H id):=by
 simp only [stR,stB]
 cases H id<;>rfl
theorem b_st {u:Nat} (h1:v.cells.length=i) (h2:off+i≤cs.length) (h3:v.cells.all DV.one=true) :
  stB H c id i off v (some ⟨u,true,cs⟩)=some (.tup [],H.upd id ⟨u,true,cs.take off++v.cells++cs.drop (off+i)⟩,c):=by
 simp only [stB,h1,h2,h3,and_self,if_true]
theorem r_apx {l:Nat} {s:DV}:apX H c sz bytes s (some (l,cs))=appR H c sz bytes s l cs:=_root_.id rfl
theorem r_aps {s:DV} {t:List UInt8}:apsX H c s (.str t)=appR H c 1 1 s t.length (bytesV t):=_root_.id rfl
theorem r_srcl (h:unit sz xs=true):srcOf H sz (.lst xs)=some (xs.length,cellsL xs):=by simp only [srcOf,h]
theorem r_srcs {l:Nat}:srcOf H sz (.slc id off l)=srB sz off l (H id):=by
 simp only [srcOf,srB]
 cases H id<;>rfl
theorem b_src {l u:Nat} {o:Bool} (h1:off+l * sz≤cs.length):srB sz off l (some ⟨u,o,cs⟩)=some (l,(cs.drop off).take (l * sz)):=by
 have:Nat.ble (off+l * sz) cs.length=true:=by rw [Nat.ble_eq];exact h1
 simp only [srB,this]
theorem r_appn {l:Nat} (h:¬ l=0) (h1:l * bytes≤140737488355328) (h2:l≤maxLen):appR H c sz bytes .snil l cs=some (.slc c 0 l,H.upd c ⟨sz,true,cs⟩,c+1):=by
 simp only [appR,h,if_false,h1,h2,and_self,if_true]
theorem r_apps {l w:Nat}:appR H c sz bytes (.slc id 0 l) w cs=apB H c id sz bytes l w cs (H id):=by
 simp only [appR,apB]
 cases H id<;>rfl
theorem b_app {l w:Nat} {cs':List DV} (h1:l * sz≤cs'.length) (h2:(l+w) * bytes≤140737488355328) (h3:l+w≤maxLen) :
  apB H c id sz bytes l w cs (some ⟨sz,true,cs'⟩)=some (.slc c 0 (l+w),(H.del id).upd c ⟨sz,true,cs'.take (l * sz)++cs⟩,c+1):=by
 simp only [apB,h1,h2,h3,and_self,if_true]
end
theorem pc_ret {r:DV} (h:v=r):∃ H2,GL H [v] H2 [r]:=⟨H,by rw [h];exact GL.refl _ _⟩
def tmLe:List (Nat × DV)→Tm→Prop
 | [],_=>True
 | (k,v) :: r,T=>T k=v∧tmLe r T
def Sub (h H:Hp):Prop:=∀ j b,h j=some b→H j=some b
theorem Sub.refl (H:Hp):Sub H H:=fun _ _ h=>h
theorem Sub.upd {h H:Hp} (hs:Sub h H) {id:Nat} (b:Blk) (hn:h id=none):Sub h (H.upd id b):=fun j b' hj=>by
 unfold Hp.upd
 by_cases e:j=id
 ·subst e;rw [hn] at hj;cases hj
 ·rw [if_neg e];exact hs j b' hj
theorem Sub.put {h H:Hp} (hs:Sub h H) {id:Nat} {b:Blk} (hb:H id=some b):Sub (h.upd id b) H:=fun j b' hj=>by
 unfold Hp.upd at hj
 by_cases e:j=id
 ·subst e;rw [if_pos rfl] at hj;cases hj;exact hb
 ·rw [if_neg e] at hj;exact hs j b' hj
theorem Sub.nil (H:Hp):Sub nil H:=fun j b h=>by cases h
theorem tm_le {l:List (Nat × DV)} {T:Tm} (h:tmLe l T):∀ t,tm l t=.bot∨tm l t=T t:=by
 induction l with
 | nil=>exact fun t=>.inl rfl
 | cons p r ih =>
  intro t
  simp only [tm,Tm.upd]
  by_cases e:t=p.1
  ·rw [if_pos e,e];exact .inr h.1.symm
  ·rw [if_neg e];exact ih h.2 t
theorem IW.weaken {T':Tm} {H':Hp} (hT:∀ t,T' t=.bot∨T' t=T t) (hH:Sub H' H) (h:IW P N x ⟨T',H',c⟩ Q):IW P N x ⟨T,H,c⟩ Q:=by
 intro hm cd hc ρ a w hS
 have hj:∀ j,H' j=none∨H' j=H j:=fun j=>by
  cases hc:H' j with
  | none=>exact .inl rfl
  | some b=>exact .inr (hH j b hc).symm
 have hS1:Sim N ρ ⟨T',H',c⟩ a w:=⟨fun t=>by
  show VRel ρ (T' t) _
  rcases hT t with h0|h0
  ·rw [h0];exact .bot _
  ·rw [h0];exact hS.tm t,hS.rep.less hj,hS.fresh,hS.size,hS.dfr⟩
 refine wp_mono (h hm cd hc ρ a w hS1) fun e a' w' hq=>?_
 obtain ⟨ρ2,s2,q,hS2,hst⟩:=hq
 exact ⟨ρ2,s2,q,hS2,⟨hst.up,fun id hid hne=>by
  have:=hst.dom id hid hne
  rcases hj id with h0|h0
  ·exact absurd h0 this
  ·show H id≠none;rw [← h0];exact this,hst.same,(Ext.less hj).trans hst.ext⟩⟩
def lp {σ : Type} (L : σ → List (Nat × DV)) (h : σ → Hp) (I : σ → Nat→Prop) (μ : σ → Nat) (m:Nat) (Q:Exit→St→Prop):Exit→St→Prop
 | .normal,⟨T,H,c⟩ => ∃ b,tmLe (L b) T∧Sub (h b) H∧I b c ∧ μ b<m
 | e,s=>Q e s
theorem i_loop {σ : Type} (L : σ → List (Nat × DV)) (h : σ → Hp) (I : σ → Nat→Prop) (μ : σ → Nat) (a : σ) (h0:tmLe (L a) T) (hH:Sub (h a) H) (hI:I a c)
  (step:∀ a c,I a c→IW P N x ⟨tm (L a),h a,c⟩ (lp L h I μ (μ a) Q)):IW P N (.loop x) ⟨T,H,c⟩ Q:=by
 refine IW.loop (fun n s => ∃ b,tmLe (L b) s.T∧Sub (h b) s.H∧I b s.c ∧ μ b=n) (μ a) ⟨a,h0,hH,hI,rfl⟩ ?_
 rintro n ⟨T,H,c⟩ ⟨b,e1,e2,e3,rfl⟩
 refine IW.weaken (tm_le e1) e2 ((step b c e3).mono fun e s' q=>?_)
 obtain ⟨T',H',c'⟩:=s'
 cases e with
 | normal=>obtain ⟨d,q1,q2,q3,q4⟩:=q;exact ⟨_,q4,d,q1,q2,q3,rfl⟩
 | _=>exact q
def Keep {σ : Type} (I : σ → Nat→Prop) (b : σ) (c:Nat):Prop:=I b c
theorem inv {σ : Type} {I : σ → Nat→Prop} {b : σ} {c:Nat} (h:I b c):Keep I b c:=h
theorem k_ln {σ : Type} {L : σ → List (Nat × DV)} {h : σ → Hp} {I : σ → Nat→Prop} {μ : σ → Nat} {m:Nat}:lp L h I μ m Q .normal ⟨T,H,c⟩ = ∃ b,tmLe (L b) T∧Sub (h b) H∧Keep I b c ∧ μ b<m:=propext Iff.rfl
theorem k_lr {σ : Type} {L : σ → List (Nat × DV)} {h : σ → Hp} {I : σ → Nat→Prop} {μ : σ → Nat} {m:Nat}:lp L h I μ m Q .ret ⟨T,H,c⟩=Q .ret ⟨T,H,c⟩:=propext Iff.rfl
theorem k_le {σ : Type} {L : σ → List (Nat × DV)} {h : σ → Hp} {I : σ → Nat→Prop} {μ : σ → Nat} {m i:Nat}:lp L h I μ m Q (.exit i) ⟨T,H,c⟩=Q (.exit i) ⟨T,H,c⟩:=propext Iff.rfl
theorem le_nil:tmLe [] T=True:=id rfl
theorem le_cons {k:Nat} {r:List (Nat × DV)}:tmLe ((k,v) :: r) T=(T k=v∧tmLe r T):=id rfl
theorem w64 {n:Int} (h1 : -9223372036854775808≤n) (h2:n≤9223372036854775807):IntKind.i64.wrap n=n:=by rw [IntWalk.i64_left,IntWalk.wrap64_in n ⟨h1,h2⟩]
end Go.Sym
namespace Go.Sym
variable [Go.Sym.Tab]
open Go.Eng (Tgt Opd FOp AOp EOp IOp IOper DReg IC RV IFn trC trFn IsFn Callable isNew)
variable {P:Program} {N:Nat} {Q:Exit→St→Prop} {R:St→Prop} {s:St} {x y z:IC} {os io:List IOper} {T:Tm} {H:Hp} {c c0:Nat} {dst:Option Nat} {v:DV}
def kp (L:List Nat) (T:Tm):List (Nat × DV):=L.map fun k=>(k,T k)
theorem kp_zip:∀ (L:List Nat),L.zip (L.map T)=kp L T
 | []=>rfl
 | k :: L=>by simp only [List.map_cons,List.zip_cons_cons,kp_zip L];rfl
theorem IW.kp (L:List Nat) (h:IW P N x ⟨tm (kp L T),H,c⟩ Q):IW P N x ⟨T,H,c⟩ Q:=IW.slots L (by rw [kp_zip];exact h)
theorem kp_nil:kp [] T=[]:=id rfl
theorem kp_cons {k:Nat} {L:List Nat}:kp (k :: L) T=(k,T k) :: kp L T:=id rfl
theorem oneP_mono {K K':DV→Hp→Nat→Prop} (hk:∀ v H c,K v H c→K' v H c) {op:IOp} (h:oneP P s K op):oneP P s K' op:=by
 cases op with
 | pur f=>simp only [oneP] at h ⊢;split at h;exact hk _ _ _ h;exact h.elim
 | new f=>simp only [oneP] at h ⊢;split at h;exact hk _ _ _ h;exact h.elim
 | eff f=>simp only [oneP] at h ⊢;split at h;exact hk _ _ _ h;exact h.elim
 | call f a=>exact AC.mono h hk
 | callv x a =>
  simp only [oneP] at h ⊢
  split at h
  ·exact AC.mono h hk
  ·exact h.elim
abbrev WS (P:Program) (N:Nat) (u:IC) (r:List IOper) (y:IC) (L:List Nat):Prop:=∀ {Q:Exit→St→Prop} {T:Tm} {H:Hp} {c:Nat},rwp P (nx P N y Q) r ⟨tm (kp L T),H,c⟩→IW P N u ⟨T,H,c⟩ Q
abbrev WE (P:Program) (N:Nat) (u:IC) (r:List IOper) (L:List Nat):Prop:=∀ {Q:Exit→St→Prop} {T:Tm} {H:Hp} {c:Nat},rwp P (no Q) r ⟨tm (kp L T),H,c⟩→IW P N u ⟨T,H,c⟩ Q
abbrev WP (P:Program) (N:Nat) (u:IC) (n:Nat) (d:DReg) (y:IC) (L:List Nat):Prop:=∀ {Q:Exit→St→Prop} {T:Tm} {H:Hp} {c:Nat},rwp P (nx P N y Q) d.ops ⟨tm (kp L T),H,c+n⟩→IW P N u ⟨T,H,c⟩ Q
abbrev WD (P:Program) (N:Nat) (u:IC) (n:Nat) (d:DReg) (y:IC) (L:List Nat):Prop:=∀ {Q:Exit→St→Prop} {T:Tm} {H:Hp} {c:Nat},dwp P (nx P N y Q) d.ops c d.plan ⟨tm (kp L T),H,c+n⟩→IW P N u ⟨T,H,c⟩ Q
abbrev WDE (P:Program) (N:Nat) (u:IC) (n:Nat) (d:DReg) (L:List Nat):Prop:=∀ {Q:Exit→St→Prop} {T:Tm} {H:Hp} {c:Nat},dwp P (no Q) d.ops c d.plan ⟨tm (kp L T),H,c+n⟩→IW P N u ⟨T,H,c⟩ Q
abbrev WC (P:Program) (N:Nat) (u:IC) (o:Opd) (x z y:IC) (L:List Nat):Prop:=∀ {Q:Exit→St→Prop} {T:Tm} {H:Hp} {c:Nat},cndK P N x z ⟨tm (kp L T),H,c⟩ (sq P N y Q) (ev (tm (kp L T)) o)→IW P N u ⟨T,H,c⟩ Q
abbrev WCE (P:Program) (N:Nat) (u:IC) (o:Opd) (x z:IC) (L:List Nat):Prop:=∀ {Q:Exit→St→Prop} {T:Tm} {H:Hp} {c:Nat},cndK P N x z ⟨tm (kp L T),H,c⟩ Q (ev (tm (kp L T)) o)→IW P N u ⟨T,H,c⟩ Q
abbrev WB (P:Program) (N:Nat) (u:IC) (i:Nat) (x y:IC) (L:List Nat):Prop:=∀ {Q:Exit→St→Prop} {T:Tm} {H:Hp} {c:Nat},IW P N x ⟨tm (kp L T),H,c⟩ (bk i (sq P N y Q))→IW P N u ⟨T,H,c⟩ Q
abbrev WBE (P:Program) (N:Nat) (u:IC) (i:Nat) (x:IC) (L:List Nat):Prop:=∀ {Q:Exit→St→Prop} {T:Tm} {H:Hp} {c:Nat},IW P N x ⟨tm (kp L T),H,c⟩ (bk i Q)→IW P N u ⟨T,H,c⟩ Q
abbrev WQ (P:Program) (N:Nat) (u x y:IC) (L:List Nat):Prop:=∀ {Q:Exit→St→Prop} {T:Tm} {H:Hp} {c:Nat},IW P N x ⟨tm (kp L T),H,c⟩ (sq P N y Q)→IW P N u ⟨T,H,c⟩ Q
def asc:Nat→List (Nat × Option (List Nat))→List IOper→Bool
 | _,[],[]=>true
 | k,(i,none) :: r,⟨_,.pur _,_⟩ :: io=>Nat.beq i k && asc (k+1) r io
 | k,(i,some []) :: r,_ :: io=>Nat.beq i k && asc (k+1) r io
 | _,_,_=>false
theorem dwp_of_rwp:∀ (plan:List (Nat × Option (List Nat))) (os:List IOper) (k:Nat) (s:St),asc k plan os=true→io.drop k=os→rwp P R os s→dwp P R io c0 plan s
 | [],[],k,s,_,_,h=>h
 | [],_ :: _,k,s,ha,_,h=>by simp [asc] at ha
 | (i,none) :: r,[],k,s,ha,_,h=>by simp [asc] at ha
 | (i,none) :: r,⟨d,.pur f,g⟩ :: os,k,s,ha,he,h=>by
  simp only [asc,Bool.and_eq_true,Nat.beq_eq] at ha
  obtain ⟨rfl,ha⟩:=ha
  have hget:io[i]? = some ⟨d,.pur f,g⟩:=by
   have:(io.drop i)[0]? = some ⟨d,.pur f,g⟩:=by rw [he];rfl
   simpa using this
  have hdr:io.drop (i+1)=os:=by rw [← List.drop_drop,he];rfl
  simp only [dwp,hget,freeV]
  simp only [rwp] at h
  split at h
  ·rename_i hw
   try simp only [hw]
   simp only [oneP] at h
   split at h
   ·rename_i v hv
    simp only [hv]
    exact dwp_of_rwp r os (i+1) _ ha hdr h
   ·exact h.elim
  ·rename_i hw
   try simp only [hw]
   exact dwp_of_rwp r os (i+1) _ ha hdr h
  ·exact h.elim
 | (i,none) :: r,⟨d,.new f,g⟩ :: os,k,s,ha,_,h=>by simp [asc] at ha
 | (i,none) :: r,⟨d,.eff f,g⟩ :: os,k,s,ha,_,h=>by simp [asc] at ha
 | (i,none) :: r,⟨d,.call f a,g⟩ :: os,k,s,ha,_,h=>by simp [asc] at ha
 | (i,none) :: r,⟨d,.callv f a,g⟩ :: os,k,s,ha,_,h=>by simp [asc] at ha
 | (i,some (_ :: _)) :: r,os,k,s,ha,_,h=>by simp [asc] at ha
 | (i,some []) :: r,[],k,s,ha,_,h=>by simp [asc] at ha
 | (i,some []) :: r,o :: os,k,s,ha,he,h=>by
  simp only [asc,Bool.and_eq_true,Nat.beq_eq] at ha
  obtain ⟨rfl,ha⟩:=ha
  have hget:io[i]? = some o:=by
   have:(io.drop i)[0]? = some o:=by rw [he];rfl
   simpa using this
  have hdr:io.drop (i+1)=os:=by rw [← List.drop_drop,he];rfl
  have hh:∀ H:Hp,hide H []=H:=fun H=>by funext j;simp [hide]
  have hm:∀ H H':Hp,merge [] H H'=H':=fun H H'=>by funext j;simp [merge]
  simp only [dwp,hget,List.filter_nil,List.map_nil,hh,hm,AgainL,true_and,effP]
  simp only [rwp] at h
  split at h
  ·rename_i hw
   try simp only [hw]
   exact oneP_mono (fun v H' c' h'=>dwp_of_rwp r os (i+1) _ ha hdr h') h
  ·rename_i hw
   try simp only [hw]
   exact dwp_of_rwp r os (i+1) _ ha hdr h
  ·exact h.elim
section
variable {u:IC} {r:List IOper} {L:List Nat} {n i:Nat} {d:DReg} {o:Opd}
theorem mkS:WS P N (.seq (.reg r) y) r y L:=fun h=>IW.kp L (i_sreg h)
theorem mkE:WE P N (.reg r) r L:=fun h=>IW.kp L (i_reg h)
theorem mkP (h1:asc 0 d.plan d.ops=true):WP P N (.seq (.drw n d) y) n d y L:=fun h=>IW.kp L (i_sdrw (dwp_of_rwp d.plan d.ops 0 _ h1 rfl h))
theorem mkD:WD P N (.seq (.drw n d) y) n d y L:=fun h=>IW.kp L (i_sdrw h)
theorem mkDE:WDE P N (.drw n d) n d L:=fun h=>IW.kp L (i_drw h)
theorem mkC:WC P N (.seq (.cond o x z) y) o x z y L:=fun h=>IW.kp L (i_scond h)
theorem mkCE:WCE P N (.cond o x z) o x z L:=fun h=>IW.kp L (i_cond h)
theorem mkB:WB P N (.seq (.blk i x) y) i x y L:=fun h=>IW.kp L (i_seq (i_blk h))
theorem mkBE:WBE P N (.blk i x) i x L:=fun h=>IW.kp L (i_blk h)
theorem mkQ:WQ P N (.seq x y) x y L:=fun h=>IW.kp L (i_seq h)
end
def dpK (P:Program) (R:St→Prop) (io:List IOper) (c0:Nat) (r:List (Nat × Option (List Nat))) (T:Tm) (H:Hp) (c:Nat) (dst:Option Nat):Option DV→Prop
 | some v=>dwp P R io c0 r ⟨updO T dst v,H,c⟩
 | none=>False
def dnK (P:Program) (R:St→Prop) (io:List IOper) (c0 i:Nat) (r:List (Nat × Option (List Nat))) (T:Tm) (H:Hp) (c:Nat) (dst:Option Nat):Option (Option Nat × Blk)→Prop
 | some (k,b)=>dwp P R io c0 r ⟨updO T dst (mkv (c0+i) k),H.upd (c0+i) b,c⟩
 | none=>False
def dgK (P:Program) (R:St→Prop) (io:List IOper) (c0 i:Nat) (r:List (Nat × Option (List Nat))) (T:Tm) (H:Hp) (c:Nat) (dst:Option Nat) (op:IOp):Option Bool→Prop
 | some true=>match op with
  | .pur f=>dpK P R io c0 r T H c dst (fev H (ev T) f)
  | .new f=>dnK P R io c0 i r T H c dst (aev (ev T) f)
  | _=>False
 | some false=>dwp P R io c0 r ⟨updO T dst (.tup []),H,c⟩
 | none=>False
def dfK (P:Program) (R:St→Prop) (io:List IOper) (c0 i:Nat) (r:List (Nat × Option (List Nat))) (T:Tm) (H:Hp) (c:Nat):Option IOper→Prop
 | some o=>dgK P R io c0 i r T H c o.dst o.op (wantG T o.guard)
 | none=>False
def dk (P:Program) (R:St→Prop) (io:List IOper) (c0:Nat) (r:List (Nat × Option (List Nat))) (T:Tm) (H:Hp) (dst:Option Nat) (pend:List Nat) (v:DV) (H':Hp) (c':Nat):Prop :=
 AgainL io c0 ⟨updO T dst v,merge ((pend.filter (isNew io)).map (c0 + ·)) H H',c'⟩ pend∧dwp P R io c0 r ⟨updO T dst v,merge ((pend.filter (isNew io)).map (c0 + ·)) H H',c'⟩
def deK (P:Program) (R:St→Prop) (io:List IOper) (c0:Nat) (r:List (Nat × Option (List Nat))) (T:Tm) (H:Hp) (c:Nat) (pend:List Nat):Option IOper→Prop
 | some o=>effP P ⟨T,hide H ((pend.filter (isNew io)).map (c0 + ·)),c⟩ o (dk P R io c0 r T H o.dst pend)
 | none=>False
section
variable {i:Nat} {r:List (Nat × Option (List Nat))} {pend:List Nat} {op:IOp}
theorem d_nil:dwp P R io c0 [] s=R s:=propext Iff.rfl
theorem d_free:dwp P R io c0 ((i,none) :: r) ⟨T,H,c⟩=dfK P R io c0 i r T H c io[i]? := by
 simp only [dwp]
 cases io[i]? with
 | none=>rfl
 | some o =>
  obtain ⟨d,op,g⟩:=o
  simp only [dfK,freeV]
  cases wantG T g with
  | none=>rfl
  | some b =>
   cases b with
   | false=>rfl
   | true =>
    cases op with
    | pur f=>simp only [dgK,dpK];cases fev H (ev T) f<;>rfl
    | new f=>simp only [dgK,dnK];cases aev (ev T) f<;>rfl
    | _=>rfl
theorem d_fs {o:IOper}:dfK P R io c0 i r T H c (some o)=dgK P R io c0 i r T H c o.dst o.op (wantG T o.guard):=propext Iff.rfl
theorem d_gp {f:FOp}:dgK P R io c0 i r T H c dst (.pur f) (some true)=dpK P R io c0 r T H c dst (fev H (ev T) f):=propext Iff.rfl
theorem d_gn {f:AOp}:dgK P R io c0 i r T H c dst (.new f) (some true)=dnK P R io c0 i r T H c dst (aev (ev T) f):=propext Iff.rfl
theorem d_ps:dpK P R io c0 r T H c dst (some v)=dwp P R io c0 r ⟨updO T dst v,H,c⟩:=propext Iff.rfl
theorem d_ns {k:Option Nat} {b:Blk}:dnK P R io c0 i r T H c dst (some (k,b))=dwp P R io c0 r ⟨updO T dst (mkv (c0+i) k),H.upd (c0+i) b,c⟩:=propext Iff.rfl
theorem d_eff:dwp P R io c0 ((i,some pend) :: r) ⟨T,H,c⟩=deK P R io c0 r T H c pend io[i]? := by
 simp only [dwp]
 cases io[i]? <;> rfl
theorem d_es {o:IOper}:deK P R io c0 r T H c pend (some o)=effP P ⟨T,hide H ((pend.filter (isNew io)).map (c0 + ·)),c⟩ o (dk P R io c0 r T H o.dst pend):=propext Iff.rfl
theorem want_none:wantG T none=some true:=id rfl
theorem want_some {t:Nat} {b:Bool}:wantG T (some (t,b))=wantV (T t) b:=id rfl
def egK (P:Program) (T:Tm) (H:Hp) (c:Nat) (op:IOp) (K:DV→Hp→Nat→Prop):Option Bool→Prop
 | some true=>oneP P ⟨T,H,c⟩ K op
 | some false=>K (.tup []) H c
 | none=>False
def opK (H:Hp) (c:Nat) (K:DV→Hp→Nat→Prop):Option DV→Prop
 | some v=>K v H c
 | none=>False
def oeK (K:DV→Hp→Nat→Prop):Option (DV × Hp × Nat)→Prop
 | some (v,H',c')=>K v H' c'
 | none=>False
variable {K:DV→Hp→Nat→Prop}
theorem x_eff {o:IOper}:effP P ⟨T,H,c⟩ o K=egK P T H c o.op K (wantG T o.guard):=by
 simp only [effP,egK]
 cases wantG T o.guard with
 | none=>rfl
 | some b=>cases b<;>rfl
theorem x_t:egK P T H c op K (some true)=oneP P ⟨T,H,c⟩ K op:=propext Iff.rfl
theorem x_pur {f:FOp}:oneP P ⟨T,H,c⟩ K (.pur f)=opK H c K (fev H (ev T) f):=by
 simp only [oneP,opK];cases fev H (ev T) f<;>rfl
theorem x_e {f:EOp}:oneP P ⟨T,H,c⟩ K (.eff f)=oeK K (eev H c (ev T) f):=by
 simp only [oneP,oeK];cases eev H c (ev T) f<;>rfl
theorem x_call {f:Nat} {as:List Opd}:oneP P ⟨T,H,c⟩ K (.call f as)=AC P f (as.map (ev T)) H c K:=propext Iff.rfl
theorem x_ps:opK H c K (some v)=K v H c:=propext Iff.rfl
theorem x_es {H':Hp} {c':Nat}:oeK K (some (v,H',c'))=K v H' c':=propext Iff.rfl
theorem x_dk {H':Hp} {c':Nat}:dk P R io c0 r T H dst pend v H' c'=(AgainL io c0 ⟨updO T dst v,merge ((pend.filter (isNew io)).map (c0 + ·)) H H',c'⟩ pend∧dwp P R io c0 r ⟨updO T dst v,merge ((pend.filter (isNew io)).map (c0 + ·)) H H',c'⟩):=propext Iff.rfl
theorem hide_nil:hide H []=H:=by funext j;simp [hide]
theorem merge_nil {H':Hp}:merge [] H H'=H':=by funext j;simp [merge]
theorem hm_same {ks:List Nat}:merge ks H (hide H ks)=H:=by
 funext j;simp only [merge,hide];split<;>rfl
def agK (c0 j:Nat) (T:Tm) (H:Hp) (dst:Option Nat) (op:IOp):Option Bool→Prop
 | some true=>match op with
  | .pur f=>match fev H (ev T) f with
   | some v=>(∀ d,dst=some d→T d=v)∧H (c0+j)=none
   | none=>False
  | .new f=>match aev (ev T) f with
   | some (k,b)=>(∀ d,dst=some d→T d=mkv (c0+j) k)∧H (c0+j)=some b
   | none=>False
  | _=>False
 | some false=>(∀ d,dst=some d→T d=.tup [])∧H (c0+j)=none
 | none=>False
def agO (c0 j:Nat) (T:Tm) (H:Hp):Option IOper→Prop
 | some o=>agK c0 j T H o.dst o.op (wantG T o.guard)
 | none=>False
theorem ag_nil:AgainL io c0 s []=True:=id rfl
theorem ag_cons {j:Nat} {l:List Nat}:AgainL io c0 ⟨T,H,c⟩ (j :: l)=(agO c0 j T H io[j]? ∧ AgainL io c0 ⟨T,H,c⟩ l):=by
 simp only [AgainL,Again]
 congr 1
 cases io[j]? with
 | none=>rfl
 | some o =>
  obtain ⟨d,op,g⟩:=o
  simp only [agO,agK,freeV]
  cases wantG T g with
  | none=>rfl
  | some b =>
   cases b with
   | false=>rfl
   | true =>
    cases op with
    | pur f=>simp only [];cases fev H (ev T) f<;>rfl
    | new f=>simp only [];cases aev (ev T) f<;>rfl
    | _=>rfl
theorem ag_s {j:Nat} {o:IOper}:agO c0 j T H (some o)=agK c0 j T H o.dst o.op (wantG T o.guard):=propext Iff.rfl
def apK (T:Tm) (d:Nat) (hn:Prop):Option DV→Prop
 | some v=>T d=v∧hn
 | none=>False
theorem ag_p {j d:Nat} {f:FOp}:agK c0 j T H (some d) (.pur f) (some true)=apK T d (H (c0+j)=none) (fev H (ev T) f):=by
 simp only [agK,apK]
 cases fev H (ev T) f with
 | none=>rfl
 | some v =>
  apply propext
  simp only []
  constructor
  ·rintro ⟨h1,h2⟩;exact ⟨h1 d rfl,h2⟩
  ·rintro ⟨h1,h2⟩;exact ⟨fun d' e=>by cases e;exact h1,h2⟩
theorem ag_ps {d:Nat} {hn:Prop}:apK T d hn (some v)=(T d=v∧hn):=propext Iff.rfl
theorem ag_n {j d:Nat} {f:AOp}:agK c0 j T H (some d) (.new f) (some true) = ∃ k b,aev (ev T) f=some (k,b)∧T d=mkv (c0+j) k∧H (c0+j)=some b:=by
 apply propext
 simp only [agK]
 cases aev (ev T) f with
 | none =>
  constructor
  ·exact False.elim
  ·rintro ⟨k,b,h, -⟩;cases h
 | some p =>
  obtain ⟨k,b⟩:=p
  simp only [Option.some.injEq,Prod.mk.injEq]
  constructor
  ·rintro ⟨h1,h2⟩;exact ⟨k,b,⟨rfl,rfl⟩,h1 d rfl,h2⟩
  ·rintro ⟨k',b',⟨rfl,rfl⟩,h1,h2⟩;exact ⟨fun d' e=>by cases e;exact h1,h2⟩
end
theorem PC.lend {f:Nat} {args args':List DV} {r:DV} {H0:Hp} (h:PC P f args' r) (hr:r.flat=true) (g:GL H args H0 args'):AC P f args H c (fun v H' c'=>v=r∧H'=H∧c'=c) :=
 AC.lend g h.ac h.na (fun v e=>by rw [e];exact hr)
theorem PC.give {f:Nat} {args args':List DV} {r:DV} {H0:Hp} (h:PC P f args' r) (g:GL H args H0 args'):AC P f args H c (fun v H' c'=>v=r∧H'=H0∧c'=c) :=
 AC.ghost g (h.at H0 c)
theorem GL.one {id:Nat} {b:Blk} {ds ds':List DV} (hb:H id=some b) (ho:b.own=true) (hd:FzL id b ds ds'):GL H ds nil ds' :=
 GL.frz hb ho (fun j=>.inl rfl) hd
theorem madeL_zero {z:List DV}:madeL z 0=[]:=id rfl
theorem madeL_succ {z:List DV} {n:Nat}:madeL z (n+1)=z++madeL z n:=by simp [madeL,List.replicate_succ]
attribute [go_sem] kp_nil kp_cons k_nx k_no k_sn k_sr k_se k_bn k_br k_be k_bo k_r1 k_r2 k_r3 k_n0 k_nil k_pur k_new k_eff k_call k_clv k_clf k_some k_nsome k_esome k_ap k_grd k_gt k_gf k_want k_wu k_ct k_cf k_ln k_lr k_le le_nil le_cons u_some u_none u_same u_ne t_same t_ne h_same h_ne h_dsame h_dne h_nil e_t e_k e_f a_0 a_1 a_2 a_3 j_bool j_int j_str j_snil j_agg j_sbool j_sint j_sstr j_ssnil f_mv f_pick f_ld f_fad f_iad f_iada f_idx f_ext f_nck f_bin f_eqa f_un f_cvi f_cvbs f_slc f_sls f_mkf f_bld f_len f_lens f_mn f_mx g_box g_bsl g_msl g_st g_app g_apps r_pt r_pf r_ld b_ld1 b_ldn r_fld1 r_fldn r_fadp r_fadf r_iadn o_iad r_iads r_iada r_idxn o_ch r_ext r_nckp r_neg r_not r_cvi r_lenn r_lens r_lenl r_slen r_mn r_mx r_slsx r_eql r_neq r_lss r_leq r_gtr r_geq r_add r_sub r_mul r_and r_or r_sadd r_seql r_sneq m_p m_s r_box r_st b_st r_apx r_aps r_srcl r_srcs b_src r_apps bslR bldR fillL setL madeL_zero madeL_succ d_nil d_free d_fs d_gp d_gn d_ps d_ns d_eff d_es want_none want_some x_eff x_t x_pur x_e x_call x_ps x_es x_dk hide_nil merge_nil hm_same ag_nil ag_cons ag_s ag_p ag_ps List.filter_cons Eng.isNew Bool.false_eq_true List.map_cons List.map_nil List.getElem?_cons_zero List.getElem?_cons_succ List.getElem?_map Option.map_some Option.map_none List.drop_succ_cons List.drop_zero List.take_succ_cons List.take_zero List.length_cons List.length_nil List.length_map List.cons_append List.nil_append List.append_nil List.set_cons_zero List.set_cons_succ List.replicate_succ List.replicate_zero List.flatten_cons List.flatten_nil List.filter_nil hide_nil DV.cells DV.one List.all_cons List.all_nil Bool.and_true Bool.true_and Bool.and_self Bool.false_and Bool.and_false not_false_eq_true and_self and_true true_and beq_self_eq_true bne_self_eq_false Bool.true_beq Bool.false_beq Bool.not_true Bool.not_false Int.toNat_natCast Nat.le_refl Nat.zero_add Nat.add_zero Nat.zero_mul Nat.one_mul Nat.mul_one
end Go.Sym
namespace Go.Sym
variable [Go.Sym.Tab]
open Go.Eng (Tgt Opd FOp AOp EOp IOp IOper DReg IC RV IFn trC trFn IsFn Callable isNew)
variable {P:Program} {N:Nat} {Q:Exit→St→Prop} {R:St→Prop} {s:St} {x y z:IC} {os io:List IOper} {T:Tm} {H:Hp} {c c0:Nat} {dst:Option Nat} {v:DV}
theorem GL.view {ds ds':List DV} (h:∀ (ρ : Ren) (vs:Array Value),ARel ρ ds vs→ARel ρ ds' vs):GL H ds H ds' :=
 ⟨fun _ h=>h,fun ρ w vs h1 h2=>⟨ρ,rfl,h1,h ρ vs h2,Ext.refl _ _ _⟩⟩
theorem arel_one {ρ : Ren} {d d':DV} (h:∀ v,VRel ρ d v→VRel ρ d' v) (vs:Array Value) (hA:ARel ρ [d] vs):ARel ρ [d'] vs :=
 ⟨hA.1,fun i x y hx hy=>by
  cases i with
  | zero=>cases hx;exact h y (hA.2 0 d y rfl hy)
  | succ i=>cases hx⟩
theorem VRel.snil_lst {ρ : Ren} {v:Value} (h:VRel ρ .snil v):VRel ρ (.lst []) v:=by cases h;exact .lnil0
theorem VRel.tup2 {ρ : Ren} {a a' b:DV} {v:Value} (ha:∀ v,VRel ρ a v→VRel ρ a' v) (h:VRel ρ (.tup [a,b]) v):VRel ρ (.tup [a',b]) v:=by
 obtain ⟨vs,rfl,hA⟩:=h.tup_inv
 refine .mkTup ⟨hA.1,fun i x y hx hy=>?_⟩
 match i with
 | 0=>cases hx;exact ha y (hA.2 0 a y rfl hy)
 | 1=>cases hx;exact hA.2 1 b y rfl hy
 | _+2=>cases hx
theorem pc_snil:∃ H2,GL H [.snil] H2 [.lst []]:=⟨H,GL.view fun ρ vs h=>arel_one (fun v h=>h.snil_lst) vs h⟩
theorem pc_snil2 {b:DV}:∃ H2,GL H [.tup [.snil,b]] H2 [.tup [.lst [],b]]:=⟨H,GL.view fun ρ vs h=>arel_one (fun v h=>h.tup2 fun v h=>h.snil_lst) vs h⟩
theorem fz_slc {id n u:Nat} {xs:List DV} {blk:Blk} (hl:xs.length=n) (hu:∀ x∈xs,x.cells.length=u) (hc:∃ r,blk.cells=cellsL xs++r):Fz id blk (.slc id 0 n) (.lst xs):=by
 obtain ⟨r,hr⟩:=hc
 have hcl:=cellsL_length hu
 refine .slc 0 n u xs hl hu ?_ ?_
 ·rw [hr,List.length_append,hcl,hl];omega
 ·rw [hr,List.drop_zero,List.take_left' (by rw [hcl,hl])]
theorem pc_slc {id n u:Nat} {xs:List DV} {blk:Blk} (hb:H id=some blk) (ho:blk.own=true) (hl:xs.length=n) (hu:∀ x∈xs,x.cells.length=u) (hc:∃ r,blk.cells=cellsL xs++r) :
  ∃ H2,GL H [.slc id 0 n] H2 [.lst xs]:=⟨nil,GL.one hb ho (.cons _ _ _ _ (fz_slc hl hu hc) .nil)⟩
theorem pc_slc2 {id n u:Nat} {xs:List DV} {blk:Blk} {b:DV} (hb:H id=some blk) (ho:blk.own=true) (hl:xs.length=n) (hu:∀ x∈xs,x.cells.length=u) (hc:∃ r,blk.cells=cellsL xs++r) :
  ∃ H2,GL H [.tup [.slc id 0 n,b]] H2 [.tup [.lst xs,b]] :=
 ⟨nil,GL.one hb ho (.cons _ _ _ _ (.tup _ _ (.cons _ _ _ _ (fz_slc hl hu hc) (.cons _ _ _ _ (.same _) .nil))) .nil)⟩
theorem cellsL_map1 {α : Type} {f : α → DV} (h:∀ a,(f a).cells=[f a]):∀ (l:List α),cellsL (l.map f)=l.map f
 | []=>rfl
 | a :: l=>by
  have:=cellsL_map1 h l
  simp only [cellsL,List.map_cons,List.flatMap_cons,h a,List.cons_append,List.nil_append] at this ⊢
  rw [this]
theorem cellsL_append (a b:List DV):cellsL (a++b)=cellsL a++cellsL b:=by simp [cellsL]
theorem put_map {α : Type} {f : α → DV} {l:List α} {n:Nat} {a : α} (h:n<l.length):(l.map f).take n++[f a]++(l.map f).drop (n+1)=(l.set n a).map f:=by
 rw [List.set_eq_take_append_cons_drop,if_pos h]
 simp [List.map_take,List.map_drop]
theorem r_iadsn {id off l n sz:Nat} {k:IntKind} (h:n<l):iadR sz (.slc id off l) (.int k (n:Int))=some (.ptr id (off+n * sz)):=by
 rw [r_iads (Int.natCast_nonneg n) (by exact_mod_cast h),Int.toNat_natCast]
theorem r_slch {id off l h sz:Nat} {k:IntKind} (hh:h≤l):slcR H sz (.slc id off l) none (some (.int k (h:Int)))=some (.slc id off h):=by
 simp only [slcR,boundOf,Int.natCast_nonneg,if_true,Int.toNat_natCast,hh,Nat.zero_le,and_self]
theorem r_msl {sz bytes n:Nat} {z:List DV} {k k':IntKind} (h1:bytes * n≤281474976710656) (h2:n≤9223372036854775807) (h3:z.all DV.one=true) (h4:z.length=sz) :
  mslR sz bytes z (.int k (n:Int)) (.int k' (n:Int))=some (some n,⟨sz,true,madeL z n⟩):=by
 simp only [mslR]
 rw [if_pos]
 ·simp
 ·have h5:((bytes * n:Nat):Int)≤281474976710656:=by omega
  rw [Int.natCast_mul] at h5
  exact ⟨Int.natCast_nonneg _,Int.le_refl _,h5,by omega,h3,h4⟩
theorem madeL_one (a:DV) (n:Nat):madeL [a] n=List.replicate n a:=by
 induction n with
 | zero=>rfl
 | succ n ih=>simp only [madeL,List.replicate_succ,List.flatten_cons,List.cons_append,List.nil_append] at ih ⊢;rw [ih]
section
variable {id sz bytes l w:Nat} {cs cs' a j:List DV}
theorem b_appx (h0:cs'.length=l * sz) (h2:(l+w) * bytes≤140737488355328) (h3:l+w≤9223372036854775807) :
  apB H c id sz bytes l w cs (some ⟨sz,true,cs'⟩)=some (.slc c 0 (l+w),(H.del id).upd c ⟨sz,true,cs'++cs⟩,c+1):=by
 rw [b_app (by omega) h2 (by simpa [maxLen] using h3),List.take_of_length_le (by omega)]
theorem r_appn' (h:¬ l=0) (h1:l * bytes≤140737488355328) (h2:l≤9223372036854775807):appR H c sz bytes .snil l cs=some (.slc c 0 l,H.upd c ⟨sz,true,cs⟩,c+1) :=
 r_appn h h1 (by simpa [maxLen] using h2)
end
def todoV:Option Nat→Nat→DV
 | none,_=>.snil
 | some id,n=>.slc id 0 n
def optH (H:Hp):Option Nat→Blk→Hp
 | none,_=>H
 | some id,b=>H.upd id b
theorem todo_n {n:Nat}:todoV none n=.snil:=id rfl
theorem todo_s {i n:Nat}:todoV (some i) n=.slc i 0 n:=id rfl
theorem opt_n {b:Blk}:optH H none b=H:=id rfl
theorem opt_s {i:Nat} {b:Blk}:optH H (some i) b=H.upd i b:=id rfl
attribute [go_sem] r_iadsn r_slch todo_n todo_s opt_n opt_s
end Go.Sym
namespace Go.Sym
open Go.Eng (Opd FOp IOp IOper DReg)
abbrev oG (d:Nat) (e:FOp) (g:Nat):IOper:=⟨some d,.pur e,some (g,true)⟩
abbrev oR (d:Nat) (e:FOp) (g:Nat):IOper:=⟨some d,.pur e,some (g,false)⟩
section
variable (d a b k g:Nat) (o:BinOp)
abbrev oP (e:FOp):IOper:=⟨some d,.pur e,none⟩
abbrev oM:IOper:=⟨some d,.pur (.mv (.t a)),none⟩
abbrev oL:IOper:=⟨some d,.pur (.ld 1 false (.t a)),none⟩
abbrev oF:IOper:=⟨some d,.pur (.fad k (.t a)),none⟩
abbrev oN:IOper:=⟨some d,.pur (.nck (.t a)),none⟩
abbrev oB:IOper:=⟨some d,.pur (.bin o (.t a) (.t b)),none⟩
abbrev oK (n:Int):IOper:=⟨some d,.pur (.bin o (.t a) (.k (.int .i64 n))),none⟩
abbrev oI (n:Int):IOper:=⟨some d,.pur (.mv (.k (.int .i64 n))),none⟩
abbrev oE:IOper:=⟨some d,.pur (.ext (.t a) k),none⟩
abbrev oH:IOper:=⟨some d,.pur (.len (.t a)),none⟩
abbrev oA:IOper:=⟨some d,.pur (.iad k (.t a) (.t b)),none⟩
abbrev oD:IOper:=⟨some d,.pur (.ld k true (.t a)),none⟩
abbrev oC (l:List Opd):IOper:=⟨some d,.call k l,none⟩
abbrev oS:IOper:=⟨none,.eff (.st k (.t a) (.t b)),none⟩
abbrev oX:IOper:=⟨some d,.new (.box (.t a)),none⟩
abbrev oW (v:Value):IOper:=⟨some d,.new (.box (.k v)),none⟩
abbrev oV (v:Value):IOper:=⟨some d,.pur (.mv (.k v)),none⟩
abbrev oT:IOper:=⟨some d,.eff (.app k g (.t a) (.t b)),none⟩
abbrev oY:IOper:=⟨some d,.pur (.un .not (.t a)),none⟩
abbrev oJ:IOper:=⟨some d,.pur (.pick (.t a) (.t b) (.k (.bool false))),none⟩
abbrev oO:IOper:=⟨some d,.pur (.pick (.t a) (.k (.bool true)) (.t b)),none⟩
abbrev gM:IOper:=⟨some d,.pur (.mv (.t a)),some (g,true)⟩
abbrev gL:IOper:=⟨some d,.pur (.ld 1 false (.t a)),some (g,true)⟩
abbrev gF:IOper:=⟨some d,.pur (.fad k (.t a)),some (g,true)⟩
abbrev gK (n:Int):IOper:=⟨some d,.pur (.bin o (.t a) (.k (.int .i64 n))),some (g,true)⟩
abbrev hM:IOper:=⟨some d,.pur (.mv (.t a)),some (g,false)⟩
abbrev hL:IOper:=⟨some d,.pur (.ld 1 false (.t a)),some (g,false)⟩
abbrev hF:IOper:=⟨some d,.pur (.fad k (.t a)),some (g,false)⟩
abbrev hN:IOper:=⟨some d,.pur (.nck (.t a)),some (g,false)⟩
abbrev hK (n:Int):IOper:=⟨some d,.pur (.bin o (.t a) (.k (.int .i64 n))),some (g,false)⟩
end
def ascP (e:Nat):Nat→List IOper→List (Nat × Option (List Nat))
 | _,[]=>[]
 | k,⟨_,.pur _,_⟩ :: r=>(k,match e.testBit k with|true=>some []|false=>none) :: ascP e (k+1) r
 | k,_ :: r=>(k,some []) :: ascP e (k+1) r
abbrev dQ (r:List IOper) (e:Nat):DReg:=⟨r,[],ascP e 0 r⟩
end Go.Sym
namespace Go.Sym
variable [Go.Sym.Tab]
open Go.Eng (Opd IOper DReg IC)
abbrev Rl:Type:=Program→Nat→(Exit→St→Prop)→Tm→Hp→Nat→Prop
def rS (r:List IOper) (y:IC) (L:List Nat):Rl:=fun P N Q T H c=>rwp P (nx P N y Q) r ⟨tm (kp L T),H,c⟩
def rE (r:List IOper) (L:List Nat):Rl:=fun P N Q T H c=>rwp P (no Q) r ⟨tm (kp L T),H,c⟩
def rP (r:List IOper) (y:IC) (n:Nat) (L:List Nat):Rl:=fun P N Q T H c=>rwp P (nx P N y Q) r ⟨tm (kp L T),H,c+n⟩
def rD (r:List IOper) (p:List (Nat × Option (List Nat))) (y:IC) (n:Nat) (L:List Nat):Rl:=fun P N Q T H c=>dwp P (nx P N y Q) r c p ⟨tm (kp L T),H,c+n⟩
def rDE (r:List IOper) (p:List (Nat × Option (List Nat))) (n:Nat) (L:List Nat):Rl:=fun P N Q T H c=>dwp P (no Q) r c p ⟨tm (kp L T),H,c+n⟩
def rC (o:Opd) (x z y:IC) (L:List Nat):Rl:=fun P N Q T H c=>cndK P N x z ⟨tm (kp L T),H,c⟩ (sq P N y Q) (ev (tm (kp L T)) o)
def rCE (o:Opd) (x z:IC) (L:List Nat):Rl:=fun P N Q T H c=>cndK P N x z ⟨tm (kp L T),H,c⟩ Q (ev (tm (kp L T)) o)
def rB (i:Nat) (x y:IC) (L:List Nat):Rl:=fun P N Q T H c=>IW P N x ⟨tm (kp L T),H,c⟩ (bk i (sq P N y Q))
def rBE (i:Nat) (x:IC) (L:List Nat):Rl:=fun P N Q T H c=>IW P N x ⟨tm (kp L T),H,c⟩ (bk i Q)
def rQ (x y:IC) (L:List Nat):Rl:=fun P N Q T H c=>IW P N x ⟨tm (kp L T),H,c⟩ (sq P N y Q)
def rT (e:Exit):Rl:=fun P N Q T H c=>Q e ⟨T,H,c⟩
class WR (P:Program) (N:Nat) (u:IC) (r:outParam Rl):Prop where
 out:∀ {Q:Exit→St→Prop} {T:Tm} {H:Hp} {c:Nat},r P N Q T H c→IW P N u ⟨T,H,c⟩ Q
def qS (r:List IOper) (y:IC) (_:List Nat):IC:=.seq (.reg r) y
def qE (r:List IOper) (_:List Nat):IC:=.reg r
def qP (r:List IOper) (y:IC) (e n:Nat) (_:List Nat):IC:=.seq (.drw n (dQ r e)) y
def qD (r:List IOper) (y:IC) (p:List (Nat × Option (List Nat))) (n:Nat) (_:List Nat):IC:=.seq (.drw n ⟨r,[],p⟩) y
def qG (r:List IOper) (p:List (Nat × Option (List Nat))) (n:Nat) (_:List Nat):IC:=.drw n ⟨r,[],p⟩
def qC (x y z:IC) (o:Opd) (_:List Nat):IC:=.seq (.cond o x z) y
def qK (x z:IC) (o:Opd) (_:List Nat):IC:=.cond o x z
def qB (x y:IC) (i:Nat) (_:List Nat):IC:=.seq (.blk i x) y
def qJ (x:IC) (i:Nat) (_:List Nat):IC:=.blk i x
def qQ (x y:IC) (_:List Nat):IC:=.seq x y
theorem ascP_asc (e:Nat):∀ (r:List IOper) (k:Nat),asc k (ascP e k r) r=true
 | [],k=>by simp [ascP,asc]
 | ⟨_,.pur _,_⟩ :: r,k=>by
  unfold ascP
  cases e.testBit k<;>simp [asc,ascP_asc e r (k+1)]
 | ⟨_,.new _,_⟩ :: r,k=>by simp [ascP,asc,ascP_asc e r (k+1)]
 | ⟨_,.eff _,_⟩ :: r,k=>by simp [ascP,asc,ascP_asc e r (k+1)]
 | ⟨_,.call _ _,_⟩ :: r,k=>by simp [ascP,asc,ascP_asc e r (k+1)]
 | ⟨_,.callv _ _,_⟩ :: r,k=>by simp [ascP,asc,ascP_asc e r (k+1)]
section
variable {P:Program} {N:Nat} {u x y z:IC} {Q:Exit→St→Prop} {T:Tm} {H:Hp} {c n i:Nat} {r:List IOper} {p:List (Nat × Option (List Nat))} {L:List Nat} {o:Opd} {e:Nat}
theorem wr {w:Rl} [k:WR P N u w] (h:w P N Q T H c):IW P N u ⟨T,H,c⟩ Q:=k.out h
theorem e_S:rS r y L P N Q T H c=rwp P (nx P N y Q) r ⟨tm (kp L T),H,c⟩:=propext Iff.rfl
theorem e_E:rE r L P N Q T H c=rwp P (no Q) r ⟨tm (kp L T),H,c⟩:=propext Iff.rfl
theorem e_P:rP r y n L P N Q T H c=rwp P (nx P N y Q) r ⟨tm (kp L T),H,c+n⟩:=propext Iff.rfl
theorem e_D:rD r p y n L P N Q T H c=dwp P (nx P N y Q) r c p ⟨tm (kp L T),H,c+n⟩:=propext Iff.rfl
theorem e_DE:rDE r p n L P N Q T H c=dwp P (no Q) r c p ⟨tm (kp L T),H,c+n⟩:=propext Iff.rfl
theorem e_C:rC o x z y L P N Q T H c=cndK P N x z ⟨tm (kp L T),H,c⟩ (sq P N y Q) (ev (tm (kp L T)) o):=propext Iff.rfl
theorem e_CE:rCE o x z L P N Q T H c=cndK P N x z ⟨tm (kp L T),H,c⟩ Q (ev (tm (kp L T)) o):=propext Iff.rfl
theorem e_B:rB i x y L P N Q T H c=IW P N x ⟨tm (kp L T),H,c⟩ (bk i (sq P N y Q)):=propext Iff.rfl
theorem e_BE:rBE i x L P N Q T H c=IW P N x ⟨tm (kp L T),H,c⟩ (bk i Q):=propext Iff.rfl
theorem e_Q:rQ x y L P N Q T H c=IW P N x ⟨tm (kp L T),H,c⟩ (sq P N y Q):=propext Iff.rfl
theorem e_T {e:Exit}:rT e P N Q T H c=Q e ⟨T,H,c⟩:=propext Iff.rfl
instance vS:WR P N (qS r y L) (rS r y L):=⟨mkS⟩
instance vE:WR P N (qE r L) (rE r L):=⟨mkE⟩
instance vP:WR P N (qP r y e n L) (rP r y n L):=⟨mkP (d:=dQ r e) (ascP_asc e r 0)⟩
instance vD:WR P N (qD r y p n L) (rD r p y n L):=⟨mkD (d:=⟨r,[],p⟩)⟩
instance vG:WR P N (qG r p n L) (rDE r p n L):=⟨mkDE (d:=⟨r,[],p⟩)⟩
instance vC:WR P N (qC x y z o L) (rC o x z y L):=⟨mkC⟩
instance vK:WR P N (qK x z o L) (rCE o x z L):=⟨mkCE⟩
instance vB:WR P N (qB x y i L) (rB i x y L):=⟨mkB⟩
instance vJ:WR P N (qJ x i L) (rBE i x L):=⟨mkBE⟩
instance vQ:WR P N (qQ x y L) (rQ x y L):=⟨mkQ⟩
theorem cpc {f:Nat} {args:List DV} {v:DV} {K:DV→Hp→Nat→Prop} (h:PC P f args v) (k:K v H c):AC P f args H c K:=(h.at H c).mono (by rintro _ _ _ ⟨rfl,rfl,rfl⟩;exact k)
instance wRet:WR P N .ret (rT .ret):=⟨fun h=>i_ret h⟩
instance wSkip:WR P N .skip (rT .normal):=⟨fun h=>i_skip h⟩
instance wExit:WR P N (.exit i) (rT (.exit i)):=⟨fun h=>i_exit h⟩
theorem r_iad0 {sz:Nat} {xs:List DV} {k:IntKind}:iadR sz (.lst xs) (.int k 0)=iadO sz xs[0]? := r_iadn (l:=0)
class W2 (G:Prop) (b:outParam Bool) (A B:outParam Prop):Prop where
 out:(b=true→A)→(b=false→B)→G
theorem wb2 {G A B:Prop} {b:Bool} [k:W2 G b A B] (h1:b=true→A) (h2:b=false→B):G:=k.out h1 h2
instance w2C {s:St} {b:Bool}:W2 (cndK P N x y s Q (.bool b)) b (IW P N x s Q) (IW P N y s Q):=⟨fun h1 h2=>k_cb h1 h2⟩
instance w2G {R:St→Prop} {dst:Option Nat} {op:Go.Eng.IOp} {os:List IOper} {b d:Bool}:W2 (grdK P R dst op os T H c (some (b == d))) b (grdK P R dst op os T H c (some (true == d))) (grdK P R dst op os T H c (some (false == d))):=⟨fun h1 h2=>k_gb h1 h2⟩
end
theorem nes2 (a b:Nat) (h0:¬a=b):¬a=b∧¬b=a:=⟨h0,fun e=>h0 e.symm⟩
theorem nes3 (a b c:Nat) (h:¬a=b∧¬a=c∧¬b=c):¬a=b∧¬a=c∧¬b=a∧¬b=c∧¬c=a∧¬c=b:=by
 obtain ⟨h0,h1,h2⟩:=h
 exact ⟨h0,h1,fun e=>h0 e.symm,h2,fun e=>h1 e.symm,fun e=>h2 e.symm⟩
theorem nes4 (a b c d:Nat) (h:¬a=b∧¬a=c∧¬a=d∧¬b=c∧¬b=d∧¬c=d):¬a=b∧¬a=c∧¬a=d∧¬b=a∧¬b=c∧¬b=d∧¬c=a∧¬c=b∧¬c=d∧¬d=a∧¬d=b∧¬d=c:=by
 obtain ⟨h0,h1,h2,h3,h4,h5⟩:=h
 exact ⟨h0,h1,h2,fun e=>h0 e.symm,h3,h4,fun e=>h1 e.symm,fun e=>h3 e.symm,h5,fun e=>h2 e.symm,fun e=>h4 e.symm,fun e=>h5 e.symm⟩
theorem nes5 (a b c d e:Nat) (h:¬a=b∧¬a=c∧¬a=d∧¬a=e∧¬b=c∧¬b=d∧¬b=e∧¬c=d∧¬c=e∧¬d=e):¬a=b∧¬a=c∧¬a=d∧¬a=e∧¬b=a∧¬b=c∧¬b=d∧¬b=e∧¬c=a∧¬c=b∧¬c=d∧¬c=e∧¬d=a∧¬d=b∧¬d=c∧¬d=e∧¬e=a∧¬e=b∧¬e=c∧¬e=d:=by
 obtain ⟨h0,h1,h2,h3,h4,h5,h6,h7,h8,h9⟩:=h
 exact ⟨h0,h1,h2,h3,fun e=>h0 e.symm,h4,h5,h6,fun e=>h1 e.symm,fun e=>h4 e.symm,h7,h8,fun e=>h2 e.symm,fun e=>h5 e.symm,fun e=>h7 e.symm,h9,fun e=>h3 e.symm,fun e=>h6 e.symm,fun e=>h8 e.symm,fun e=>h9 e.symm⟩
theorem nes6 (a b c d e f:Nat) (h:¬a=b∧¬a=c∧¬a=d∧¬a=e∧¬a=f∧¬b=c∧¬b=d∧¬b=e∧¬b=f∧¬c=d∧¬c=e∧¬c=f∧¬d=e∧¬d=f∧¬e=f):¬a=b∧¬a=c∧¬a=d∧¬a=e∧¬a=f∧¬b=a∧¬b=c∧¬b=d∧¬b=e∧¬b=f∧¬c=a∧¬c=b∧¬c=d∧¬c=e∧¬c=f∧¬d=a∧¬d=b∧¬d=c∧¬d=e∧¬d=f∧¬e=a∧¬e=b∧¬e=c∧¬e=d∧¬e=f∧¬f=a∧¬f=b∧¬f=c∧¬f=d∧¬f=e:=by
 obtain ⟨h0,h1,h2,h3,h4,h5,h6,h7,h8,h9,h10,h11,h12,h13,h14⟩:=h
 exact ⟨h0,h1,h2,h3,h4,fun e=>h0 e.symm,h5,h6,h7,h8,fun e=>h1 e.symm,fun e=>h5 e.symm,h9,h10,h11,fun e=>h2 e.symm,fun e=>h6 e.symm,fun e=>h9 e.symm,h12,h13,fun e=>h3 e.symm,fun e=>h7 e.symm,fun e=>h10 e.symm,fun e=>h12 e.symm,h14,fun e=>h4 e.symm,fun e=>h8 e.symm,fun e=>h11 e.symm,fun e=>h13 e.symm,fun e=>h14 e.symm⟩
theorem nes7 (a b c d e f g:Nat) (h:¬a=b∧¬a=c∧¬a=d∧¬a=e∧¬a=f∧¬a=g∧¬b=c∧¬b=d∧¬b=e∧¬b=f∧¬b=g∧¬c=d∧¬c=e∧¬c=f∧¬c=g∧¬d=e∧¬d=f∧¬d=g∧¬e=f∧¬e=g∧¬f=g):¬a=b∧¬a=c∧¬a=d∧¬a=e∧¬a=f∧¬a=g∧¬b=a∧¬b=c∧¬b=d∧¬b=e∧¬b=f∧¬b=g∧¬c=a∧¬c=b∧¬c=d∧¬c=e∧¬c=f∧¬c=g∧¬d=a∧¬d=b∧¬d=c∧¬d=e∧¬d=f∧¬d=g∧¬e=a∧¬e=b∧¬e=c∧¬e=d∧¬e=f∧¬e=g∧¬f=a∧¬f=b∧¬f=c∧¬f=d∧¬f=e∧¬f=g∧¬g=a∧¬g=b∧¬g=c∧¬g=d∧¬g=e∧¬g=f:=by
 obtain ⟨h0,h1,h2,h3,h4,h5,h6,h7,h8,h9,h10,h11,h12,h13,h14,h15,h16,h17,h18,h19,h20⟩:=h
 exact ⟨h0,h1,h2,h3,h4,h5,fun e=>h0 e.symm,h6,h7,h8,h9,h10,fun e=>h1 e.symm,fun e=>h6 e.symm,h11,h12,h13,h14,fun e=>h2 e.symm,fun e=>h7 e.symm,fun e=>h11 e.symm,h15,h16,h17,fun e=>h3 e.symm,fun e=>h8 e.symm,fun e=>h12 e.symm,fun e=>h15 e.symm,h18,h19,fun e=>h4 e.symm,fun e=>h9 e.symm,fun e=>h13 e.symm,fun e=>h16 e.symm,fun e=>h18 e.symm,h20,fun e=>h5 e.symm,fun e=>h10 e.symm,fun e=>h14 e.symm,fun e=>h17 e.symm,fun e=>h19 e.symm,fun e=>h20 e.symm⟩
attribute [go_sem] e_T r_iad0 decide_true decide_false
attribute [go_sem] e_S e_E e_P e_D e_DE e_C e_CE e_B e_BE e_Q
end Go.Sym
namespace Go.Eng
open Go.RowKit Go.WideShapes Go.ChangeShapes
section
variable {H:Type} {enc:TypeId × Value→H} {P:Program}
theorem post_of_below {f:Func} {s:ChangeSpec} {apart fresh handsOn again:Bool} {W W':World} {args:Array Value} {v:Value} {ds gs:List (DataW H)} {before pa pv:List MemPlace}
  (hW:DataW.Whole enc P f.params.toList s.vars apart W args.toList ds gs before)
  (hres:∀ (b:Nat) (sp:Nat→Bool) (hd:Bool),DataW.TrodAll enc P W' b sp hd f.resultTypes.toList (v.resultList f.resultTypes.size) (s.fn H (ds++gs)).results [])
  (hargs:∀ sp:Nat→Bool,(∀ p∈before,sp p.block=true)→DataW.TrodAll enc P W' 0 sp true f.params.toList args.toList (s.fn H (ds++gs)).args pa)
  (hvars:∀ sp:Nat→Bool,(∀ p∈before,sp p.block=true)→DataW.TrodVars enc P W' sp s.vars (s.fn H (ds++gs)).vars pv)
  (hps:before=pa++pv) (hb:Below W.heap.size W W')
  (hok:∀ (j:Nat) (t:TypeId) (r:Value),f.resultTypes[j]? = some t→(v.resultList f.resultTypes.size)[j]? = some r→Value.okWide P W' .any 0 t r) :
  s.post enc P f apart fresh handsOn again W args v W':=by
 have hlt:∀ p∈before,p.block<W.heap.size:=fun p hp=>hW.lt p hp
 have hold:∀ p∈before,(fun b=>decide (b<W.heap.size)) p.block=true:=fun p hp=>by simpa using hlt p hp
 refine ⟨ds,gs,before,[],pa,pv,hW,hres _ _ _,hargs _ hold,hvars _ hold,World.keptBut_mono (fun p hp=>⟨hp,?_⟩) (hb.frame (· ∈ before)),fun _=>?_⟩
 ·rw [hps,List.mem_append] at hp
  exact Or.inr hp
 ·obtain ⟨_,_,_,_,_,hz,hn⟩:=hW
  refine ⟨hok,_,_,([]++pa)++pv,⟨[]++pa,pv,trodAll_append (hargs _ (fun _ _=>rfl)) (hres _ _ _),hvars _ (fun _ _=>rfl),rfl,?_,?_⟩,?_⟩
  ·intro b off hp
   have hin:MemPlace.cell b off∈before:=by rw [hps];simpa using hp
   rw [hb.frozen (hlt _ hin)]
   exact hz b off hin
  ·intro ha
   have:=hn ha
   rw [hps] at this
   simpa using this
  ·intro p hp _
   rw [hps]
   simpa using hp
end
end Go.Eng
namespace Go.Sym
variable [Go.Sym.Tab]
open Go.Eng (Tgt Opd FOp AOp EOp IOp IOper DReg IC RV IFn trC trFn IsFn Callable isNew)
open Go.RowKit
variable {P:Program}
def topF (w:World):Nat→Option (Array Value):=fun b=>match w.heap[b]? with
 | some (.cells r _ _)=>some r
 | _=>none
def TabOk (w:World):Prop:=∀ p∈Tab.tab,topF w p.1=some p.2
def topR (w:World) (hT:TabOk w):Ren:=⟨fun _=>none,topF w,hT⟩
theorem topR_cells {w:World} {b:Nat} {r:Array Value} {e:TypeId} {fr:Nat × Nat} {hT:TabOk w} (h:w.heap[b]? = some (.cells r e fr)):(topR w hT).fz b=some r:=by
 simp only [topR,topF,h]
theorem topR_rep (w:World) (hT:TabOk w):Rep (topR w hT) nil w:=by
 refine ⟨fun id b h=>(by cases h),fun i j bi bj ti tj h=>(by cases h),fun b r h=>?_,fun id b t h=>(by cases h)⟩
 simp only [topR,topF] at h
 split at h
 ·rename_i r' e fr h1;cases h;exact ⟨e,fr,h1⟩
 ·cases h
theorem AC.top {f:Nat} {args:List DV} {Q:DV→Hp→Nat→Prop} (h:AC P f args nil 0 Q) (w:World) (hT:TabOk w) (vs:Array Value) (ha:ARel (topR w hT) args vs) :
  Calls P f vs w fun e w' => ∃ v v' H' c' ρ',e=.returned v'∧Q v H' c'∧VRel ρ' v v'∧Below w.heap.size w w':=by
 refine (h.2 (topR w hT) w vs (topR_rep w hT) (fun _ _=>rfl) ha).mono ?_
 rintro e w' ⟨v,v',H',c', ρ',e1,q,d⟩
 exact ⟨v,v',H',c', ρ',e1,q,d.val,d.ext.below (fun id b hb=>by cases hb)⟩
theorem PC.of_calls {f:Nat} {args:List DV} {r:DV} (hc:Callable P f=true) (na:DV.nlL args=true) (nr:r.nl=true)
  (h:∀ (ρ : Ren) (w:World) (vs:Array Value),(∀ b r, ρ.fz b=some r→∃ e fr,w.heap[b]? = some (.cells r e fr))→ARel ρ args vs →
   Calls P f vs w fun e w' => ∃ v',e=.returned v'∧(∀ ρ':Ren,VRel ρ' r v')∧Below w.heap.size w w'):PC P f args r:=by
 refine ⟨na,nr,hc,fun ρ w vs hR hf hA=>?_⟩
 refine (h ρ w vs hR.frz hA).mono ?_
 rintro e w' ⟨v',rfl,hv,b1,b2,b3,b4,b5⟩
 refine ⟨r,v',nil,0, ρ,rfl,rfl,hv ρ,⟨fun id b h=>(by cases h),fun i j bi bj ti tj h=>(by cases h),fun b r hb=>?_,fun id b t h=>(by cases h)⟩,hf,Nat.le_refl _,fun id hid h=>absurd rfl h,fun _ _=>rfl,
  ⟨Ren.le_refl _,b1,b2,b3,b4,fun k hk _=>b5 k hk,fun id b t h1=>(by cases h1),fun k r h=>.inl h⟩⟩
 obtain ⟨e,fr,h1⟩:=hR.frz b r hb
 exact ⟨e,fr,by rw [b5 b (hR.flt hb)];exact h1⟩
theorem GL.cells {H H':Hp} {ds:List DV} (h:∀ j,H' j=none∨∃ bj bj',H j=some bj∧H' j=some bj'∧bj'.unit=bj.unit∧bj'.own=bj.own∧bj'.cells.length≤bj.cells.length ∧
   ∀ (i:Nat) d',bj'.cells[i]? = some d'→∃ d,bj.cells[i]? = some d∧(d'=d∨(d'.one=true∧∀ ρ v,VRel ρ d v→VRel ρ d' v))):GL H ds H' ds:=by
 have hd:∀ id,H' id≠none→H id≠none:=fun id hid=>by
  rcases h id with h0|⟨bj,bj',h1, -⟩
  ·exact absurd h0 hid
  ·rw [h1];simp
 refine ⟨hd,fun ρ w vs hR hA=>⟨ρ,rfl,⟨fun j b hj=>?_,fun i j bi bj ti tj hi hj hij h1 h2 ho=>?_,hR.frz,fun j b t hj ho ht=>?_⟩,hA,?_⟩⟩
 ·rcases h j with h0|⟨bj,bj',h1,h2,h3,h4,h5,h6⟩
  ·rw [h0] at hj;cases hj
  rw [h2] at hj;cases hj
  obtain ⟨t,ht,c,e,fr,g1,g2,g3,g4,g5,g6⟩:=hR.blk j bj h1
  refine ⟨t,ht,c,e,fr,g1,g2,by omega,g4.trans h3.symm,fun i v hv=>?_,fun ho=>g6 (h4▸ho)⟩
  obtain ⟨d,q2,q3⟩:=h6 i v hv
  obtain ⟨q1,v',q4,q5⟩:=g5 i d q2
  rcases q3 with rfl|⟨q6,q7⟩
  ·exact ⟨q1,v',q4,q5⟩
  ·exact ⟨q6,v',q4,q7 ρ v' q5⟩
 ·rcases h i with h0|⟨b1,b1',e1,e2, -,e4, -⟩
  ·rw [h0] at hi;cases hi
  rcases h j with h0|⟨b2,b2',f1,f2, -⟩
  ·rw [h0] at hj;cases hj
  rw [e2] at hi;cases hi
  exact hR.sep i j b1 b2 ti tj e1 f1 hij h1 h2 (e4▸ho)
 ·rcases h j with h0|⟨b1,b1',e1,e2, -,e4, -⟩
  ·rw [h0] at hj;cases hj
  rw [e2] at hj;cases hj
  exact hR.dis j b1 t e1 (e4▸ho) ht
 ·refine ⟨Ren.le_refl _,rfl,rfl,rfl,Nat.le_refl _,fun _ _ _=>rfl,fun j b t hj ht=>?_,fun k r hk=>.inl hk⟩
  rcases h j with h0|⟨b1,b1',e1,e2, -,e4, -⟩
  ·rw [h0] at hj;cases hj
  rw [e2] at hj;cases hj
  exact .inr ⟨j,b1,t,e1,fun ho=>e4▸ho,ht,rfl⟩
theorem GL.frzS {H H':Hp} {ds ds':List DV} {id:Nat} {b:Blk} (hb:H id=some b) (ho:b.own=true) (h:∀ j,H' j=none∨(j≠id∧H' j=H j)) (hd:FzL id b ds ds'):GL H ds H' ds':=by
 refine ⟨fun j hj=>?_,fun ρ w vs hR hA=>?_⟩
 ·rcases h j with h0|⟨-,h0⟩
  ·exact absurd h0 hj
  ·rw [← h0];exact hj
 ·refine (GL.frz hb ho (FzH.less h fun j bj hj d hd=>?_) hd).2 ρ w vs hR hA
  rcases h j with h0|⟨-,h0⟩
  ·rw [h0] at hj;cases hj
  ·rw [h0] at hj
   obtain ⟨t,ht,c,e,fr,g1,g2,g3,g4,g5,g6⟩:=hR.blk j bj hj
   obtain ⟨i,hi⟩:=List.getElem?_of_mem hd
   exact (g5 i d hi).1
theorem GL.frzT {H H':Hp} {ds ds':List DV} {id:Nat} {b:Blk} (hb:H id=some b) (ho:b.own=true)
  (h:∀ j,H' j=none∨(j≠id∧(H' j=H j∨∃ bj bj',H j=some bj∧H' j=some bj'∧bj'.unit=bj.unit∧bj'.own=bj.own∧FzL id b bj.cells bj'.cells∧∀ d∈bj'.cells,d.one=true))) (hd:FzL id b ds ds'):GL H ds H' ds':=by
 have h0:∀ j,H' j≠none→H j≠none:=fun j hj=>by
  rcases h j with h0|⟨-,h0|⟨bj,bj',e1, -⟩⟩
  ·exact absurd h0 hj
  ·rw [← h0];exact hj
  ·rw [e1];simp
 refine ⟨h0,fun ρ w vs hR hA=>?_⟩
 refine (GL.frz hb ho (fun j=>?_) hd).2 ρ w vs hR hA
 rcases h j with h0|⟨hne,h0|h0⟩
 ·exact .inl h0
 ·cases hj:H' j with
  | none=>exact .inl rfl
  | some bj =>
   refine .inr ⟨hne,bj,bj,by rw [← h0,hj],rfl,rfl,rfl,FzL.refl _,fun d hd=>?_⟩
   rw [h0] at hj
   obtain ⟨t,ht,c,e,fr,g1,g2,g3,g4,g5,g6⟩:=hR.blk j bj hj
   obtain ⟨i,hi⟩:=List.getElem?_of_mem hd
   exact (g5 i d hi).1
 ·exact .inr ⟨hne,h0⟩
theorem x_eval {K:DV→Hp→Nat→Prop} {o:Option (DV × Hp × Nat)} {v:DV} {H':Hp} {c':Nat} (h:o=some (v,H',c')) (k:K v H' c'):oeK K o:=by rw [h];exact k
theorem FzL.app {id:Nat} {b:Blk}:∀ {a a' c c':List DV},FzL id b a a'→FzL id b c c'→FzL id b (a++c) (a'++c')
 | [],[],_,_,_,h=>h
 | x :: a,y :: a',_,_,h,k=>by cases h with|cons _ _ _ _ h1 h2=>exact .cons _ _ _ _ h1 (FzL.app h2 k)
theorem g_fin {Hb:Hp} {ci u n:Nat} {o:Option Nat} {pre suf:List DV} {xs ds:List DV} (h1:∀ d∈pre++suf,d.one=true) (hn:o=none→xs=[]) (hs:∀ i,o=some i→i≠ci∧Hb i=none)
  (hl:xs.length=n) (hu:∀ x∈xs,x.cells.length=u) :
  GL (optH (Hb.upd ci ⟨0,true,pre++[todoV o n]++suf⟩) o ⟨u,true,cellsL xs⟩) ds (Hb.upd ci ⟨0,true,pre++[.lst xs]++suf⟩) ds:=by
 cases o with
 | none =>
  obtain rfl:=hn rfl
  refine GL.cells fun j=>?_
  simp only [optH]
  by_cases ej:j=ci
  ·subst ej
   rw [h_same,h_same]
   refine .inr ⟨_,_,rfl,rfl,rfl,rfl,by simp,fun i d' hd=>?_⟩
   simp only [todoV] at hd ⊢
   rcases Nat.lt_trichotomy i pre.length with hi|hi|hi
   ·refine ⟨d',?_,.inl rfl⟩
    rw [List.append_assoc,List.getElem?_append_left hi] at hd ⊢;exact hd
   ·subst hi
    rw [List.append_assoc,List.getElem?_append_right (Nat.le_refl _)] at hd ⊢
    simp at hd ⊢
    subst hd
    exact .inr ⟨rfl,fun ρ v h=>h.snil_lst⟩
   ·refine ⟨d',?_,.inl rfl⟩
    rw [List.append_assoc,List.getElem?_append_right (by omega)] at hd ⊢
    obtain ⟨m,hm⟩:∃ m,i-pre.length=m+1:=⟨i-pre.length-1,by omega⟩
    rw [hm] at hd ⊢
    exact hd
  ·rw [h_ne ej,h_ne ej]
   cases hj:Hb j with
   | none=>exact .inl rfl
   | some b=>exact .inr ⟨b,b,rfl,rfl,rfl,rfl,Nat.le_refl _,fun i d' hd=>⟨d',hd,.inl rfl⟩⟩
 | some id =>
  obtain ⟨e1,e2⟩:=hs id rfl
  simp only [optH,todoV]
  refine GL.frzT (id:=id) (b:=⟨u,true,cellsL xs⟩) h_same rfl (fun j=>?_) (FzL.refl ds)
  by_cases ej:j=ci
  ·subst ej
   refine .inr ⟨Ne.symm e1,.inr ⟨⟨0,true,pre++[.slc id 0 n]++suf⟩,⟨0,true,pre++[.lst xs]++suf⟩,by rw [h_ne (Ne.symm e1),h_same],h_same,rfl,rfl,?_,fun d hd=>?_⟩⟩
   ·exact FzL.app (FzL.app (FzL.refl _) (.cons _ _ _ _ (fz_slc (blk:=⟨u,true,cellsL xs⟩) hl hu ⟨[],by simp⟩) .nil)) (FzL.refl _)
   ·simp only [List.append_assoc,List.mem_append,List.mem_singleton] at hd
    rcases hd with hd|rfl|hd
    ·exact h1 d (List.mem_append_left _ hd)
    ·rfl
    ·exact h1 d (List.mem_append_right _ hd)
  ·rw [h_ne ej]
   by_cases ei:j=id
   ·subst ei;exact .inl e2
   ·exact .inr ⟨ei,.inl (by rw [h_ne ei,h_ne ej])⟩
theorem g_one {H:Hp} {a k u u' n:Nat} {pre suf xs r junk:List DV} (hk:H k=some ⟨0,true,pre++[.slc a 0 n]++suf⟩) (ha:H a=some ⟨u,true,cellsL xs++junk⟩)
  (h1:∀ d∈pre++suf,d.one=true) (hl:xs.length=n) (hu:∀ x∈xs,x.cells.length=u') (hak:¬ a=k) :
  GL H (.agg (pre++[.slc a 0 n]++suf) :: r) ((H.del a).upd k ⟨0,true,pre++[.lst xs]++suf⟩) (.agg (pre++[.lst xs]++suf) :: r):=by
 have hz:FzL a ⟨u,true,cellsL xs++junk⟩ (pre++[.slc a 0 n]++suf) (pre++[.lst xs]++suf) :=
  FzL.app (FzL.app (FzL.refl _) (.cons _ _ _ _ (fz_slc (blk:=⟨u,true,cellsL xs++junk⟩) hl hu ⟨junk,rfl⟩) .nil)) (FzL.refl _)
 refine GL.frzT (id:=a) ha rfl (fun j=>?_) (.cons _ _ _ _ (.agg _ _ hz) (FzL.refl _))
 by_cases ej:j=k
 ·subst ej
  refine .inr ⟨Ne.symm hak,.inr ⟨_,_,hk,h_same,rfl,rfl,hz,fun d hd=>?_⟩⟩
  simp only [List.append_assoc,List.mem_append,List.mem_singleton] at hd
  rcases hd with hd|rfl|hd
  ·exact h1 d (List.mem_append_left _ hd)
  ·rfl
  ·exact h1 d (List.mem_append_right _ hd)
 ·rw [h_ne ej]
  by_cases ea:j=a
  ·subst ea;exact .inl h_dsame
  ·exact .inr ⟨ea,.inl (h_dne ea)⟩
theorem g_cell {H:Hp} {a k u u' n:Nat} {pre suf xs ds junk:List DV} (hk:H k=some ⟨0,true,pre++[.slc a 0 n]++suf⟩) (ha:H a=some ⟨u,true,cellsL xs++junk⟩)
  (h1:∀ d∈pre++suf,d.one=true) (hl:xs.length=n) (hu:∀ x∈xs,x.cells.length=u') (hak:¬ a=k) :
  GL H ds ((H.del a).upd k ⟨0,true,pre++[.lst xs]++suf⟩) ds:=by
 have hz:FzL a ⟨u,true,cellsL xs++junk⟩ (pre++[.slc a 0 n]++suf) (pre++[.lst xs]++suf) :=
  FzL.app (FzL.app (FzL.refl _) (.cons _ _ _ _ (fz_slc (blk:=⟨u,true,cellsL xs++junk⟩) hl hu ⟨junk,rfl⟩) .nil)) (FzL.refl _)
 refine GL.frzT (id:=a) ha rfl (fun j=>?_) (FzL.refl ds)
 by_cases ej:j=k
 ·subst ej
  refine .inr ⟨Ne.symm hak,.inr ⟨_,_,hk,h_same,rfl,rfl,hz,fun d hd=>?_⟩⟩
  simp only [List.append_assoc,List.mem_append,List.mem_singleton] at hd
  rcases hd with hd|rfl|hd
  ·exact h1 d (List.mem_append_left _ hd)
  ·rfl
  ·exact h1 d (List.mem_append_right _ hd)
 ·rw [h_ne ej]
  by_cases ea:j=a
  ·subst ea;exact .inl h_dsame
  ·exact .inr ⟨ea,.inl (h_dne ea)⟩
theorem mid_get {α : Type} {pre suf:List α} {x y : α} {i:Nat} {d : α} (h:(pre++[y]++suf)[i]? = some d):(pre++[x]++suf)[i]? = some d∨(d=y∧(pre++[x]++suf)[i]? = some x):=by
 rw [List.append_assoc] at h ⊢
 rcases Nat.lt_trichotomy i pre.length with hi|hi|hi
 ·rw [List.getElem?_append_left hi] at h ⊢;exact .inl h
 ·subst hi
  rw [List.getElem?_append_right (Nat.le_refl _)] at h ⊢
  simp at h ⊢
  exact .inr h.symm
 ·rw [List.getElem?_append_right (by omega)] at h ⊢
  obtain ⟨m,hm⟩:∃ m,i-pre.length=m+1:=⟨i-pre.length-1,by omega⟩
  rw [hm] at h ⊢
  exact .inl h
theorem g_nil {H:Hp} {k:Nat} {pre suf r:List DV} (hk:H k=some ⟨0,true,pre++[.snil]++suf⟩) :
  GL H (.agg (pre++[.snil]++suf) :: r) (H.upd k ⟨0,true,pre++[.lst []]++suf⟩) (.agg (pre++[.lst []]++suf) :: r):=by
 refine GL.trans (GL.cells (H':=H.upd k ⟨0,true,pre++[.lst []]++suf⟩) fun j=>?_) (GL.view fun ρ vs hA=>?_)
 ·by_cases ej:j=k
  ·subst ej
   rw [h_same]
   refine .inr ⟨_,_,hk,rfl,rfl,rfl,by simp,fun i d' hd=>?_⟩
   rcases mid_get (x:=DV.snil) hd with h|⟨rfl,h⟩
   ·exact ⟨d',h,.inl rfl⟩
   ·exact ⟨_,h,.inr ⟨rfl,fun ρ v h=>h.snil_lst⟩⟩
  ·rw [h_ne ej]
   cases hj:H j with
   | none=>exact .inl rfl
   | some b=>exact .inr ⟨b,b,rfl,rfl,rfl,rfl,Nat.le_refl _,fun i d' hd=>⟨d',hd,.inl rfl⟩⟩
 ·refine ⟨hA.1,fun i x y hx hy=>?_⟩
  match i with
  | 0 =>
   cases hx
   obtain ⟨b,rfl,hB⟩:=(hA.2 0 _ y rfl hy).agg_inv
   refine .mkAgg ⟨by rw [← hB.1];simp,fun i x y hx hy=>?_⟩
   rcases mid_get (x:=DV.snil) hx with h|⟨rfl,h⟩
   ·exact hB.2 i x y h hy
   ·exact (hB.2 i _ y h hy).snil_lst
  | i+1=>exact hA.2 (i+1) x y hx hy
end Go.Sym
namespace Go.Pb
variable [Go.Sym.Tab]
open Go.Sym
abbrev I64 (n:Int):DV:=.int .i64 n
abbrev ints (l:List Int):DV:=.lst (l.map I64)
abbrev strs (l:List (List UInt8)):DV:=.lst (l.map DV.str)
structure Ins where
 op:Int
 A:Int
deriving DecidableEq
structure Ent where
 mode:Int
 trigger:Int
 index:Int
 pos:Int
deriving DecidableEq
structure Prg where
 instrs:List Ins
 strings:List (List UInt8)
 entries:List Ent
 prios:List Int
 vars:List Int
 timers:Int
 events:Int
deriving DecidableEq
abbrev Ins.v (i:Ins):DV:=.agg [I64 i.op,I64 i.A]
abbrev Ent.v (e:Ent):DV:=.agg [I64 e.mode,I64 e.trigger,I64 e.index,I64 e.pos]
abbrev inssV (l:List Ins):DV:=.lst (l.map Ins.v)
abbrev entsV (l:List Ent):DV:=.lst (l.map Ent.v)
abbrev Prg.cs (c:Prg):List DV:=[inssV c.instrs,strs c.strings,entsV c.entries,ints c.prios,ints c.vars,I64 c.timers,I64 c.events]
abbrev Prg.v (c:Prg):DV:=.agg c.cs
theorem nlL_ints (l:List Int):DV.nlL (l.map I64)=true:=nlL_map (fun _=>rfl) l
theorem nlL_strs (l:List (List UInt8)):DV.nlL (l.map DV.str)=true:=nlL_map (fun _=>rfl) l
theorem nlL_instrs (l:List Ins):DV.nlL (l.map Ins.v)=true:=nlL_map (fun _=>rfl) l
theorem nlL_entries (l:List Ent):DV.nlL (l.map Ent.v)=true:=nlL_map (fun _=>rfl) l
def inM (n lo hi:Int):Bool:=decide (lo≤n) && decide (n≤hi)
def effM (op:Int):Int × Int × Int :=
 if op=1 then (0,1,1) else if op=2 then (0,1,2) else if op=3 then (1,0,2) else if op=4 then (0,1,3) else if op=5 then (0,1,4) else if op=6 then (0,1,5)
 else if op=7 then (0,1,0) else if op=8 then (0,1,0) else if op=9 then (1,1,0) else if op=10 then (1,1,0) else if op=11 then (2,1,6) else if op=12 then (0,0,7)
 else if op=13 then (1,0,7) else if op=14 then (1,1,7) else if op=15 then (1,0,0) else if op=16 then (0,0,8) else if op=17 then (0,0,8) else if op=18 then (0,0,8)
 else if op=19 then (1,0,9) else if op=20 then (2,0,9) else if op=21 then (1,0,5) else if op=22 then (0,0,5) else if op=23 then (0,0,4) else if op=24 then (0,0,4)
 else if op=25 then (0,0,10) else if op=26 then (0,0,9) else if op=27 then (0,0,9) else if op=28 then (0,0,9) else if op=29 then (1,0,11) else if op=30 then (0,0,0) else if op=31 then (0,0,0)
 else (0,0, -1)
theorem eff_mem (op:Int):effM op∈[((0:Int),(1:Int),(1:Int)),(0,1,2),(1,0,2),(0,1,3),(0,1,4),(0,1,5),(0,1,0),(1,1,0),(2,1,6),(0,0,7),(1,0,7),(1,1,7),(1,0,0),(0,0,8),(1,0,9),(2,0,9),(1,0,5),(0,0,5),(0,0,4),(0,0,10),(0,0,9),(1,0,11),(0,0,0),(0,0, -1)]:=by
 by_cases h1:op=1
 ·subst h1;decide
 by_cases h2:op=2
 ·subst h2;decide
 by_cases h3:op=3
 ·subst h3;decide
 by_cases h4:op=4
 ·subst h4;decide
 by_cases h5:op=5
 ·subst h5;decide
 by_cases h6:op=6
 ·subst h6;decide
 by_cases h7:op=7
 ·subst h7;decide
 by_cases h8:op=8
 ·subst h8;decide
 by_cases h9:op=9
 ·subst h9;decide
 by_cases h10:op=10
 ·subst h10;decide
 by_cases h11:op=11
 ·subst h11;decide
 by_cases h12:op=12
 ·subst h12;decide
 by_cases h13:op=13
 ·subst h13;decide
 by_cases h14:op=14
 ·subst h14;decide
 by_cases h15:op=15
 ·subst h15;decide
 by_cases h16:op=16
 ·subst h16;decide
 by_cases h17:op=17
 ·subst h17;decide
 by_cases h18:op=18
 ·subst h18;decide
 by_cases h19:op=19
 ·subst h19;decide
 by_cases h20:op=20
 ·subst h20;decide
 by_cases h21:op=21
 ·subst h21;decide
 by_cases h22:op=22
 ·subst h22;decide
 by_cases h23:op=23
 ·subst h23;decide
 by_cases h24:op=24
 ·subst h24;decide
 by_cases h25:op=25
 ·subst h25;decide
 by_cases h26:op=26
 ·subst h26;decide
 by_cases h27:op=27
 ·subst h27;decide
 by_cases h28:op=28
 ·subst h28;decide
 by_cases h29:op=29
 ·subst h29;decide
 by_cases h30:op=30
 ·subst h30;decide
 by_cases h31:op=31
 ·subst h31;decide
 have e:effM op=(0,0, -1):=by simp [effM, *]
 rw [e];decide
theorem eff_bd (op:Int):0≤(effM op).1∧(effM op).1≤2∧0≤(effM op).2.1∧(effM op).2.1≤1:=by
 have h:∀ x∈[((0:Int),(1:Int),(1:Int)),(0,1,2),(1,0,2),(0,1,3),(0,1,4),(0,1,5),(0,1,0),(1,1,0),(2,1,6),(0,0,7),(1,0,7),(1,1,7),(1,0,0),(0,0,8),(1,0,9),(2,0,9),(1,0,5),(0,0,5),(0,0,4),(0,0,10),(0,0,9),(1,0,11),(0,0,0),(0,0, -1)],0≤x.1∧x.1≤2∧0≤x.2.1∧x.2.1≤1:=by decide
 exact h _ (eff_mem op)
def kindM (c:Prg) (k a:Int):Bool :=
 if k=0 then decide (a=0) else if k=1 then inM a (-2147483647) 2147483647 else if k=2 then inM a 0 (c.vars.length-1) else if k=3 then inM a 0 63 else if k=9 then inM a 0 63
 else if k=4 then inM a 0 (c.prios.length-1) else if k=5 then inM a 0 (c.timers-1) else if k=6 then inM a 12 24 else if k=7 then true else if k=8 then inM a 0 31
 else if k=10 then inM a 0 (c.events-1) else if k=11 then inM a 0 (c.strings.length-1) else false
def numberM (c:Prg) (i:Ins):Bool:=kindM c (effM i.op).2.2 i.A
def entryM (c:Prg) (e:Ent):Bool :=
 inM e.mode 0 (c.prios.length-1) && (if e.trigger=1∨e.trigger=2 then decide (e.index=0) else if e.trigger=3∨e.trigger=4 then inM e.index 0 63
  else if e.trigger=5 then inM e.index 0 (c.timers-1) else if e.trigger=6 then inM e.index 0 (c.events-1) else false)
def printB (b:UInt8):Bool:=decide (32≤b.toNat) && decide (b.toNat≤126)
def printM (s:List UInt8):Bool:=s.all printB && decide (s.length≤32)
def partsM (c:Prg):Bool :=
 c.strings.all printM && c.prios.all (fun n=>inM n 0 99) && c.vars.all (fun n=>inM n (-2147483647) 2147483647) && c.entries.all (entryM c) && c.instrs.all (numberM c)
def jumpI (c:Prg) (i:Ins):Bool := !(decide ((effM i.op).2.2=7) && !inM i.A 0 (c.instrs.length-1))
def jumpE (c:Prg) (e:Ent):Bool:=inM e.pos 0 (c.instrs.length-1)
def jumpsM (c:Prg):Bool:=c.instrs.all (jumpI c) && c.entries.all (jumpE c)
def lessM (a b:Ent):Bool:=if a.mode≠b.mode then decide (a.mode<b.mode) else if a.trigger≠b.trigger then decide (a.trigger<b.trigger) else decide (a.index<b.index)
def chainM:List Ent→Bool
 | a :: b :: r=>lessM a b && chainM (b :: r)
 | _=>true
def limitsM (c:Prg):Bool :=
 decide (c.instrs.length≤4000) && decide (c.strings.length≤200) && decide (c.entries.length≤512) && decide (c.prios.length≤16) && decide (c.vars.length≤128) && inM c.timers 0 128 && inM c.events 0 128
structure Lim (c:Prg):Prop where
 p:IntKind.i64.wrap ((c.prios.length:Int)-1)=(c.prios.length:Int)-1
 v:IntKind.i64.wrap ((c.vars.length:Int)-1)=(c.vars.length:Int)-1
 s:IntKind.i64.wrap ((c.strings.length:Int)-1)=(c.strings.length:Int)-1
 i:IntKind.i64.wrap ((c.instrs.length:Int)-1)=(c.instrs.length:Int)-1
 t:IntKind.i64.wrap (c.timers-1)=c.timers-1
 e:IntKind.i64.wrap (c.events-1)=c.events-1
 li:c.instrs.length≤4000
 ls:c.strings.length≤200
 le:c.entries.length≤512
 lp:c.prios.length≤16
 lv:c.vars.length≤128
theorem Lim.of {c:Prg} (h:limitsM c=true):Lim c:=by
 simp only [limitsM,inM,Bool.and_eq_true,decide_eq_true_eq] at h
 obtain ⟨⟨⟨⟨⟨⟨h1,h2⟩,h3⟩,h4⟩,h5⟩,h6,h7⟩,h8,h9⟩:=h
 constructor<;>first|assumption|exact w64 (by omega) (by omega)
abbrev Stp.v (p:Nat × Int):DV:=.agg [I64 (p.1:Int),I64 p.2]
theorem nlL_stp (l:List (Nat × Int)):DV.nlL (l.map Stp.v)=true:=nlL_map (fun _=>rfl) l
theorem stp_unit (l:List (Nat × Int)):∀ x∈l.map Stp.v,x.cells.length=2:=by
 intro x hx;obtain ⟨y, -,rfl⟩:=List.mem_map.1 hx;rfl
theorem ints_unit (l:List Int):∀ x∈l.map I64,x.cells.length=1:=by
 intro x hx;obtain ⟨y, -,rfl⟩:=List.mem_map.1 hx;rfl
theorem cells_ints (l:List Int):cellsL (l.map I64)=l.map I64:=cellsL_map1 (fun _=>rfl) l
def afterM (i:Ins) (p:Nat) (h:Int):List (Nat × Int) :=
 if i.op=31 then [] else if i.op=12 then [(i.A.toNat,h)] else if i.op=13 then [(p+1,h-1),(i.A.toNat,h-1)] else if i.op=14 then [(p+1,h),(i.A.toNat,h-1)]
 else [(p+1,h-(effM i.op).1+(effM i.op).2.1)]
def hgtR (c:Prg):Nat→List Int→List (Nat × Int)→Option (Option (List Int))
 | 0,_,_=>none
 | n+1,h,[]=>some (some h)
 | n+1,h,(p,x) :: st =>
  if h.length≤p∨x>48 then some none
  else if 0≤h.getD p 0 then (if h.getD p 0≠x then some none else hgtR c n h st)
  else if (effM (c.instrs.getD p ⟨0,0⟩).op).1>x∨((c.instrs.getD p ⟨0,0⟩).op=31∧x≠0) then some none
  else hgtR c n (h.set p x) ((afterM (c.instrs.getD p ⟨0,0⟩) p x).reverse++st)
def entP (e:Ent):Nat × Int:=(e.pos.toNat,0)
def entR (c:Prg):List (Nat × Int):=(c.entries.map entP).reverse
def hgtV:Option (List Int)→DV
 | none=>.tup [.lst [],.bool false]
 | some h=>.tup [ints h,.bool true]
def fillM (n k:Nat):List Int:=List.replicate k (-1)++List.replicate (n-k) 0
theorem fillM_succ {n k:Nat} (h:k<n):fillM n (k+1)=(fillM n k).set k (-1):=by
 unfold fillM
 rw [List.set_append_right _ _ (by simp)]
 simp only [List.length_replicate,Nat.sub_self]
 obtain ⟨m,hm⟩:∃ m,n-k=m+1:=⟨n-k-1,by omega⟩
 have h2:n-(k+1)=m:=by omega
 rw [hm,h2,List.replicate_succ (n:=m),List.set_cons_zero,List.replicate_succ' (n:=k)]
 simp
def entC (c:Prg) (k:Nat):List DV:=cellsL (((c.entries.take k).map entP).map Stp.v)
theorem entC_succ {c:Prg} {k:Nat} {e:Ent} (h:c.entries[k]? = some e):entC c (k+1)=entC c k++[I64 ((e.pos.toNat:Nat):Int),I64 0]:=by
 unfold entC
 rw [List.take_add_one,h]
 simp [cellsL_append,cellsL,entP,DV.cells]
theorem entC_len {c:Prg} {k:Nat} (h:k≤c.entries.length):(entC c k).length=k * 2:=by
 unfold entC
 rw [cellsL_length (stp_unit _)]
 simp;omega
def stC (st:List (Nat × Int)):List DV:=cellsL (st.reverse.map Stp.v)
theorem stC_cons (p:Nat) (x:Int) (st:List (Nat × Int)):stC ((p,x) :: st)=stC st++[I64 p,I64 x]:=by
 simp [stC,cellsL_append,cellsL,DV.cells]
theorem stC_app (l st:List (Nat × Int)):stC (l.reverse++st)=stC st++cellsL (l.map Stp.v):=by
 simp [stC,cellsL_append]
theorem stC_len (st:List (Nat × Int)):(stC st).length=st.length * 2:=by
 unfold stC
 rw [cellsL_length (stp_unit _)];simp
theorem unit_stp (l:List (Nat × Int)):unit 2 (l.map Stp.v)=true:=unit_iff.2 (stp_unit l)
theorem afterM_len (i:Ins) (p:Nat) (h:Int):(afterM i p h).length≤2:=by
 unfold afterM;split<;>(try split)<;>(try split)<;>(try split)<;>simp
def baseH (c:Prg) (h:List Int):Hp:=(Sym.nil.upd 0 ⟨0,true,c.cs⟩).upd 1 ⟨1,true,h.map I64⟩
theorem baseH_0 (c:Prg) (h:List Int):baseH c h 0=some ⟨0,true,c.cs⟩:=rfl
theorem baseH_1 (c:Prg) (h:List Int):baseH c h 1=some ⟨1,true,h.map I64⟩:=rfl
theorem afterM_bd {i:Ins} {p:Nat} {x:Int} {len:Nat} (hl:len≤4000) (hp:p<len) (hA:i.op=12∨i.op=13∨i.op=14→0≤i.A∧i.A≤(len:Int)-1) (h0:0≤x) (h1:x≤48) (he:(effM i.op).1≤x) :
  ∀ s∈afterM i p x,s.1≤4000∧0≤s.2∧s.2≤50:=by
 obtain ⟨b1,b2,b3,b4⟩:=eff_bd i.op
 intro s hs
 unfold afterM at hs
 split at hs
 ·cases hs
 split at hs
 ·rename_i e
  have:=hA (.inl e)
  simp only [List.mem_singleton] at hs;subst hs
  simp only;omega
 split at hs
 ·rename_i e
  have:=hA (.inr (.inl e))
  have e1:(effM i.op).1=1:=by rw [e];decide
  simp only [List.mem_cons,List.not_mem_nil,or_false] at hs
  rcases hs with rfl|rfl<;>simp only<;>omega
 split at hs
 ·rename_i e
  have:=hA (.inr (.inr e))
  have e1:(effM i.op).1=1:=by rw [e];decide
  simp only [List.mem_cons,List.not_mem_nil,or_false] at hs
  rcases hs with rfl|rfl<;>simp only<;>omega
 ·simp only [List.mem_singleton] at hs;subst hs
  simp only;omega
theorem jump_bd {c:Prg} (hj:jumpsM c=true):∀ i∈c.instrs,i.op=12∨i.op=13∨i.op=14→0≤i.A∧i.A≤(c.instrs.length:Int)-1:=by
 intro i hi hop
 simp only [jumpsM,Bool.and_eq_true,List.all_eq_true] at hj
 have:=hj.1 i hi
 have hk:(effM i.op).2.2=7:=by rcases hop with e|e|e<;>rw [e]<;>decide
 simpa [jumpI,hk,inM] using this
theorem ent_bd {c:Prg} (hj:jumpsM c=true):∀ e∈c.entries,0≤e.pos∧e.pos≤(c.instrs.length:Int)-1:=by
 intro e he
 simp only [jumpsM,Bool.and_eq_true,List.all_eq_true] at hj
 have:=hj.2 e he
 simpa [jumpE,inM] using this
def negs (h:List Int):Nat:=h.countP fun x=>decide (x<0)
theorem hgtR_some (c:Prg) (hl:c.instrs.length≤4000) (hj:jumpsM c=true):∀ (n:Nat) (h:List Int) (st:List (Nat × Int)),h.length=c.instrs.length→(∀ s∈st,s.1≤4000∧0≤s.2∧s.2≤50)→3 * negs h+st.length<n→∃ r,hgtR c n h st=some r
 | 0,h,st,_,_,hlt=>by omega
 | n+1,h,[],_,_,_=>⟨some h,rfl⟩
 | n+1,h,(p,x) :: st,hlen,hst,hlt=>by
  simp only [List.length_cons] at hlt
  have hst':∀ s∈st,s.1≤4000∧0≤s.2∧s.2≤50:=fun s hs=>hst s (List.mem_cons_of_mem _ hs)
  obtain ⟨s1,s2,s3⟩:=hst (p,x) List.mem_cons_self
  simp only at s1 s2 s3
  simp only [hgtR]
  split
  ·exact ⟨none,rfl⟩
  ·rename_i h1
   have hp:p<h.length:=by omega
   have hpi:p<c.instrs.length:=by omega
   have hgi:c.instrs.getD p ⟨0,0⟩=c.instrs[p]:=by simp [List.getD,hpi]
   have hgh:h.getD p 0=h[p]:=by simp [List.getD,hp]
   rw [hgi,hgh]
   split
   ·split
    ·exact ⟨none,rfl⟩
    ·exact hgtR_some c hl hj n h st hlen hst' (by omega)
   ·rename_i h2
    split
    ·exact ⟨none,rfl⟩
    ·rename_i h3
     have hbd:=afterM_bd (x:=x) hl hpi (jump_bd hj _ (List.getElem_mem hpi)) s2 (by omega) (by omega)
     have hal:=afterM_len c.instrs[p] p x
     refine hgtR_some c hl hj n (h.set p x) _ (by simpa using hlen) (fun s hs=>?_) ?_
     ·rw [List.mem_append,List.mem_reverse] at hs
      rcases hs with hs|hs
      ·exact hbd s hs
      ·exact hst' s hs
     ·have hneg:negs (h.set p x)+1=negs h:=by
       unfold negs
       rw [List.countP_set hp]
       have e1:decide (h[p]<0)=true:=by simp;omega
       have e2:decide (x<0)=false:=by simp;omega
       simp only [e1,e2,if_true,Bool.false_eq_true,if_false]
       have:0<h.countP fun x=>decide (x<0):=List.countP_pos_iff.2 ⟨h[p],List.getElem_mem hp,e1⟩
       omega
      simp only [List.length_append,List.length_reverse]
      omega
def fuelR (c:Prg):Nat:=3 * c.instrs.length+c.entries.length+1
def hR (c:Prg):Option (List Int):=(hgtR c (fuelR c) (List.replicate c.instrs.length (-1)) (entR c)).getD none
theorem hR_eq {c:Prg} (hl:c.instrs.length≤4000) (hj:jumpsM c=true):hgtR c (fuelR c) (List.replicate c.instrs.length (-1)) (entR c)=some (hR c):=by
 obtain ⟨r,hr⟩:=hgtR_some c hl hj (fuelR c) (List.replicate c.instrs.length (-1)) (entR c) (by simp) (by
  intro s hs
  simp only [entR,List.mem_reverse,List.mem_map] at hs
  obtain ⟨e,h1,rfl⟩:=hs
  have:=ent_bd hj e h1
  simp only [entP];omega) (by simp [negs,fuelR,entR,List.countP_replicate])
 rw [hR,hr];rfl
def validM (c:Prg):Int:=if limitsM c=false then 9 else if partsM c=false then 51 else if jumpsM c=false then 54 else if chainM c.entries=false then 66 else if (hR c).isNone then 53 else 0
theorem chain_take {l:List Ent}:∀ {k:Nat} {a b:Ent},1≤k→l[k-1]? = some a→l[k]? = some b→chainM (l.take k)=true→chainM (l.take (k+1))=lessM a b:=by
 induction l with
 | nil=>intro k a b _ h;simp at h
 | cons x l ih =>
  intro k a b hk ha hb hc
  obtain ⟨k,rfl⟩:∃ j,k=j+1:=⟨k-1,by omega⟩
  rw [List.take_succ_cons] at hc ⊢
  simp only [Nat.add_sub_cancel,List.getElem?_cons_succ] at ha hb
  cases k with
  | zero =>
   simp only [List.getElem?_cons_zero,Option.some.injEq] at ha
   subst ha
   cases l with
   | nil=>simp at hb
   | cons y l=>simp at hb;subst hb;simp [chainM]
  | succ k =>
   cases l with
   | nil=>simp at hb
   | cons y l =>
    simp only [List.getElem?_cons_succ] at ha
    have hb':(y :: l)[k+1]? = some b:=hb
    rw [List.take_succ_cons] at hc ⊢
    simp only [chainM,Bool.and_eq_true] at hc ⊢
    have:=ih (k:=k+1) (a:=a) (b:=b) (by omega) (by simpa using ha) hb' (by rw [List.take_succ_cons];exact hc.2)
    rw [List.take_succ_cons] at this
    rw [this,hc.1,Bool.true_and]
theorem chain_fail {l:List Ent}:∀ {k:Nat} {a b:Ent},1≤k→l[k-1]? = some a→l[k]? = some b→lessM a b=false→chainM l=false:=by
 induction l with
 | nil=>intro k a b _ h;simp at h
 | cons x l ih =>
  intro k a b hk ha hb hc
  obtain ⟨k,rfl⟩:∃ j,k=j+1:=⟨k-1,by omega⟩
  simp only [Nat.add_sub_cancel,List.getElem?_cons_succ] at ha hb
  cases l with
  | nil=>simp at hb
  | cons y l =>
   simp only [chainM]
   cases k with
   | zero=>simp at ha hb;subst ha hb;rw [hc,Bool.false_and]
   | succ k =>
    rw [ih (k:=k+1) (by omega) (by simpa using ha) hb hc,Bool.and_false]
def idxM {α : Type} (g : α → Bool):List α → Nat→Int
 | [],_ => -1
 | x :: r,k=>if g x then (k:Int) else idxM g r (k+1)
theorem idxM_pos {α : Type} (g : α → Bool):∀ (l:List α) (k:Nat),(0≤idxM g l k)↔l.any g=true
 | [],k=>by simp [idxM]
 | x :: r,k=>by
  simp only [idxM,List.any_cons,Bool.or_eq_true]
  by_cases hg:g x=true
  ·simp [hg]
  ·rw [if_neg hg,idxM_pos g r (k+1)];simp [hg]
theorem idxM_any {α : Type} (g : α → Bool) (l:List α) (k:Nat):decide (idxM g l k≥0)=l.any g:=by
 rw [Bool.eq_iff_iff,decide_eq_true_iff]
 exact idxM_pos g l k
theorem idxM_step {α : Type} {g : α → Bool} {l:List α} {k:Nat} {x : α} (h:l[k]? = some x):idxM g (l.drop k) k=if g x then (k:Int) else idxM g (l.drop (k+1)) (k+1):=by
 have hk:k<l.length:=(List.getElem?_eq_some_iff.1 h).1
 rw [List.drop_eq_getElem_cons hk]
 rw [List.getElem?_eq_getElem hk] at h
 cases h
 rfl
theorem idxM_end {α : Type} {g : α → Bool} {l:List α} {k:Nat} (h:l.length≤k):idxM g (l.drop k) k = -1:=by
 rw [List.drop_eq_nil_of_le h];rfl
def isJ (op:Int):Bool:=decide (op=12) || (decide (op=13) || decide (op=14))
def spanM (c:Prg) (op:Int):Int × Int :=
 if op=1 then (-2147483647,2147483647) else if op=2∨op=3 then (0,c.vars.length-1) else if op=4 then (0,63) else if op=5∨op=23∨op=24 then (0,c.prios.length-1)
 else if op=6∨op=21∨op=22 then (0,c.timers-1) else if op=11 then (12,24) else if op=16∨op=17∨op=18 then (0,31)
 else if op=19∨op=20∨op=26∨op=27∨op=28 then (0,63) else if op=25 then (0,c.events-1) else if op=29 then (0,c.strings.length-1)
 else if op=7∨op=8∨op=9∨op=10∨op=15∨op=30∨op=31 then (0,0) else (1,0)
theorem eff0 {op:Int} (h1:¬ op=1) (h2:¬ op=2) (h3:¬ op=3) (h4:¬ op=4) (h5:¬ op=5) (h6:¬ op=6) (h7:¬ op=7) (h8:¬ op=8) (h9:¬ op=9) (h10:¬ op=10) (h11:¬ op=11) (h13:¬ op=13) (h14:¬ op=14) (h15:¬ op=15) (h19:¬ op=19) (h20:¬ op=20) (h21:¬ op=21) (h29:¬ op=29):(effM op).1=0∧(effM op).2.1=0:=by
 by_cases h12:op=12
 ·subst h12;decide
 by_cases h16:op=16
 ·subst h16;decide
 by_cases h17:op=17
 ·subst h17;decide
 by_cases h18:op=18
 ·subst h18;decide
 by_cases h22:op=22
 ·subst h22;decide
 by_cases h23:op=23
 ·subst h23;decide
 by_cases h24:op=24
 ·subst h24;decide
 by_cases h25:op=25
 ·subst h25;decide
 by_cases h26:op=26
 ·subst h26;decide
 by_cases h27:op=27
 ·subst h27;decide
 by_cases h28:op=28
 ·subst h28;decide
 by_cases h30:op=30
 ·subst h30;decide
 by_cases h31:op=31
 ·subst h31;decide
 have e:effM op=(0,0, -1):=by simp [effM, *]
 rw [e];decide
theorem isJ_kind (op:Int):isJ op=decide ((effM op).2.2=7):=by
 by_cases h1:op=1
 ·subst h1;decide
 by_cases h2:op=2
 ·subst h2;decide
 by_cases h3:op=3
 ·subst h3;decide
 by_cases h4:op=4
 ·subst h4;decide
 by_cases h5:op=5
 ·subst h5;decide
 by_cases h6:op=6
 ·subst h6;decide
 by_cases h7:op=7
 ·subst h7;decide
 by_cases h8:op=8
 ·subst h8;decide
 by_cases h9:op=9
 ·subst h9;decide
 by_cases h10:op=10
 ·subst h10;decide
 by_cases h11:op=11
 ·subst h11;decide
 by_cases h12:op=12
 ·subst h12;decide
 by_cases h13:op=13
 ·subst h13;decide
 by_cases h14:op=14
 ·subst h14;decide
 by_cases h15:op=15
 ·subst h15;decide
 by_cases h16:op=16
 ·subst h16;decide
 by_cases h17:op=17
 ·subst h17;decide
 by_cases h18:op=18
 ·subst h18;decide
 by_cases h19:op=19
 ·subst h19;decide
 by_cases h20:op=20
 ·subst h20;decide
 by_cases h21:op=21
 ·subst h21;decide
 by_cases h22:op=22
 ·subst h22;decide
 by_cases h23:op=23
 ·subst h23;decide
 by_cases h24:op=24
 ·subst h24;decide
 by_cases h25:op=25
 ·subst h25;decide
 by_cases h26:op=26
 ·subst h26;decide
 by_cases h27:op=27
 ·subst h27;decide
 by_cases h28:op=28
 ·subst h28;decide
 by_cases h29:op=29
 ·subst h29;decide
 by_cases h30:op=30
 ·subst h30;decide
 by_cases h31:op=31
 ·subst h31;decide
 have e:effM op=(0,0, -1):=by simp [effM, *]
 rw [e];simp [isJ, *]
theorem in00 (a:Int):inM a 0 0=decide (a=0):=by
 rw [Bool.eq_iff_iff];simp [inM];omega
theorem number_span (c:Prg) (i:Ins):numberM c i=(isJ i.op || inM i.A (spanM c i.op).1 (spanM c i.op).2):=by
 by_cases h1:i.op=1
 ·simp [numberM,kindM,effM,isJ,spanM,in00,h1]
 by_cases h2:i.op=2
 ·simp [numberM,kindM,effM,isJ,spanM,in00,h2]
 by_cases h3:i.op=3
 ·simp [numberM,kindM,effM,isJ,spanM,in00,h3]
 by_cases h4:i.op=4
 ·simp [numberM,kindM,effM,isJ,spanM,in00,h4]
 by_cases h5:i.op=5
 ·simp [numberM,kindM,effM,isJ,spanM,in00,h5]
 by_cases h6:i.op=6
 ·simp [numberM,kindM,effM,isJ,spanM,in00,h6]
 by_cases h7:i.op=7
 ·simp [numberM,kindM,effM,isJ,spanM,in00,h7]
 by_cases h8:i.op=8
 ·simp [numberM,kindM,effM,isJ,spanM,in00,h8]
 by_cases h9:i.op=9
 ·simp [numberM,kindM,effM,isJ,spanM,in00,h9]
 by_cases h10:i.op=10
 ·simp [numberM,kindM,effM,isJ,spanM,in00,h10]
 by_cases h11:i.op=11
 ·simp [numberM,kindM,effM,isJ,spanM,in00,h11]
 by_cases h12:i.op=12
 ·simp [numberM,kindM,effM,isJ,spanM,in00,h12]
 by_cases h13:i.op=13
 ·simp [numberM,kindM,effM,isJ,spanM,in00,h13]
 by_cases h14:i.op=14
 ·simp [numberM,kindM,effM,isJ,spanM,in00,h14]
 by_cases h15:i.op=15
 ·simp [numberM,kindM,effM,isJ,spanM,in00,h15]
 by_cases h16:i.op=16
 ·simp [numberM,kindM,effM,isJ,spanM,in00,h16]
 by_cases h17:i.op=17
 ·simp [numberM,kindM,effM,isJ,spanM,in00,h17]
 by_cases h18:i.op=18
 ·simp [numberM,kindM,effM,isJ,spanM,in00,h18]
 by_cases h19:i.op=19
 ·simp [numberM,kindM,effM,isJ,spanM,in00,h19]
 by_cases h20:i.op=20
 ·simp [numberM,kindM,effM,isJ,spanM,in00,h20]
 by_cases h21:i.op=21
 ·simp [numberM,kindM,effM,isJ,spanM,in00,h21]
 by_cases h22:i.op=22
 ·simp [numberM,kindM,effM,isJ,spanM,in00,h22]
 by_cases h23:i.op=23
 ·simp [numberM,kindM,effM,isJ,spanM,in00,h23]
 by_cases h24:i.op=24
 ·simp [numberM,kindM,effM,isJ,spanM,in00,h24]
 by_cases h25:i.op=25
 ·simp [numberM,kindM,effM,isJ,spanM,in00,h25]
 by_cases h26:i.op=26
 ·simp [numberM,kindM,effM,isJ,spanM,in00,h26]
 by_cases h27:i.op=27
 ·simp [numberM,kindM,effM,isJ,spanM,in00,h27]
 by_cases h28:i.op=28
 ·simp [numberM,kindM,effM,isJ,spanM,in00,h28]
 by_cases h29:i.op=29
 ·simp [numberM,kindM,effM,isJ,spanM,in00,h29]
 by_cases h30:i.op=30
 ·simp [numberM,kindM,effM,isJ,spanM,in00,h30]
 by_cases h31:i.op=31
 ·simp [numberM,kindM,effM,isJ,spanM,in00,h31]
 have e:effM i.op=(0,0, -1):=by simp [effM, *]
 simp [numberM,kindM,e,isJ,spanM, *,inM];omega
theorem any_not {α : Type} (p : α → Bool) (l:List α):(l.any fun x => !p x) = !l.all p:=by
 induction l with
 | nil=>rfl
 | cons x l ih=>simp only [List.any_cons,List.all_cons,ih,Bool.not_and]
theorem all_take' {α : Type} (p : α → Bool) (l:List α) (k:Nat) (x : α) (hx:l[k]? = some x):(l.take (k+1)).all p=((l.take k).all p && p x):=by
 rw [List.take_add_one,hx,List.all_append];simp
theorem step_bad (b x n:Bool):(b || !(x && n))=((b || !x) || !n):=by cases b<;>cases x<;>cases n<;>rfl
def reachM (h:List Int) (wk:List Nat) (p:Nat) (x:Int):Option (List Int × List Nat) :=
 if h.length≤p∨x>48∨(0≤h.getD p 0∧h.getD p 0≠x) then none
 else if h.getD p 0<0 then some (h.set p x,p :: wk) else some (h,wk)
def wkC (wk:List Nat):List DV:=wk.reverse.map fun (p:Nat)=>I64 (p:Int)
theorem wkC_cons (p:Nat) (wk:List Nat):wkC (p :: wk)=wkC wk++[I64 (p:Int)]:=by simp [wkC]
theorem wkC_len (wk:List Nat):(wkC wk).length=wk.length:=by simp [wkC]
structure WkS (c:Prg) (h:List Int) (wk:List Nat) (o:Option Nat) (junk:List DV) (H:Hp) (cc:Nat):Prop where
 h0:H 0=some ⟨0,true,c.cs⟩
 h1:H 1=some ⟨1,true,h.map I64⟩
 h2:H 2=some ⟨0,true,[.slc 1 0 h.length]⟩
 h3:H 3=some ⟨0,true,[todoV o wk.length]⟩
 hn:o=none→wk=[]
 hs:∀ i,o=some i→4≤i∧i<cc∧H i=some ⟨1,true,wkC wk++junk⟩
 hc:4≤cc
def WH (c:Prg) (h:List Int) (wk:List Nat) (o:Option Nat) (junk:List DV):Hp :=
 optH ((((Sym.nil.upd 0 ⟨0,true,c.cs⟩).upd 1 ⟨1,true,h.map I64⟩).upd 2 ⟨0,true,[.slc 1 0 h.length]⟩).upd 3 ⟨0,true,[todoV o wk.length]⟩) o ⟨1,true,wkC wk++junk⟩
theorem WkS.sub {c:Prg} {h:List Int} {wk:List Nat} {o:Option Nat} {junk:List DV} {H:Hp} {cc:Nat} (hS:WkS c h wk o junk H cc):Sub (WH c h wk o junk) H:=by
 obtain ⟨h0,h1,h2,h3,hn,hs,hc⟩:=hS
 have base:Sub ((((Sym.nil.upd 0 ⟨0,true,c.cs⟩).upd 1 ⟨1,true,h.map I64⟩).upd 2 ⟨0,true,[.slc 1 0 h.length]⟩).upd 3 ⟨0,true,[todoV o wk.length]⟩) H :=
  ((((Sub.nil H).put h0).put h1).put h2).put h3
 cases o with
 | none=>exact base
 | some i=>exact base.put (hs i rfl).2.2
theorem WkS.mk' {c:Prg} {h:List Int} {wk:List Nat} {o:Option Nat} {junk:List DV} {cc:Nat} (hn:o=none→wk=[]) (hs:∀ i,o=some i→4≤i∧i<cc) (hc:4≤cc):WkS c h wk o junk (WH c h wk o junk) cc:=by
 cases o with
 | none=>exact ⟨rfl,rfl,rfl,rfl,hn,fun i hi=>(by cases hi),hc⟩
 | some i =>
  obtain ⟨i1,i2⟩:=hs i rfl
  refine ⟨?_,?_,?_,?_,hn,fun j hj=>?_,hc⟩
  ·simp only [WH,optH];rw [h_ne (by omega)];rfl
  ·simp only [WH,optH];rw [h_ne (by omega)];rfl
  ·simp only [WH,optH];rw [h_ne (by omega)];rfl
  ·simp only [WH,optH];rw [h_ne (by omega)];rfl
  ·cases hj;exact ⟨i1,i2,h_same⟩
theorem WkS.upd {c:Prg} {h:List Int} {wk:List Nat} {o:Option Nat} {junk:List DV} {H:Hp} {cc:Nat} (hS:WkS c h wk o junk H cc) {k c2:Nat} (b:Blk) (hk:cc≤k) (hk2:cc≤c2):WkS c h wk o junk (H.upd k b) c2:=by
 obtain ⟨h0,h1,h2,h3,hn,hs,hc⟩:=hS
 exact ⟨by rw [h_ne (by omega)];exact h0,by rw [h_ne (by omega)];exact h1,by rw [h_ne (by omega)];exact h2,by rw [h_ne (by omega)];exact h3,hn,
  fun i hi=>⟨(hs i hi).1,by have:=(hs i hi).2.1;omega,by have:=(hs i hi).2.1;rw [h_ne (by omega)];exact (hs i hi).2.2⟩,by omega⟩
def reachL (h:List Int) (wk:List Nat):List (Nat × Int)→Option (List Int × List Nat)
 | []=>some (h,wk)
 | (p,x) :: r=>match reachM h wk p x with
  | none=>none
  | some (h',wk')=>reachL h' wk' r
def hgtP (c:Prg):Nat→List Int→List Nat→Option (Option (List Int))
 | 0,_,_=>none
 | n+1,h,[]=>some (some h)
 | n+1,h,p :: wk =>
  if (effM (c.instrs.getD p ⟨0,0⟩).op).1>h.getD p 0∨((c.instrs.getD p ⟨0,0⟩).op=31∧h.getD p 0≠0) then some none
  else match reachL h wk (afterM (c.instrs.getD p ⟨0,0⟩) p (h.getD p 0)) with
   | none=>some none
   | some (h',wk')=>hgtP c n h' wk'
def hgtP0 (c:Prg) (n:Nat):Option (Option (List Int)) :=
 match reachL (List.replicate c.instrs.length (-1)) [] (c.entries.map entP) with
 | none=>some none
 | some (h,wk)=>hgtP c n h wk
structure WkI (len:Nat) (h:List Int) (wk:List Nat):Prop where
 hl:h.length=len
 mem:∀ p∈wk,p<len∧0≤h.getD p 0∧h.getD p 0≤48
theorem reach_inv {len:Nat} {h h':List Int} {wk wk':List Nat} {p:Nat} {x:Int} (hI:WkI len h wk) (hx:0≤x) (hr:reachM h wk p x=some (h',wk')):WkI len h' wk'∧wk'.length≤wk.length+1:=by
 unfold reachM at hr
 split at hr
 ·cases hr
 ·rename_i hc
  have hp:p<h.length:=by omega
  split at hr
  ·cases hr
   refine ⟨⟨by simpa using hI.hl,fun q hq=>?_⟩,by simp⟩
   have hset:∀ j,(h.set p x).getD j 0=if j=p then x else h.getD j 0:=by
    intro j
    simp only [List.getD,List.getElem?_set]
    by_cases e:p=j
    ·subst e;simp [hp]
    ·rw [if_neg e,if_neg (Ne.symm e)]
   simp only [hset]
   by_cases e:q=p
   ·subst e;simp only [if_true];have:=hI.hl;omega
   ·simp only [e,if_false]
    cases hq with
    | head=>exact absurd rfl e
    | tail _ hq=>exact hI.mem q hq
  ·cases hr
   exact ⟨hI,by omega⟩
theorem reachL_inv {len:Nat}:∀ (l:List (Nat × Int)) {h h':List Int} {wk wk':List Nat},WkI len h wk→(∀ s∈l,0≤s.2)→reachL h wk l=some (h',wk')→WkI len h' wk'∧wk'.length≤wk.length+l.length
 | [],h,h',wk,wk',hI,_,hr=>by cases hr;exact ⟨hI,Nat.le_refl _⟩
 | (p,x) :: l,h,h',wk,wk',hI,hx,hr=>by
  simp only [reachL] at hr
  split at hr
  ·cases hr
  ·rename_i h1 wk1 h2
   obtain ⟨a,b⟩:=reach_inv hI (hx _ List.mem_cons_self) h2
   obtain ⟨a',b'⟩:=reachL_inv l a (fun s hs=>hx s (List.mem_cons_of_mem _ hs)) hr
   exact ⟨a',by simp only [List.length_cons];omega⟩
theorem WkS.pop {c:Prg} {h:List Int} {p:Nat} {wk:List Nat} {id:Nat} {junk:List DV} {H:Hp} {cc:Nat} (hS:WkS c h (p :: wk) (some id) junk H cc) :
  WkS c h wk (some id) (I64 p :: junk) (H.upd 3 ⟨0,true,[.slc id 0 wk.length]⟩) cc:=by
 obtain ⟨h0,h1,h2,h3,hn,hs,hc⟩:=hS
 refine ⟨by rw [h_ne (by omega)];exact h0,by rw [h_ne (by omega)];exact h1,by rw [h_ne (by omega)];exact h2,h_same,by simp,fun i hi=>?_,hc⟩
 obtain ⟨a,b,d⟩:=hs i hi
 refine ⟨a,b,?_⟩
 rw [h_ne (by omega),d,wkC_cons];simp
theorem all_take {α : Type} (p : α → Bool) (l:List α) (k:Nat) (x : α) (hx:l[k]? = some x) (h:(l.take k).all p=true):(l.take (k+1)).all p=p x:=by
 rw [List.take_add_one,hx,List.all_append,h];simp
theorem all_fail {α : Type} (p : α → Bool) (l:List α) (k:Nat) (x : α) (hx:l[k]? = some x) (h:p x=false):l.all p=false:=by
 rw [List.all_eq_false]
 exact ⟨x,List.mem_of_getElem? hx,by simp [h]⟩
theorem all_done {α : Type} (p : α → Bool) (l:List α) (k:Nat) (hk:l.length≤k) (h:(l.take k).all p=true):l.all p=true:=by
 rwa [List.take_of_length_le hk] at h
end Go.Pb
namespace Go.Pb
variable [Go.Sym.Tab]
open Go.Sym
abbrev Prg.ins (c:Prg) (p:Nat):Ins:=c.instrs.getD p ⟨0,0⟩
def OKs (c:Prg) (p:Nat) (x:Int):Prop:=p<c.instrs.length∧x≤48∧(effM (c.ins p).op).1≤x∧¬((c.ins p).op=31∧x≠0)
inductive Rch (c:Prg):Nat→Int→Prop
 | ent {e:Ent}:e∈c.entries→Rch c e.pos.toNat 0
 | step {p:Nat} {x:Int} {s:Nat × Int}:Rch c p x→OKs c p x→s∈afterM (c.ins p) p x→Rch c s.1 s.2
def Bad (c:Prg):Prop:=∃ p x,Rch c p x∧(¬OKs c p x∨∃ y,Rch c p y∧y≠x)
structure Hts (c:Prg) (h:List Int):Prop where
 len:h.length=c.instrs.length
 all:∀ p x,Rch c p x→OKs c p x∧h[p]? = some x
 only:∀ p x,h[p]? = some x→x = -1∨(0≤x∧Rch c p x)
theorem OKs.nn {c:Prg} {p:Nat} {x:Int} (h:OKs c p x):0≤x:=by
 have:=(eff_bd (c.ins p).op).1
 have:=h.2.2.1
 omega
theorem after_nn {c:Prg} {p:Nat} {x:Int} (hok:OKs c p x):∀ s∈afterM (c.ins p) p x,0≤s.2:=by
 intro s hs'
 have q3:=hok.2.2.1
 have b:=eff_bd (c.ins p).op
 unfold afterM at hs'
 split at hs'
 ·cases hs'
 split at hs'
 ·simp only [List.mem_singleton] at hs';subst hs';simp only;omega
 split at hs'
 ·rename_i e
  rw [e] at q3
  have:(effM 13).1=1:=by decide
  simp only [List.mem_cons,List.not_mem_nil,or_false] at hs'
  rcases hs' with rfl|rfl<;>simp only<;>omega
 split at hs'
 ·rename_i e
  rw [e] at q3
  have:(effM 14).1=1:=by decide
  simp only [List.mem_cons,List.not_mem_nil,or_false] at hs'
  rcases hs' with rfl|rfl<;>simp only<;>omega
 ·simp only [List.mem_singleton] at hs';subst hs';simp only;omega
theorem Hts.uniq {c:Prg} {h h':List Int} (a:Hts c h) (b:Hts c h'):h=h':=by
 refine List.ext_getElem? fun p=>?_
 by_cases hp:p<c.instrs.length
 ·have e1:=List.getElem?_eq_getElem (l:=h) (i:=p) (by rw [a.len];exact hp)
  have e2:=List.getElem?_eq_getElem (l:=h') (i:=p) (by rw [b.len];exact hp)
  rcases a.only _ _ e1 with h1|⟨h1,h2⟩
  ·rcases b.only _ _ e2 with h3|⟨h3,h4⟩
   ·rw [e1,e2,h1,h3]
   ·rw [(a.all _ _ h4).2,e2]
  ·rw [e1,(b.all _ _ h2).2]
 ·rw [List.getElem?_eq_none (by rw [a.len];omega),List.getElem?_eq_none (by rw [b.len];omega)]
theorem Hts.notBad {c:Prg} {h:List Int} (a:Hts c h):¬Bad c:=by
 rintro ⟨p,x,h1,h2|⟨y,h2,h3⟩⟩
 ·exact h2 (a.all _ _ h1).1
 ·have e1:=(a.all _ _ h1).2
  rw [(a.all _ _ h2).2] at e1
  cases e1;exact h3 rfl
def Says (c:Prg):Option (List Int)→Prop
 | some h=>Hts c h
 | none=>Bad c
theorem Says.uniq {c:Prg} {r r':Option (List Int)} (a:Says c r) (b:Says c r'):r=r':=by
 cases r with
 | none=>cases r' with
  | none=>rfl
  | some h=>exact absurd a (Hts.notBad b)
 | some h=>cases r' with
  | none=>exact absurd b (Hts.notBad a)
  | some h'=>rw [Hts.uniq a b]
theorem getD_in {h:List Int} {p:Nat} (hp:p<h.length):h[p]? = some (h.getD p 0):=by
 simp [List.getD,List.getElem?_eq_getElem hp]
structure HInv (c:Prg) (h:List Int) (wk:List Nat) (l:List (Nat × Int)):Prop where
 len:h.length=c.instrs.length
 ok:∀ p x,h[p]? = some x→x = -1∨(0≤x∧Rch c p x∧(p ∉ wk→OKs c p x∧∀ s∈afterM (c.ins p) p x,h[s.1]? = some s.2∨s∈l))
 to:∀ s∈l,Rch c s.1 s.2
 en:∀ e∈c.entries,h[e.pos.toNat]? = some 0∨entP e∈l
theorem HInv.done {c:Prg} {h:List Int} (a:HInv c h [] []):Hts c h:=by
 have key:∀ p x,Rch c p x→h[p]? = some x:=by
  intro p x hr
  induction hr with
  | ent he =>
   rcases a.en _ he with h1|h1
   ·exact h1
   ·cases h1
  | step h1 h2 h3 ih =>
   rcases a.ok _ _ ih with h4|⟨-, -,h4⟩
   ·have:=h2.nn;omega
   ·rcases (h4 (by simp)).2 _ h3 with h5|h5
    ·exact h5
    ·cases h5
 refine ⟨a.len,fun p x hr=>⟨?_,key p x hr⟩,fun p x hp=>?_⟩
 ·rcases a.ok _ _ (key p x hr) with h4|⟨-, -,h4⟩
  ·exfalso
   cases hr with
   | ent he=>omega
   | step h1 h2 h3 =>
    have:=after_nn h2 _ h3
    omega
  ·exact (h4 (by simp)).1
 ·rcases a.ok _ _ hp with h4|⟨h5,h6, -⟩
  ·exact .inl h4
  ·exact .inr ⟨h5,h6⟩
theorem HInv.start (c:Prg):HInv c (List.replicate c.instrs.length (-1)) [] (c.entries.map entP):=by
 refine ⟨by simp,fun p x hp=>?_,fun s hs=>?_,fun e he=>.inr (List.mem_map_of_mem he)⟩
 ·rw [List.getElem?_replicate] at hp
  split at hp<;>simp at hp
  exact .inl hp.symm
 ·obtain ⟨e,he,rfl⟩:=List.mem_map.1 hs
  exact .ent he
theorem HInv.perm {c:Prg} {h:List Int} {wk:List Nat} {l l':List (Nat × Int)} (a:HInv c h wk l) (hp:∀ s,s∈l↔s∈l'):HInv c h wk l' :=
 ⟨a.len,fun p x hx=>(a.ok p x hx).imp_right fun ⟨u,v,w⟩=>⟨u,v,fun hn=>⟨(w hn).1,fun s hs=>((w hn).2 s hs).imp_right (hp s).1⟩⟩,fun s hs=>a.to s ((hp s).2 hs),fun e he=>(a.en e he).imp_right (hp _).1⟩
theorem HInv.skip {c:Prg} {h:List Int} {wk:List Nat} {l:List (Nat × Int)} {p:Nat} {x:Int} (a:HInv c h wk ((p,x) :: l)) (hx:h[p]? = some x):HInv c h wk l:=by
 refine ⟨a.len,fun q y hq=>?_,fun s hs=>a.to s (List.mem_cons_of_mem _ hs),fun e he=>?_⟩
 ·rcases a.ok q y hq with h1|⟨u,v,w⟩
  ·exact .inl h1
  refine .inr ⟨u,v,fun hn=>⟨(w hn).1,fun s hs=>?_⟩⟩
  rcases (w hn).2 s hs with h1|h1
  ·exact .inl h1
  ·cases h1 with
   | head=>exact .inl hx
   | tail _ h1=>exact .inr h1
 ·rcases a.en e he with h1|h1
  ·exact .inl h1
  ·have hc:=List.mem_cons.1 h1
   rcases hc with h2|h2
   ·left
    have e1:e.pos.toNat=p:=congrArg Prod.fst h2
    have e2:(0:Int)=x:=congrArg Prod.snd h2
    rw [e1,e2];exact hx
   ·exact .inr h2
theorem HInv.set {c:Prg} {h:List Int} {wk:List Nat} {l:List (Nat × Int)} {p:Nat} {x:Int} (a:HInv c h wk ((p,x) :: l)) (hp:p<h.length) (hn:h.getD p 0<0) (h0:0≤x):HInv c (h.set p x) (p :: wk) l:=by
 have hg:=getD_in hp
 have up:∀ (q:Nat) (y:Int),h[q]? = some y→0≤y→(h.set p x)[q]? = some y:=by
  intro q y hq hy
  rw [List.getElem?_set]
  by_cases e:p=q
  ·subst e;rw [hg] at hq;cases hq;omega
  ·rw [if_neg e];exact hq
 have hput:(h.set p x)[p]? = some x:=by rw [List.getElem?_set];simp [hp]
 refine ⟨by simpa using a.len,fun q y hq=>?_,fun s hs=>a.to s (List.mem_cons_of_mem _ hs),fun e he=>?_⟩
 ·by_cases e:q=p
  ·subst e
   rw [hput] at hq;cases hq
   exact .inr ⟨h0,a.to _ List.mem_cons_self,fun hn=>absurd List.mem_cons_self hn⟩
  ·rw [List.getElem?_set,if_neg (Ne.symm e)] at hq
   rcases a.ok q y hq with h1|⟨u,v,w⟩
   ·exact .inl h1
   ·refine .inr ⟨u,v,fun hn2=>?_⟩
    have hw:=w fun hm=>hn2 (List.mem_cons_of_mem _ hm)
    refine ⟨hw.1,fun s hs=>?_⟩
    rcases hw.2 s hs with h2|h2
    ·have hr:=Rch.step v hw.1 hs
     by_cases hs0:0≤s.2
     ·exact .inl (up _ _ h2 hs0)
     ·rcases a.ok _ _ h2 with h3|⟨h3, -⟩
      ·exact absurd (after_nn hw.1 _ hs) hs0
      ·exact absurd h3 hs0
    ·cases h2 with
     | head=>exact .inl hput
     | tail _ h2=>exact .inr h2
 ·rcases a.en e he with h1|h1
  ·exact .inl (up _ _ h1 (Int.le_refl 0))
  ·rcases List.mem_cons.1 h1 with h2|h2
   ·left
    have e1:e.pos.toNat=p:=congrArg Prod.fst h2
    have e2:(0:Int)=x:=congrArg Prod.snd h2
    rw [e1,e2];exact hput
   ·exact .inr h2
theorem HInv.pop {c:Prg} {h:List Int} {wk:List Nat} {l:List (Nat × Int)} {p:Nat} (a:HInv c h (p :: wk) l) (hok:OKs c p (h.getD p 0)):HInv c h wk (afterM (c.ins p) p (h.getD p 0)++l):=by
 have hp:p<h.length:=by rw [a.len];exact hok.1
 have hg:=getD_in hp
 have hr:Rch c p (h.getD p 0):=by
  rcases a.ok _ _ hg with h1|⟨-,h1, -⟩
  ·have:=hok.nn;omega
  ·exact h1
 refine ⟨a.len,fun q y hq=>?_,fun s hs=>?_,fun e he=>(a.en e he).imp_right fun h1=>List.mem_append_right _ h1⟩
 ·rcases a.ok q y hq with h1|⟨u,v,w⟩
  ·exact .inl h1
  refine .inr ⟨u,v,fun hn=>?_⟩
  by_cases e:q=p
  ·subst e
   rw [hg] at hq;cases hq
   exact ⟨hok,fun s hs=>.inr (List.mem_append_left _ hs)⟩
  ·have hw:=w fun hm=>(List.mem_cons.1 hm).elim e hn
   exact ⟨hw.1,fun s hs=>(hw.2 s hs).imp_right fun h1=>List.mem_append_right _ h1⟩
 ·rcases List.mem_append.1 hs with h1|h1
  ·exact .step hr hok h1
  ·exact a.to s h1
theorem HInv.rch {c:Prg} {h:List Int} {wk:List Nat} {l:List (Nat × Int)} {p:Nat} {x:Int} (a:HInv c h wk l) (hp:h[p]? = some x) (h0:0≤x):Rch c p x:=by
 rcases a.ok _ _ hp with h1|⟨-,h1, -⟩
 ·omega
 ·exact h1
theorem hgtR_says (c:Prg):∀ (n:Nat) (h:List Int) (st:List (Nat × Int)) (r:Option (List Int)),HInv c h [] st→hgtR c n h st=some r→Says c r
 | 0,_,_,_,_,hr=>by cases hr
 | n+1,h,[],r,a,hr=>by
  simp only [hgtR] at hr;cases hr
  exact a.done
 | n+1,h,(p,x) :: st,r,a,hr=>by
  simp only [hgtR] at hr
  have hrc:=a.to _ List.mem_cons_self
  simp only at hrc
  split at hr
  ·rename_i h1
   cases hr
   refine ⟨p,x,hrc,.inl fun hok=>?_⟩
   have:=a.len;have:=hok.1;have:=hok.2.1
   omega
  ·rename_i h1
   have hp:p<h.length:=by omega
   have hg:=getD_in hp
   split at hr
   ·rename_i h2
    split at hr
    ·rename_i h3
     cases hr
     exact ⟨p,x,hrc,.inr ⟨_,a.rch hg h2,h3⟩⟩
    ·rename_i h3
     have e:h.getD p 0=x:=Classical.not_not.1 h3
     rw [e] at hg
     exact hgtR_says c n h st r (a.skip hg) hr
   ·rename_i h2
    split at hr
    ·rename_i h3
     cases hr
     refine ⟨p,x,hrc,.inl fun hok=>?_⟩
     rcases h3 with h3|h3
     ·have:=hok.2.2.1;simp only [Prg.ins] at this;omega
     ·exact hok.2.2.2 h3
    ·rename_i h3
     have hok:OKs c p x:=⟨by rw [← a.len];exact hp,by omega,by simp only [Prg.ins];omega,fun hh=>h3 (.inr hh)⟩
     have s1:=a.set hp (by omega) hok.nn
     have e:(h.set p x).getD p 0=x:=by simp [List.getD,List.getElem?_set,hp]
     have s2:=s1.pop (by rw [e];exact hok)
     rw [e] at s2
     exact hgtR_says c n _ _ r (s2.perm fun s=>by simp only [List.mem_append,List.mem_reverse]) hr
theorem reachL_says (c:Prg):∀ (l:List (Nat × Int)) (h:List Int) (wk:List Nat),HInv c h wk l→(∀ s∈l,0≤s.2)→match reachL h wk l with
  | none=>Bad c
  | some (h',wk')=>HInv c h' wk' []∧wk'.length+negs h'≤wk.length+negs h
 | [],h,wk,a,_=>⟨a,Nat.le_refl _⟩
 | (p,x) :: l,h,wk,a,h0=>by
  have hrc:=a.to _ List.mem_cons_self
  have hx:=h0 _ List.mem_cons_self
  simp only at hrc hx
  have h0':∀ s∈l,0≤s.2:=fun s hs=>h0 s (List.mem_cons_of_mem _ hs)
  simp only [reachL]
  cases hR:reachM h wk p x with
  | none =>
   simp only
   unfold reachM at hR
   split at hR
   ·rename_i h1
    by_cases hp:h.length≤p
    ·exact ⟨p,x,hrc,.inl fun hok=>by have:=hok.1;have:=a.len;omega⟩
    by_cases h2:x>48
    ·exact ⟨p,x,hrc,.inl fun hok=>by have:=hok.2.1;omega⟩
    ·have h3:0≤h.getD p 0∧h.getD p 0≠x:=by omega
     exact ⟨p,x,hrc,.inr ⟨_,a.rch (getD_in (by omega)) h3.1,h3.2⟩⟩
   ·split at hR<;>cases hR
  | some q =>
   obtain ⟨h',wk'⟩:=q
   simp only
   unfold reachM at hR
   split at hR
   ·cases hR
   ·rename_i h1
    have hp:p<h.length:=by omega
    split at hR
    ·rename_i h2
     cases hR
     have:=reachL_says c l _ _ (a.set hp h2 hx) h0'
     have hneg:negs (h.set p x)+1=negs h:=by
      have hgh:h.getD p 0=h[p]:=by simp [List.getD,hp]
      unfold negs
      rw [List.countP_set hp]
      have e1:decide (h[p]<0)=true:=by simp;omega
      have e2:decide (x<0)=false:=by simp;omega
      simp only [e1,e2,if_true,Bool.false_eq_true,if_false]
      have:0<h.countP fun x=>decide (x<0):=List.countP_pos_iff.2 ⟨h[p],List.getElem_mem hp,e1⟩
      omega
     revert this
     cases reachL (h.set p x) (p :: wk) l with
     | none=>exact id
     | some q =>
      obtain ⟨h2,wk2⟩:=q
      rintro ⟨a1,a2⟩
      exact ⟨a1,by simp only [List.length_cons] at a2;omega⟩
    ·cases hR
     have e:h.getD p 0=x:=by omega
     exact reachL_says c l _ _ (a.skip (by rw [← e];exact getD_in hp)) h0'
theorem hgtP_says (c:Prg):∀ (n:Nat) (h:List Int) (wk:List Nat),HInv c h wk []→WkI c.instrs.length h wk→wk.length+negs h<n→∃ r,hgtP c n h wk=some r∧Says c r
 | 0,_,_,_,_,hn=>by omega
 | n+1,h,[],a,_,_=>⟨some h,rfl,a.done⟩
 | n+1,h,p :: wk,a,hI,hn=>by
  simp only [hgtP]
  obtain ⟨s1,s2,s3⟩:=hI.mem p List.mem_cons_self
  have hp:p<h.length:=by rw [hI.hl];exact s1
  have hrc:=a.rch (getD_in hp) s2
  split
  ·rename_i h1
   refine ⟨none,rfl,p,_,hrc,.inl fun hok=>?_⟩
   rcases h1 with h1|h1
   ·have:=hok.2.2.1;simp only [Prg.ins] at this;omega
   ·exact hok.2.2.2 h1
  ·rename_i h1
   have hok:OKs c p (h.getD p 0):=⟨s1,s3,by simp only [Prg.ins];omega,fun hh=>h1 (.inr hh)⟩
   have key:=reachL_says c _ h wk ((a.pop hok).perm (l':=afterM (c.ins p) p (h.getD p 0)) fun s=>by rw [List.append_nil]) (after_nn hok)
   have hIt:WkI c.instrs.length h wk:=⟨hI.hl,fun q hq=>hI.mem q (List.mem_cons_of_mem _ hq)⟩
   have kI:=fun h' wk'=>reachL_inv (h':=h') (wk':=wk') _ hIt (after_nn hok)
   revert key kI
   simp only [Prg.ins]
   cases reachL h wk (afterM (c.instrs.getD p ⟨0,0⟩) p (h.getD p 0)) with
   | none=>exact fun key _=>⟨none,rfl,key⟩
   | some q =>
    obtain ⟨h',wk'⟩:=q
    rintro ⟨a1,a2⟩ kI
    exact hgtP_says c n h' wk' a1 (kI h' wk' rfl).1 (by simp only [List.length_cons] at hn;omega)
theorem hR_says {c:Prg} (hl:c.instrs.length≤4000) (hj:jumpsM c=true):Says c (hR c) :=
 hgtR_says c _ _ _ _ ((HInv.start c).perm fun s=>by simp [entR]) (hR_eq hl hj)
theorem hgtP_eq {c:Prg} (hl:c.instrs.length≤4000) (hj:jumpsM c=true):hgtP0 c 4001=some (hR c):=by
 have hr:=hR_says hl hj
 unfold hgtP0
 have key:=reachL_says c _ _ [] (HInv.start c) (fun s hs=>by obtain ⟨e, -,rfl⟩:=List.mem_map.1 hs;exact Int.le_refl 0)
 have kI:=fun h' wk'=>reachL_inv (len:=c.instrs.length) (h':=h') (wk':=wk') (c.entries.map entP) (h:=List.replicate c.instrs.length (-1)) (wk:=[]) ⟨by simp,by simp⟩ (fun s hs=>by obtain ⟨e, -,rfl⟩:=List.mem_map.1 hs;exact Int.le_refl 0)
 revert key kI
 cases reachL (List.replicate c.instrs.length (-1)) [] (c.entries.map entP) with
 | none=>exact fun key _=>congrArg some (Says.uniq (r:=none) key hr)
 | some q =>
  obtain ⟨h',wk'⟩:=q
  rintro ⟨a1,a2⟩ kI
  obtain ⟨r,e,s⟩:=hgtP_says c 4001 h' wk' a1 (kI h' wk' rfl).1 (by simp [negs,List.countP_replicate] at a2 ⊢;omega)
  simp only [e]
  rw [Says.uniq s hr]
def vHts (c:Prg):List Int:=if validM c=0 then (hR c).getD [] else []
theorem hgtV_some {h:List Int}:hgtV (some h)=.tup [ints h,.bool true]:=rfl
theorem hgtV_none:hgtV none=.tup [.lst [],.bool false]:=rfl
end Go.Pb
namespace Go.Pb
variable [Go.Sym.Tab]
open Go.Sym
theorem eqa2 {g:Bool} {a b c d:Int}:eqaR g [0,0] (.agg [I64 a,I64 b]) (.agg [I64 c,I64 d])=some (.bool (g != (a == c && b == d))):=by
 simp only [eqaR,cellsEq,cellEq,if_true]
 generalize (a == c)=p;generalize (b == d)=q
 cases p<;>cases q<;>rfl
theorem eqa4 {g:Bool} {a b c d a' b' c' d':Int}:eqaR g [0,0,0,0] (.agg [I64 a,I64 b,I64 c,I64 d]) (.agg [I64 a',I64 b',I64 c',I64 d'])=some (.bool (g != (a == a' && (b == b' && (c == c' && d == d'))))):=by
 simp only [eqaR,cellsEq,cellEq,if_true]
 generalize (a == a')=p;generalize (b == b')=q;generalize (c == c')=r;generalize (d == d')=s
 cases p<;>cases q<;>cases r<;>cases s<;>rfl
theorem valid_0 {c:Prg} (h0:validM c=0):limitsM c=true∧jumpsM c=true∧∃ h,hR c=some h:=by
 unfold validM at h0
 split at h0
 ·exact absurd h0 (by decide)
 split at h0
 ·exact absurd h0 (by decide)
 split at h0
 ·exact absurd h0 (by decide)
 split at h0
 ·exact absurd h0 (by decide)
 split at h0
 ·exact absurd h0 (by decide)
 ·rename_i h1 h2 h3 h4 h5
  refine ⟨by simpa using h1,by simpa using h3,?_⟩
  cases hh:hR c with
  | none=>rw [hh] at h5;exact absurd rfl h5
  | some h=>exact ⟨h,rfl⟩
theorem prg_eq (a b:Prg):decide (a=b)=(decide (a.instrs=b.instrs) && (decide (a.strings=b.strings) && (decide (a.entries=b.entries) && (decide (a.prios=b.prios) && (decide (a.vars=b.vars) && (decide (a.timers=b.timers) && decide (a.events=b.events))))))):=by
 cases a;cases b;rw [Bool.eq_iff_iff];simp
theorem eqTo_step {α : Type} [DecidableEq α] {a b:List α} {k:Nat} {x y : α} (ha:a[k]? = some x) (hb:b[k]? = some y) (h:a.take k=b.take k):(a.take (k+1)=b.take (k+1))↔x=y:=by
 rw [List.take_add_one,List.take_add_one,ha,hb,h];simp
theorem eq_fail {α : Type} {a b:List α} {k:Nat} {x y : α} (ha:a[k]? = some x) (hb:b[k]? = some y) (h:x≠y):a≠b:=by
 rintro rfl;rw [ha] at hb;cases hb;exact h rfl
theorem eq_done {α : Type} {a b:List α} {k:Nat} (hl:a.length=b.length) (hk:a.length≤k) (h:a.take k=b.take k):a=b:=by
 rwa [List.take_of_length_le hk,List.take_of_length_le (by omega)] at h
theorem ins_eq (i j:Ins):(i.op == j.op && i.A == j.A)=decide (i=j):=by
 cases i;cases j;rw [Bool.eq_iff_iff];simp
theorem ent_eq (i j:Ent):(i.mode == j.mode && (i.trigger == j.trigger && (i.index == j.index && i.pos == j.pos)))=decide (i=j):=by
 cases i;cases j;rw [Bool.eq_iff_iff];simp
def findM (mode trigger index:Int):List Ent→Option Int
 | []=>none
 | e :: r=>if e.mode=mode∧e.trigger=trigger∧e.index=index then some e.pos else findM mode trigger index r
theorem findM_step {m t i:Int} {l:List Ent} {k:Nat} {e:Ent} (h:l[k]? = some e):findM m t i (l.drop k)=if e.mode=m∧e.trigger=t∧e.index=i then some e.pos else findM m t i (l.drop (k+1)):=by
 have hk:k<l.length:=(List.getElem?_eq_some_iff.1 h).1
 rw [List.drop_eq_getElem_cons hk]
 rw [List.getElem?_eq_getElem hk] at h
 cases h
 rfl
def findV:Option Int→DV
 | some a=>.tup [I64 a,.bool true]
 | none=>.tup [I64 0,.bool false]
end Go.Pb
namespace Go.Pb
variable [Go.Sym.Tab]
open Go.Sym
theorem wu64 {n:Int} (h1:0≤n) (h2:n≤18446744073709551615):IntKind.u64.wrap n=n:=by
 simp only [IntKind.wrap,IntKind.bits,IntKind.signed]
 simp
 omega
theorem wu8 {n:Int} (h1:0≤n) (h2:n≤255):IntKind.u8.wrap n=n:=by
 simp only [IntKind.wrap,IntKind.bits,IntKind.signed]
 simp
 omega
theorem wu64n {n:Int} (h1 : -18446744073709551616≤n) (h2:n<0):IntKind.u64.wrap n=n+18446744073709551616:=by
 simp only [IntKind.wrap,IntKind.bits,IntKind.signed]
 simp
 omega
theorem xor64 {n:Nat} (h:n<18446744073709551616):bits .xor .u64 18446744073709551615 (n:Int)=18446744073709551615-(n:Int):=by
 have e1:BitVec.ofInt 64 18446744073709551615=BitVec.allOnes 64:=by decide
 have e2:BitVec.ofInt 64 (n:Int)=BitVec.ofNat 64 n:=by simp
 have e3:(BitVec.allOnes 64 ^^^ BitVec.ofNat 64 n).toNat=18446744073709551615-n:=by
  rw [BitVec.allOnes_xor,BitVec.toNat_not,BitVec.toNat_ofNat,Nat.mod_eq_of_lt h]
 show IntKind.u64.wrap (((BitVec.ofInt 64 18446744073709551615) ^^^ (BitVec.ofInt 64 (n:Int))).toNat:Int)=_
 rw [e1,e2,e3,wu64 (by omega) (by omega)]
 omega
def zig (n:Int):Nat:=if n<0 then (-2 * n-1).toNat else (2 * n).toNat
def numB (z:Nat):List UInt8:=if z<128 then [UInt8.ofNat z] else UInt8.ofNat (z % 128+128) :: numB (z / 128)
termination_by z
decreasing_by omega
theorem numB_lt {z:Nat} (h:z<128):numB z=[UInt8.ofNat z]:=by rw [numB,if_pos h]
theorem numB_ge {z:Nat} (h:¬z<128):numB z=UInt8.ofNat (z % 128+128) :: numB (z / 128):=by rw [numB,if_neg h]
theorem numB_len:∀ (k z:Nat),z<128 ^ (k+1)→(numB z).length≤k+1
 | 0,z,h=>by rw [numB_lt (by omega)];simp
 | k+1,z,h=>by
  by_cases h0:z<128
  ·rw [numB_lt h0];simp
  ·rw [numB_ge h0,List.length_cons]
   have:=numB_len k (z / 128) (by rw [Nat.pow_succ] at h;omega)
   omega
def numI (n:Int):List UInt8:=numB (zig n)
def bytesC (l:List UInt8):List DV:=l.map fun b=>DV.int .u8 (b.toNat:Int)
theorem bytesC_len (l:List UInt8):(bytesC l).length=l.length:=by simp [bytesC]
theorem bytesC_app (l r:List UInt8):bytesC (l++r)=bytesC l++bytesC r:=by simp [bytesC]
theorem bytesOf_C:∀ (l:List UInt8),bytesOf (bytesC l)=some l
 | []=>rfl
 | b :: l=>by
  show (match bytesOf (bytesC l) with
   | some s=>some (UInt8.ofNat (b.toNat:Int).toNat :: s)
   | none=>none)=_
  rw [bytesOf_C l];simp
theorem bytesC_len1 (l:List UInt8):(bytesC l).length=l.length * 1:=by simp [bytesC]
theorem cv_own {H:Hp} {id n u:Nat} {l:List UInt8} {cs:List DV} (h:H id=some ⟨u,true,cs⟩) (hc:cs=bytesC l) (hn:n=l.length):cvbsR H (.slc id 0 n)=some (.str l):=by
 subst hc hn
 simp only [cvbsR,h,Nat.zero_add]
 rw [Nat.ble_eq_true_of_le (by rw [bytesC_len];exact Nat.le_refl _)]
 simp only [List.drop_zero]
 rw [List.take_of_length_le (by rw [bytesC_len];exact Nat.le_refl _),bytesOf_C]
theorem cv_app {H:Hp} {id u:Nat} {l:List UInt8} {b:UInt8} (h:H id=some ⟨u,true,bytesC l++[DV.int .u8 (b.toNat:Int)]⟩):cvbsR H (.slc id 0 (l.length+1))=some (.str (l++[b])) :=
 cv_own h (bytesC_app l [b]).symm (by simp)
theorem byte_hi (z:Nat):IntKind.u8.wrap (IntKind.u8.wrap ((z:Int).tmod 128)+128)=((UInt8.ofNat (z % 128+128)).toNat:Int):=by
 have h1:((z:Int).tmod 128)=((z % 128:Nat):Int):=by simp [Int.tmod]
 rw [h1,wu8 (n:=((z % 128:Nat):Int)) (by omega) (by omega),wu8 (by omega) (by omega)]
 simp
 omega
theorem byte_hi' (z:Nat):IntKind.u8.wrap (IntKind.u64.wrap ((z:Int).tmod 128+128))=((UInt8.ofNat (z % 128+128)).toNat:Int):=by
 have h1:((z:Int).tmod 128)=((z % 128:Nat):Int):=by simp [Int.tmod]
 rw [h1,wu64 (by omega) (by omega),wu8 (by omega) (by omega)]
 simp
 omega
theorem byte_lo {z:Nat} (h:z<128):IntKind.u8.wrap (z:Int)=((UInt8.ofNat z).toNat:Int):=by
 rw [wu8 (by omega) (by omega)]
 simp
 omega
theorem quo128 {z:Nat} (h:z<18446744073709551616):IntKind.u64.wrap ((z:Int).tdiv 128)=((z / 128:Nat):Int):=by
 have h1:((z:Int).tdiv 128)=((z / 128:Nat):Int):=by simp [Int.tdiv]
 rw [h1,wu64 (by omega) (by omega)]
theorem zigR_pos {n:Int} (h0:0≤n) (h:n≤4611686018427387903):IntKind.u64.wrap (IntKind.u64.wrap n * 2 ^ min 1 64)=(zig n:Int):=by
 have e:(2:Int) ^ min 1 64=2:=by decide
 rw [e,wu64 h0 (by omega),wu64 (by omega) (by omega),zig,if_neg (by omega)];omega
theorem zigR_neg {n:Int} (h0:n<0) (h : -4611686018427387904≤n):bits .xor .u64 18446744073709551615 (IntKind.u64.wrap (IntKind.u64.wrap n * 2 ^ min 1 64))=(zig n:Int):=by
 have e:(2:Int) ^ min 1 64=2:=by decide
 have e2:IntKind.u64.wrap ((n+18446744073709551616) * 2)=2 * n+18446744073709551616:=by
  simp only [IntKind.wrap,IntKind.bits,IntKind.signed]
  simp
  omega
 rw [e,wu64n (by omega) h0,e2]
 have e3:2 * n+18446744073709551616=(((2 * n+18446744073709551616).toNat:Nat):Int):=by omega
 rw [e3,xor64 (by omega),zig,if_pos h0];omega
theorem un_xor {a:Int}:unR .xor (.int .u64 a)=some (.int .u64 (bits .xor .u64 18446744073709551615 a)):=rfl
theorem zigP_pos {n:Int} (h0:0≤n) (h:n≤4611686018427387903):IntKind.u64.wrap (IntKind.i64.wrap (2 * n))=(zig n:Int):=by
 rw [w64 (by omega) (by omega),wu64 (by omega) (by omega),zig,if_neg (by omega)];omega
theorem zigP_neg {n:Int} (h0:n<0) (h : -4611686018427387904≤n):IntKind.u64.wrap (IntKind.i64.wrap (IntKind.i64.wrap (-2 * n)-1))=(zig n:Int):=by
 have e:IntKind.i64.wrap (IntKind.i64.wrap (-2 * n)-1) = -2 * n-1:=by
  by_cases h1:n = -4611686018427387904
  ·subst h1;decide
  ·rw [w64 (n := -2 * n) (by omega) (by omega),w64 (by omega) (by omega)]
 rw [e,wu64 (by omega) (by omega),zig,if_pos h0];omega
theorem zig_lt {n:Int} (h1 : -4611686018427387904≤n) (h2:n≤4611686018427387903):zig n<18446744073709551616:=by
 unfold zig;split<;>omega
end Go.Pb
end

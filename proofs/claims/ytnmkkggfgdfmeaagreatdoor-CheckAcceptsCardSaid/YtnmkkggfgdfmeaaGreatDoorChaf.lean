/-
  HELPERS of the claim: part 6 of its texts.
-/
import Derived.Shelf.Strings.Fields
import Derived.Test.YtnmkkggfgdfmeaaGreatDoorProg
import Derived.KernelRfl
import Derived.Lib.Join
import Derived.Test.YtnmkkggfgdfmeaaGreatDoorChae
noncomputable section
set_option linter.unusedVariables false
namespace Go.Proofs
open Go.Shelf
def Tryz.lays157_ren:Go.Shelf.Ren:=⟨fun | 157=>165 | 229=>167 | 199=>168 | 261=>169 | 311=>170 | 312=>171|n=>n,fun | 9=>9 | 31=>36 | 3=>3 | 5=>5 | 4=>4 | 119=>175 | 0=>0 | 40=>177 | 152=>178 | 21=>21 | 154=>180 | 51=>181 | 141=>183 | 196=>187 | 193=>184 | 198=>190 | 49=>188 | 194=>185 | 201=>193 | 226=>195 | 46=>196 | 227=>197|n=>n,fun | 0=>0 | 6=>1|n=>n⟩
theorem Tryz.lays157:Go.Proofs.Lays.n157 Tryz.prog Tryz.lays157_ren:={
 mixed:=by kernel_rfl
 f157:=Tryz.func165.trans (congrArg some (by kernel_rfl))
 f199:=Tryz.func168.trans (congrArg some (by kernel_rfl))
 f229:=Tryz.func167.trans (congrArg some (by kernel_rfl))
 f261:=Tryz.func169.trans (congrArg some (by kernel_rfl))
 f311:=Tryz.func170.trans (congrArg some (by kernel_rfl))
 f312:=Tryz.func171.trans (congrArg some (by kernel_rfl))
 t0:=Tryz.underlying0
 a0:=Tryz.isAgg0
 z0:=Tryz.sizeOf0
 v0:=Tryz.zeroValue0
 t3:=Tryz.underlying3
 a3:=Tryz.isAgg3
 z3:=Tryz.sizeOf3
 v3:=Tryz.zeroValue3
 t4:=Tryz.underlying4
 a4:=Tryz.isAgg4
 z4:=Tryz.sizeOf4
 v4:=Tryz.zeroValue4
 t5:=Tryz.underlying5
 a5:=Tryz.isAgg5
 z5:=Tryz.sizeOf5
 v5:=Tryz.zeroValue5
 t9:=Tryz.underlying9
 a9:=Tryz.isAgg9
 z9:=Tryz.sizeOf9
 v9:=Tryz.zeroValue9
 t21:=Tryz.underlying21
 a21:=Tryz.isAgg21
 z21:=Tryz.sizeOf21
 v21:=Tryz.zeroValue21
 t31:=Tryz.underlying36
 a31:=Tryz.isAgg36
 z31:=Tryz.sizeOf36
 v31:=Tryz.zeroValue36
 t40:=Tryz.underlying177
 a40:=Tryz.isAgg177
 z40:=Tryz.sizeOf177
 v40:=Tryz.zeroValue177
 t46:=Tryz.underlying196
 a46:=Tryz.isAgg196
 z46:=Tryz.sizeOf196
 v46:=Tryz.zeroValue196
 t49:=Tryz.underlying188
 a49:=Tryz.isAgg188
 z49:=Tryz.sizeOf188
 v49:=Tryz.zeroValue188
 t51:=Tryz.underlying181
 a51:=Tryz.isAgg181
 z51:=Tryz.sizeOf181
 v51:=Tryz.zeroValue181
 t119:=Tryz.underlying175
 a119:=Tryz.isAgg175
 z119:=Tryz.sizeOf175
 t141:=Tryz.underlying183
 a141:=Tryz.isAgg183
 z141:=Tryz.sizeOf183
 v141:=Tryz.zeroValue183
 t152:=Tryz.underlying178
 a152:=Tryz.isAgg178
 z152:=Tryz.sizeOf178
 v152:=Tryz.zeroValue178
 t154:=Tryz.underlying180
 a154:=Tryz.isAgg180
 z154:=Tryz.sizeOf180
 v154:=Tryz.zeroValue180
 t193:=Tryz.underlying184
 a193:=Tryz.isAgg184
 z193:=Tryz.sizeOf184
 v193:=Tryz.zeroValue184
 t194:=Tryz.underlying185
 a194:=Tryz.isAgg185
 z194:=Tryz.sizeOf185
 v194:=Tryz.zeroValue185
 t196:=Tryz.underlying187
 a196:=Tryz.isAgg187
 z196:=Tryz.sizeOf187
 v196:=Tryz.zeroValue187
 t198:=Tryz.underlying190
 a198:=Tryz.isAgg190
 z198:=Tryz.sizeOf190
 v198:=Tryz.zeroValue190
 t201:=Tryz.underlying193
 a201:=Tryz.isAgg193
 z201:=Tryz.sizeOf193
 v201:=Tryz.zeroValue193
 t226:=Tryz.underlying195
 a226:=Tryz.isAgg195
 z226:=Tryz.sizeOf195
 v226:=Tryz.zeroValue195
 t227:=Tryz.underlying197
 a227:=Tryz.isAgg197
 z227:=Tryz.sizeOf197
 v227:=Tryz.zeroValue197
 g0:=by kernel_rfl
 g6:=by kernel_rfl }
open Go.RowKit Go.Lib in
theorem Tryz.strings_Fields (s : ByteArray) (w : World) (hs : s.size < 4294967281) (hascii : ∀ (j : Nat) b, s.data.toList[j]? = some b → b.toNat < 128) (htab : Lib.TabIs Tryz.prog w "strings.asciiSpace" .u8 Lib.asciiSpaceTab) :
  Calls Tryz.prog 165 #[.string s] w fun e w' =>
   e=.returned (.slice (some ⟨w.heap.size,0,none⟩) (Lib.fields s.data.toList).length (Lib.fields s.data.toList).length)/\w'=w.alloc (.cells ((Lib.fields s.data.toList).map fun l=>Value.string ⟨l.toArray⟩).toArray 9):=Any.strings_Fields Tryz.lays157 (by kernel_rfl) (by kernel_rfl) s w hs hascii htab
end Go.Proofs
set_option maxHeartbeats 4000000
set_option maxRecDepth 100000
set_option linter.unusedSimpArgs false
namespace Go.Proofs.YtnmkkggfgdfmeaaGreatDoor
open Go.Eng (IC IOper DReg IFn A3 F3)
open Go.Sym Go.Pb Go.RowKit
theorem arg1 {ρ : Ren} {x:DV} {u:Value} {vs:Array Value} (hA:D1 ρ [x] vs) (h:∀ y,VRel ρ x y->y=u):vs = #[u]:=by
 obtain ⟨y,h1,h2⟩:=hA.get (i:=0) rfl;have hs:vs.size=1:=hA.1.symm;obtain rfl:=h y h2;cases vs with|mk l=>match l,hs,h1 with
  | [a],_,h1=>simp at h1;subst h1;rfl
def wlit:List UInt8:=w8 [115,119,105,116,99,104,32,99,111,105,108,32,108,97,109,112,32,115,111,117,110,100,32,115,104,111,119,32,118,97,114,32,116,105,109,101,114,32,101,118,101,110,116,32,109,111,100,101,32,111,110,32,115,116,97,114,116,32,115,116,111,112,32,99,108,111,115,101,32,111,112,101,110,32,105,102,32,101,108,115,101,32,114,101,112,101,97,116,32,115,99,111,114,101,32,102,105,114,101,32,104,111,108,100,32,114,101,108,101,97,115,101,32,108,105,103,104,116,32,98,108,105,110,107,32,98,101,103,105,110,32,101,110,100,32,112,111,115,116,32,112,108,97,121,32,114,117,110,32,104,97,108,116,32,116,101,120,116,32,99,111,110,115,117,109,101,32,99,108,111,115,101,100,32,97,99,116,105,118,101,32,108,101,102,116,32,112,108,97,121,101,114,32,98,97,108,108,32,116,114,117,101,32,102,97,108,115,101]
theorem wlit_f:Lib.fields wlit=C4:=by kernel_rfl
theorem wlit_a:wlit.all (fun b=>decide (b.toNat<128))=true:=by kernel_rfl
theorem c_Fields:PC Tryz.prog 165 [.str wlit] (.lst (C4.map DV.str)):=by
 refine PC.of_callsF (by kernel_rfl) rfl (L7 _) fun ρ w vs hf hA=>?_;rw [arg1 hA (fun y h=>h.str_inv)];obtain ⟨r,hr,rfl⟩ := ρ.tab _ (List.mem_cons_of_mem _ List.mem_cons_self);obtain ⟨e,fr,hb⟩:=hf _ _ hr;have ht : Lib.TabIs Tryz.prog w "strings.asciiSpace" .u8 Lib.asciiSpaceTab := by
  unfold Lib.TabIs World.var?;rw [show Tryz.prog.globalNamed "strings.asciiSpace" = some 0 by kernel_rfl]
  show (match w.heap[0]? with|some (.cells cs _ _)=>some cs|_=>none)=_;have hb':w.heap[0]? = _:=hb;rw [hb']
 refine (Tryz.strings_Fields _ w (by decide) ?_ ht).mono ?_
 ·intro j b hj;have:=List.all_eq_true.1 wlit_a b (List.mem_of_getElem? hj);simpa using this
 ·rintro e w' ⟨rfl,rfl⟩;have hl:Lib.fields (⟨wlit.toArray⟩:ByteArray).data.toList=C4:=wlit_f;rw [hl];refine ⟨_,w.heap.size,_,9,_,rfl,Nat.le_refl _,(by show (w.heap.push _)[w.heap.size]? = _;rw [Array.getElem?_push_size]),fun ρ' hρ => VRel.strs hρ rfl (Nat.le_refl _) (by decide),Below.alloc (Below.refl _ _) (Nat.le_refl _) _⟩
open Go.Eng (IC IOper DReg IFn A3)
open Go.Sym Go.Pb
theorem c_Fields':PC Tryz.prog 165 [.str [115,119,105,116,99,104,32,99,111,105,108,32,108,97,109,112,32,115,111,117,110,100,32,115,104,111,119,32,118,97,114,32,116,105,109,101,114,32,101,118,101,110,116,32,109,111,100,101,32,111,110,32,115,116,97,114,116,32,115,116,111,112,32,99,108,111,115,101,32,111,112,101,110,32,105,102,32,101,108,115,101,32,114,101,112,101,97,116,32,115,99,111,114,101,32,102,105,114,101,32,104,111,108,100,32,114,101,108,101,97,115,101,32,108,105,103,104,116,32,98,108,105,110,107,32,98,101,103,105,110,32,101,110,100,32,112,111,115,116,32,112,108,97,121,32,114,117,110,32,104,97,108,116,32,116,101,120,116,32,99,111,110,115,117,109,101,32,99,108,111,115,101,100,32,97,99,116,105,118,101,32,108,101,102,116,32,112,108,97,121,101,114,32,98,97,108,108,32,116,114,117,101,32,102,97,108,115,101]] (.lst (C4.map DV.str)):=c_Fields
theorem words_new:∀ k:Nat,k<38->(C4.take k).contains (C4.getD k [])=false:=by decide +kernel
theorem c_words:PC Tryz.prog 157 [] (.mp .s (C4.map DV.str) (C4.map fun _=>DV.bool true)):=by
 refine PC.of A6 isU157 (Nat.le_of_ble_eq_true rfl) rfl (by simp only [DV.nl];rw [L7,J5 (fun _=>rfl)];rfl) ?_;show IW Tryz.prog 15 u157_1 ⟨B4 _,_,_⟩ (rt [.tmp 0] _);have hf:=c_Fields';repeat' ((with_reducible first|apply wr|refine cpc hf ?_|fail)<;>try simp only [go_sem,seval])
 clear hf;refine C3 (fun k:Nat=>[(1,.mid 0),(5,.lst (C4.map DV.str)),(6,I64 C4.length),(7,I64 k)]) (fun k=>Sym.nil.upd 0 ⟨0,true,[.mpc .s ((C4.take k).map DV.str) ((C4.take k).map fun _=>DV.bool true)]⟩) (fun k _=>k<=C4.length) (fun k=>C4.length-k) 0 (by simp [C1,tm,Tm.upd]) (Sub.refl _) (by simp) ?_;rintro k c hk;have hlen:C4.length=38:=rfl;by_cases hlt:k<C4.length
 ·have hd:decide ((k:Int)<C4.length)=true:=by simpa using hlt
  have hg:=List.getElem?_eq_getElem hlt;have hw:IntKind.i64.wrap ((k:Int)+1)=((k+1:Nat):Int):=by rw [w64 (by omega) (by omega)];omega
  have hn:(C4.take k).contains C4[k]=false:=by
   have:=words_new k (by omega)
   rwa [List.getD_eq_getElem?_getD,hg,Option.getD_some] at this
  have hm:=A4b hn 0;have e1:C4.take (k+1)=C4.take k++[C4[k]]:=by rw [List.take_add_one,hg];rfl
  repeat' ((with_reducible apply wr)<;>try simp only [go_sem,seval,hd,hg,hw,hm])
  refine ⟨k+1,rfl,?_,inv hlt,by omega⟩;rw [e1,List.map_append,List.map_append];intro j b hj;by_cases e:j=0
  ·subst e;rw [A0] at hj ⊢;exact hj
  ·rw [A2 e] at hj;cases hj
 ·have hd:decide ((k:Int)<C4.length)=false:=by simpa using hlt
  repeat' ((with_reducible apply wr)<;>try simp only [go_sem,seval,hd])
  rw [List.take_of_length_le (by omega)];exact pc_map A0
abbrev A1o:DV:=.mp .s (C4.map DV.str) (C4.map fun _=>DV.bool true)
theorem lk_res (w:List UInt8):lkV (.bool false) false (C4.map fun _=>DV.bool true) (C5 (.str w) (C4.map DV.str) 0)=some (.bool (G6 w)):=by
 cases h:G6 w with
 | false=>rw [A4b h 0];rfl
 | true =>
  obtain ⟨j,hj⟩:=mfind_some h 0;have hlt:=(A4c hj).2;rw [List.length_map] at hlt;rw [hj,l_some,List.getElem?_map,List.getElem?_eq_getElem (by omega)];rfl
theorem c_IsWord (s:List UInt8):PC Tryz.prog 147 [.str s] (.bool (G6 s)):=by
 refine PC.of A6 isU147 (Nat.le_of_ble_eq_true rfl) (by simp [DV.nlL,DV.nl]) (by simp [DV.nlL,DV.nl]) ?_;show IW Tryz.prog 6 u147_1 ⟨B4 _,_,_⟩ (rt [.tmp 2] _);have hw:=c_words;have hlk:=lk_res s;repeat' ((with_reducible first|apply wr|refine cpc hw ?_|fail)<;>try simp only [go_sem,seval,hlk])
 exact A4 rfl
theorem c_IsName (s:List UInt8) (hs:s.length<=1000000000):PC Tryz.prog 121 [.str s] (.bool (F5 s)):=by
 refine PC.of A6 isU121 (Nat.le_of_ble_eq_true rfl) (by simp [DV.nlL,DV.nl]) (by simp [DV.nlL,DV.nl]) ?_;show IW Tryz.prog 28 u121_1 ⟨B4 _,_,_⟩ (rt [.tmp 2] _);have hw:=c_IsWord s;have hsp:=c_spanPt s (by omega);cases s with
 | nil =>
  repeat' ((with_reducible apply wr)<;>try simp only [go_sem,seval])
  exact A4 rfl
 | cons c r =>
  have hx:idxR (DV.str (c :: r)) (.int .i64 0)=some (.int .u8 (c.toNat:Int)):=rfl;have hlt:=c_letter c;have hd1:decide (((r.length+1:Nat):Int)≥1)=true:=by simp;omega
  repeat' ((with_reducible first|refine wr ?_|refine cpc hw ?_|refine cpc hsp ?_|refine cpc hlt ?_|refine wb2 ?_ ?_<;>(intro hb;try simp only [hb])|fail)<;>try simp only [go_sem,seval,hx,hd1])
  all_goals (refine A4 (congrArg DV.bool ?_);simp_all [F5]<;>omega)
end Go.Proofs.YtnmkkggfgdfmeaaGreatDoor
set_option linter.unusedSectionVars false
namespace Go.Pb
variable [Go.Sym.Tab]
open Go.Sym
def okN (kind:Int) (text:List UInt8) (value:Int) (i n:Nat):DV:=.tup [.agg [I64 kind,.str text,I64 value,I64 i],I64 ((i+n:Nat):Int),I64 0]
def O5 (e:Int) (i:Nat):DV:=.tup [.agg [I64 0,.str [],I64 0,I64 0],I64 i,I64 e]
def nxR (x:Nx) (i:Nat):DV:=if x.err=0 then okN x.kind x.text x.value i x.n else O5 x.err i
theorem nxR_nl (x:Nx) (i:Nat):(nxR x i).nl=true:=by unfold nxR;split<;>rfl
theorem A3w {k:Int} {t:List UInt8} {v:Int} {n i:Nat}:nxR ⟨k,t,v,n,0⟩ i=okN k t v i n:=if_pos rfl
theorem A0x {e:Int} {i:Nat} (h:e≠0):nxR (nxE e) i=O5 e i:=if_neg h
def A7r (s:List UInt8):Bool:=decide (2147483647<S5 s)
def smV (s:List UInt8):Nat:=if 2147483647<S5 s then 0 else S5 s
theorem smV_le (s:List UInt8):smV s<=2147483647:=by unfold smV;split<;>omega
theorem smV_f {s:List UInt8} (h:¬ 2147483647<S5 s):smV s=S5 s:=if_neg h
theorem smV_t {s:List UInt8} (h:2147483647<S5 s):smV s=0:=if_pos h
theorem A3q {p:UInt8->Bool} {s:List UInt8} {i j:Nat} {c:UInt8} (h:s[i+j]? = some c) (hj:j<=B5 p (s.drop i)):(p c=true->j+1<=B5 p (s.drop i))/\(p c=false->B5 p (s.drop i)=j) :=
 A6s (by rw [List.getElem?_drop];exact h) hj
theorem A1j {p:UInt8->Bool} {s:List UInt8} {i j:Nat} (h:s.length<=i+j) (hj:j<=B5 p (s.drop i)):B5 p (s.drop i)=j :=
 spnM_end (by rw [List.length_drop];omega) hj
theorem slx_take {s:List UInt8} {i n:Nat} (h:i+n<=s.length):slsR s (some (.int .i64 (i:Int))) (some (.int .i64 ((i+n:Nat):Int)))=some (.str ((s.drop i).take n)):=by
 have b1:∀ k:Nat,boundOf s.length (some (.int .i64 (k:Int)))=some k:=fun k=>by simp [boundOf]
 have b2:∀ k:Nat,boundOf 0 (some (.int .i64 (k:Int)))=some k:=fun k=>by simp [boundOf]
 simp only [slsR,b1,b2];rw [if_pos ⟨h,by omega⟩,show i+n-i=n by omega]
theorem nxR_shape (x:Nx) (i:Nat):∃ (k:Int) (t:List UInt8) (v p n e:Int),nxR x i=.tup [.agg [I64 k,.str t,I64 v,I64 p],I64 n,I64 e]:=by
 unfold nxR;split
 ·exact ⟨_,_,_,_,_,_,rfl⟩
 ·exact ⟨_,_,_,_,_,_,rfl⟩
def box4:Blk:=⟨0,true,[I64 0,.str [],I64 0,I64 0]⟩
def quR (i:Nat):Option (List UInt8 × Nat)->DV
 | none=>O5 48 i
 | some x=>if 32<x.1.length then O5 9 i else .tup [.agg [I64 4,.str x.1,I64 0,I64 i],I64 (x.2:Int),I64 0]
theorem quR_nl (i:Nat) (q:Option (List UInt8 × Nat)):(quR i q).nl=true:=by
 cases q with
 | none=>rfl
 | some x=>simp only [quR];split<;>rfl
theorem quR_next {s:List UInt8} {i:Nat} {c:UInt8} (h:s[i]? = some c) (h1:ltB c=false) (h2:dgB c=false) (h3:c.toNat=34):quR i (quA [] (i+1) (quM (s.drop (i+1))))=nxR (A5 (s.drop i)) i:=by
 rw [I3 h,A5,if_neg (by rw [h1];simp),if_neg (by rw [h2];simp),if_pos h3];cases hq:quM (s.drop (i+1)) with
 | none=>rfl
 | some x =>
  simp only [quA,Option.map_some,List.nil_append,quR];split
  ·rw [A0x (by decide)]
  ·rw [A3w,okN];have:x.2+(i+1)=i+(x.2+1):=by omega
   rw [this]
theorem A2u {X:Hp} {o:Option Nat} {c:Nat} {b b2 b3 b3':Blk} (hX:∀ j q,X j=some q->j<c) (ho:∀ i,o=some i->X i=none) (h:b3=b3') :
  Sub (D2 X (some (c+1)) b3) ((A0o ((D2 X o b).upd c b2) o).upd (c+1) b3'):=by
 subst h;intro j q hj;simp only [D2] at hj;by_cases e:j=c+1
 ·subst e;rw [A0] at hj ⊢;exact hj
 ·rw [A2 e] at hj ⊢;have h1:=hX j q hj;have h2:∀ i,o=some i->¬ j=i:=fun i hi e2=>by rw [e2,ho i hi] at hj;cases hj
  rw [E5 h2,A2 (by omega),D9 h2];exact hj
theorem A2s {b:Blk} {c j:Nat} {q:Blk} (hc:1<=c) (h:(Sym.nil.upd 0 b) j=some q):j<c:=by
 by_cases e:j=0
 ·omega
 ·rw [A2 e] at h;cases h
theorem A2r {b:Blk} {i:Nat} (h:¬ i=0):(Sym.nil.upd 0 b) i=none:=by rw [A2 h];rfl
def L3:List (List UInt8):=[[60,61],[62,61],[61,61],[33,61],[38,38],[124,124],[123],[125],[40],[41],[59],[44],[61],[43],[45],[42],[47],[37],[33],[60],[62]]
theorem sgn_len2:∀ k:Nat,k<6->∃ a b,L3.getD k []=[a,b]/\X0 a b=true:=by
 intro k hk;have:∀ k:Nat,k<6->(match L3.getD k [] with | [a,b]=>X0 a b|_=>false)=true:=by decide
 have:=this k hk;split at this
 ·rename_i a b e;exact ⟨a,b,e,this⟩
 ·cases this
theorem sgn_len1:∀ k:Nat,6<=k->k<21->∃ a,L3.getD k []=[a]/\A0k a=true:=by
 intro k h6 hk;have:∀ k:Nat,k<21->6<=k->(match L3.getD k [] with | [a]=>A0k a|_=>false)=true:=by decide
 have:=this k hk h6;split at this
 ·rename_i a e;exact ⟨a,e,this⟩
 ·cases this
theorem two_in {c d:UInt8} (h:X0 c d=true):∃ k,k<6/\L3.getD k []=[c,d]:=by
 rw [two_iff] at h;simp only [Bool.or_eq_true,beq_iff_eq] at h;rcases h with ((((h|h)|h)|h)|h)|h
 ·exact ⟨0,by omega,h.symm⟩
 ·exact ⟨1,by omega,h.symm⟩
 ·exact ⟨2,by omega,h.symm⟩
 ·exact ⟨3,by omega,h.symm⟩
 ·exact ⟨4,by omega,h.symm⟩
 ·exact ⟨5,by omega,h.symm⟩
theorem one_in {c:UInt8} (h:A0k c=true):∃ k,6<=k/\k<21/\L3.getD k []=[c]:=by
 have key:∀ n:Nat,n<256->A0k (UInt8.ofNat n)=true->∃ k,k<21/\6<=k/\L3.getD k []=[UInt8.ofNat n]:=by decide +kernel
 obtain ⟨k,h1,h2,h3⟩:=key c.toNat c.toNat_lt (by rw [UInt8.ofNat_toNat];exact h);rw [UInt8.ofNat_toNat] at h3;exact ⟨k,h2,h1,h3⟩
def A1q (l s:List UInt8):Bool:=decide (l.length<=s.length) && (s.take l.length == l)
theorem sgn_found {s:List UInt8} {k:Nat} (hk:k<21) (hno:∀ j,j<k->A1q (L3.getD j []) s=false) (h:A1q (L3.getD k []) s=true):D0 s=(L3.getD k []).length/\(L3.getD k [])=s.take (L3.getD k []).length:=by
 simp only [A1q,Bool.and_eq_true,decide_eq_true_eq,beq_iff_eq] at h;refine ⟨?_,h.2.symm⟩;by_cases h6:k<6
 ·obtain ⟨a,b,e,ht⟩:=sgn_len2 k h6;rw [e] at h ⊢
  match s,h with
  | [],h=>simp at h
  | [x],h=>simp at h
  | x :: y :: r,h =>
   simp at h;obtain ⟨rfl,rfl⟩:=h;simp [D0,ht]
 ·obtain ⟨a,e,ho⟩:=sgn_len1 k (by omega) hk;rw [e] at h ⊢
  match s,h with
  | [],h=>simp at h
  | [x],h =>
   simp at h;subst h;simp [D0,ho]
  | x :: y :: r,h =>
   simp at h;subst h;have h2:X0 x y=false:=by
    cases ht:X0 x y with
    | false=>rfl
    | true =>
     obtain ⟨j,hj,e2⟩:=two_in ht;have:=hno j (by omega);rw [e2] at this;simp [A1q] at this
   simp [D0,h2,ho]
theorem sgn_none {s:List UInt8} (hno:∀ j,j<21->A1q (L3.getD j []) s=false):D0 s=0:=by
 have h1:∀ x r,s=x :: r->A0k x=false:=by
  intro x r e;cases ho:A0k x with
  | false=>rfl
  | true =>
   obtain ⟨j, -,hj,e2⟩:=one_in ho;have:=hno j hj;rw [e2,e] at this;simp [A1q] at this
 match s,hno,h1 with
 | [],_,_=>rfl
 | [x],_,h1=>simp [D0,h1 x [] rfl]
 | x :: y :: r,hno,h1 =>
  have h2:X0 x y=false:=by
   cases ht:X0 x y with
   | false=>rfl
   | true =>
    obtain ⟨j,hj,e2⟩:=two_in ht;have:=hno j (by omega);rw [e2] at this;simp [A1q] at this
  simp [D0,h2,h1 x _ rfl]
end Go.Pb
namespace Go.Proofs.YtnmkkggfgdfmeaaGreatDoor
open Go.Eng (IC IOper DReg IFn A3)
open Go.Sym Go.Pb
theorem c_wordsR:PC Tryz.prog 154 [] (.lst (C4.map DV.str)):=by
 refine PC.of A6 isU154 (Nat.le_of_ble_eq_true rfl) rfl (L7 _) ?_;show IW Tryz.prog 2 u154_1 ⟨B4 _,_,_⟩ (rt [.tmp 0] _);repeat' ((with_reducible apply wr)<;>try simp only [go_sem,seval])
 exact A0h (xs:=C4.map DV.str) (u:=1) A0 rfl rfl (K0 _) ⟨[],rfl⟩
theorem c_signsR:PC Tryz.prog 113 [] (.lst (L3.map DV.str)):=by
 refine PC.of A6 isU113 (Nat.le_of_ble_eq_true rfl) rfl (L7 _) ?_;show IW Tryz.prog 2 u113_1 ⟨B4 _,_,_⟩ (rt [.tmp 0] _);repeat' ((with_reducible apply wr)<;>try simp only [go_sem,seval])
 exact A0h (xs:=L3.map DV.str) (u:=1) A0 rfl rfl (K0 _) ⟨[],rfl⟩
theorem c_IsWordR (s:List UInt8):PC Tryz.prog 140 [.str s] (.bool (G6 s)):=by
 refine PC.of A6 isU140 (Nat.le_of_ble_eq_true rfl) (by simp [DV.nlL,DV.nl]) (by simp [DV.nlL,DV.nl]) ?_;show IW Tryz.prog 18 u140_1 ⟨B4 _,_,_⟩ (rt [.tmp 2] _);have hw:=c_wordsR;repeat' ((with_reducible first|apply wr|refine cpc hw ?_|fail)<;>try simp only [go_sem,seval])
 refine C3 (fun k:Nat=>[(0,.str s),(3,.lst (C4.map DV.str)),(4,I64 k)]) (fun _=>nil) (fun k _=>k<=C4.length/\(C4.take k).contains s=false) (fun k=>C4.length-k) 0 (by simp [C1,tm,Tm.upd]) (Sub.nil _) (by simp) ?_;rintro k c ⟨hk,he⟩;have hlen:C4.length=38:=rfl;by_cases hlt:k<C4.length
 ·have hd:decide ((k:Int)<C4.length)=true:=by simpa using hlt
  have hg:=List.getElem?_eq_getElem hlt;have hw:IntKind.i64.wrap ((k:Int)+1)=((k+1:Nat):Int):=by rw [w64 (by omega) (by omega)];omega
  repeat' ((with_reducible first|refine wr ?_|refine wb2 ?_ ?_<;>(intro hb;try simp only [hb])|fail)<;>try simp only [go_sem,seval,hd,hg,hw])
  ·refine A4 (congrArg DV.bool ?_);have:s=C4[k]:=(beq_iff_eq.1 hb).symm;unfold G6;rw [List.contains_iff_mem.2 (by rw [this];exact List.getElem_mem hlt)]
  ·refine ⟨k+1,rfl,Sub.refl _,inv ⟨hlt,?_⟩,by omega⟩;rw [List.take_add_one,hg,List.contains_append,he];have:¬ s=C4[k]:=fun e=>by rw [e] at hb;simp at hb
   simpa using this
 ·have hd:decide ((k:Int)<C4.length)=false:=by simpa using hlt
  repeat' ((with_reducible apply wr)<;>try simp only [go_sem,seval,hd])
  refine A4 (congrArg DV.bool ?_);rw [List.take_of_length_le (by omega)] at he;exact he.symm
theorem c_skipR (s:List UInt8) (hs:s.length<=1000000000) (i:Nat) (hi:i<=s.length):PC Tryz.prog 70 [.str s,I64 i] (I64 ((i+skM false (s.drop i):Nat):Int)):=by
 refine PC.of A6 isU70 (Nat.le_of_ble_eq_true rfl) (by simp [DV.nlL,DV.nl]) (by simp [DV.nlL,DV.nl]) ?_;show IW Tryz.prog 45 u70_1 ⟨B4 _,_,_⟩ (rt [.tmp 4] _);repeat' ((with_reducible apply wr)<;>try simp only [go_sem,seval])
 refine C3 (fun k:Nat=>[(0,.str s),(1,I64 k)]) (fun _=>nil) (fun k _=>k<=s.length/\i+skM false (s.drop i)=k+skM false (s.drop k)) (fun k=>s.length-k) i (by simp [C1,tm,Tm.upd]) (Sub.nil _) ⟨hi,rfl⟩ ?_;rintro k c ⟨hk,he⟩;by_cases hlt:k<s.length
 ·have hd:decide ((k:Int)<s.length)=true:=by simpa using hlt
  have hg:=List.getElem?_eq_getElem hlt;have hw:=w64 (n:=(k:Int)+1) (by omega) (by omega);have hsep:T6 s[k]=true->∃ b,DV.int IntKind.i64 ((k:Int)+1)=I64 ((b:Nat):Int)/\Sym.Sub Sym.nil Sym.nil/\Keep (fun k _=>k<=s.length/\i+skM false (s.drop i)=k+skM false (s.drop k)) b c/\s.length-b<s.length-k :=
   fun h=>⟨k+1,rfl,Sub.refl _,inv ⟨by omega,by rw [he,sk_sep hg h];omega⟩,by omega⟩
  repeat' ((with_reducible first|refine wr ?_|refine wb2 ?_ ?_<;>(intro hb;try simp only [hb])|fail)<;>try simp only [go_sem,seval,hd,hg,hw])
  ·have h35:=bq_t (b:=35) hb;have h1:=sk_cmt1 hg h35;have h2:=sk_cmt hg h35;refine C3 (fun j:Nat=>[(0,.str s),(1,I64 ((k+j:Nat):Int))]) (fun _=>nil) (fun j _=>k+j<=s.length/\j<=B5 (fun c=>decide (c.toNat≠10)) (s.drop k)) (fun j=>s.length-(k+j)) 0 (by simp [C1,tm,Tm.upd]) (Sub.nil _) (by simp;omega) ?_;rintro j c ⟨hkj,hej⟩;have hend:B5 (fun c=>decide (c.toNat≠10)) (s.drop k)=j->∃ b,I64 ((k+j:Nat):Int)=I64 ((b:Nat):Int)/\Sym.Sub Sym.nil Sym.nil/\Keep (fun k _=>k<=s.length/\i+skM false (s.drop i)=k+skM false (s.drop k)) b c/\s.length-b<s.length-k:=by
    intro e;rw [e] at h1 h2;exact ⟨k+j,rfl,Sub.refl _,inv ⟨hkj,by rw [he,h2];omega⟩,by omega⟩
   by_cases hlt2:k+j<s.length
   ·have hd2:decide (((k+j:Nat):Int)<s.length)=true:=by simp;omega
    have hg2:=List.getElem?_eq_getElem hlt2;have hw2:IntKind.i64.wrap (((k+j:Nat):Int)+1)=((k+(j+1):Nat):Int):=by rw [w64 (by omega) (by omega)];omega
    have hst:=A3q hg2 hej;repeat' ((with_reducible first|refine wr ?_|refine wb2 ?_ ?_<;>(intro hb;try simp only [hb])|fail)<;>try simp only [go_sem,seval,hd2,hg2,hw2])
    ·exact ⟨j+1,rfl,Sub.refl _,inv ⟨hlt2,hst.1 (by simpa using bn_t (b:=10) hb)⟩,by omega⟩
    ·exact hend (hst.2 (by simpa using bn_f (b:=10) hb))
   ·have hd2:decide (((k+j:Nat):Int)<s.length)=false:=by simp;omega
    repeat' ((with_reducible apply wr)<;>try simp only [go_sem,seval,hd2])
    exact hend (A1j (by omega) hej)
  ·exact hsep (by simp [T6,bq_t (b:=9) hb])
  ·exact hsep (by simp [T6,bq_t (b:=10) hb])
  ·exact hsep (by simp [T6,bq_t (b:=13) hb])
  ·exact hsep (by simp [T6,bq_t (b:=32) hb])
  ·refine A4 ?_;have h9:=A2o (a:=s[k].toNat) (b:=9) (by assumption);have h10:=A2o (a:=s[k].toNat) (b:=10) (by assumption);have h13:=A2o (a:=s[k].toNat) (b:=13) (by assumption);have h32:=A2o (a:=s[k].toNat) (b:=32) (by assumption);have h35:=A2o (a:=s[k].toNat) (b:=35) (by assumption);rw [he,sk_stop hg (by simp [T6,h9,h10,h13,h32]) h35];simp
 ·have hd:decide ((k:Int)<s.length)=false:=by simpa using hlt
  repeat' ((with_reducible apply wr)<;>try simp only [go_sem,seval,hd])
  refine A4 ?_;rw [he,sk_end (by omega)];simp
theorem c_wordR (s:List UInt8) (hs:s.length<=1000000000) (i:Nat) (hi:i<s.length) (hl:ltB s[i]=true):PC Tryz.prog 109 [.str s,I64 i] (nxR (A5 (s.drop i)) i):=by
 have hM:A5 (s.drop i)=if 12<B5 ptB (s.drop i) then nxE 9 else ⟨if G6 ((s.drop i).take (B5 ptB (s.drop i)))=true then 2 else 1,(s.drop i).take (B5 ptB (s.drop i)),0,B5 ptB (s.drop i),0⟩:=by
  rw [I3 (List.getElem?_eq_getElem hi),A5,if_pos hl]
 rw [hM];have hle:=V2 ptB (s.drop i);rw [List.length_drop] at hle;refine PC.of A6 isU109 (Nat.le_of_ble_eq_true rfl) rfl (nxR_nl _ _) ?_;show IW Tryz.prog 52 u109_1 ⟨B4 _,_,_⟩ (rt [.cell 4 4 true,.tmp 5,.tmp 6] _);repeat' ((with_reducible apply wr)<;>try simp only [go_sem,seval])
 refine C3 (fun j:Nat=>[(0,.str s),(1,I64 i),(4,.ptr 0 0),(7,I64 ((i+j:Nat):Int))]) (fun _=>Sym.nil.upd 0 ⟨0,true,[I64 0,.str [],I64 0,I64 0]⟩) (fun j cc=>1<=cc/\i+j<=s.length/\j<=B5 ptB (s.drop i)) (fun j=>s.length-(i+j)) 0 (by simp [C1,tm,Tm.upd]) (Sub.refl _) (by simp;omega) ?_;rintro j c ⟨h1c,hk,he⟩;have hw2:IntKind.i64.wrap (((i+j:Nat):Int)-i)=(j:Int):=by rw [w64 (by omega) (by omega)];omega
 have hsx:=slx_take hk;have hiw:=c_IsWordR ((s.drop i).take j);have hR9:B5 ptB (s.drop i)=j->12<j->O5 9 i=nxR (if 12<B5 ptB (s.drop i) then nxE 9 else ⟨if G6 ((s.drop i).take (B5 ptB (s.drop i)))=true then 2 else 1,(s.drop i).take (B5 ptB (s.drop i)),0,B5 ptB (s.drop i),0⟩) i:=by
  intro e h;rw [e,if_pos h,A0x (by decide)]
 have hRw:B5 ptB (s.drop i)=j->¬ 12<j->G6 ((s.drop i).take j)=true->okN 2 ((s.drop i).take j) 0 i j=nxR (if 12<B5 ptB (s.drop i) then nxE 9 else ⟨if G6 ((s.drop i).take (B5 ptB (s.drop i)))=true then 2 else 1,(s.drop i).take (B5 ptB (s.drop i)),0,B5 ptB (s.drop i),0⟩) i:=by
  intro e h h2;rw [e,if_neg h,A3w,if_pos h2]
 have hRn:B5 ptB (s.drop i)=j->¬ 12<j->G6 ((s.drop i).take j)=false->okN 1 ((s.drop i).take j) 0 i j=nxR (if 12<B5 ptB (s.drop i) then nxE 9 else ⟨if G6 ((s.drop i).take (B5 ptB (s.drop i)))=true then 2 else 1,(s.drop i).take (B5 ptB (s.drop i)),0,B5 ptB (s.drop i),0⟩) i:=by
  intro e h h2;rw [e,if_neg h,A3w,if_neg (by rw [h2];simp)]
 by_cases hlt:i+j<s.length
 ·have hd:decide (((i+j:Nat):Int)<s.length)=true:=by simp;omega
  have hg:=List.getElem?_eq_getElem hlt;have hw:IntKind.i64.wrap (((i+j:Nat):Int)+1)=((i+(j+1):Nat):Int):=by rw [w64 (by omega) (by omega)];omega
  have h1:=c_letterR s[i+j];have h2:=c_digitR s[i+j];have hst:=A3q hg he;have hlp:ptB s[i+j]=true->∃ b,DV.int IntKind.i64 ((i+(j+1):Nat):Int)=I64 ((i+b:Nat):Int)/\Sym.Sub (Sym.nil.upd 0 ⟨0,true,[I64 0,.str [],I64 0,I64 0]⟩) (Sym.nil.upd 0 ⟨0,true,[I64 0,.str [],I64 0,I64 0]⟩) /\
    Keep (fun j cc=>1<=cc/\i+j<=s.length/\j<=B5 ptB (s.drop i)) b c/\s.length-(i+b)<s.length-(i+j) :=
   fun h=>⟨j+1,rfl,Sub.refl _,inv ⟨h1c,hlt,hst.1 h⟩,by omega⟩
  have ne0:=M8 c 0 (by omega);repeat' ((with_reducible first|refine wr ?_|refine cpc h1 ?_|refine cpc h2 ?_|refine cpc hiw ?_|refine wb2 ?_ ?_<;>(intro hb;try simp only [hb])|fail)<;>try simp only [go_sem,seval,hd,hg,hw,hw2,hsx,ne0])
  ·exact hlp (by simp [ptB,hb])
  ·exact hlp (by simp [ptB,hb])
  ·exact hlp (by simp [ptB,bq_t (b:=95) hb])
  ·have hj:=hst.2 (by simp only [ptB];rw [‹ltB s[i+j]=false›, ‹dgB s[i+j]=false›];simpa using A2o (a:=s[i+j].toNat) (b:=95) (by assumption));rw [C7 (v:=O5 9 i) rfl];exact A4 (hR9 hj (gt_t hb))
  ·have hj:=hst.2 (by simp only [ptB];rw [‹ltB s[i+j]=false›, ‹dgB s[i+j]=false›];simpa using A2o (a:=s[i+j].toNat) (b:=95) (by assumption));rw [C7 (v:=okN 2 ((s.drop i).take j) 0 i j) rfl];exact A4 (hRw hj (A5d (a:=j) (b:=12) (by assumption)) hb)
  ·have hj:=hst.2 (by simp only [ptB];rw [‹ltB s[i+j]=false›, ‹dgB s[i+j]=false›];simpa using A2o (a:=s[i+j].toNat) (b:=95) (by assumption));rw [C7 (v:=okN 1 ((s.drop i).take j) 0 i j) rfl];exact A4 (hRn hj (A5d (a:=j) (b:=12) (by assumption)) hb)
 ·have hd:decide (((i+j:Nat):Int)<s.length)=false:=by simp;omega
  have hj:=A1j (p:=ptB) (s:=s) (by omega) he;have ne0:=M8 c 0 (by omega);repeat' ((with_reducible first|refine wr ?_|refine cpc hiw ?_|refine wb2 ?_ ?_<;>(intro hb;try simp only [hb])|fail)<;>try simp only [go_sem,seval,hd,hw2,hsx,ne0])
  ·rw [C7 (v:=O5 9 i) rfl];exact A4 (hR9 hj (gt_t hb))
  ·rw [C7 (v:=okN 2 ((s.drop i).take j) 0 i j) rfl];exact A4 (hRw hj (A5d (a:=j) (b:=12) (by assumption)) hb)
  ·rw [C7 (v:=okN 1 ((s.drop i).take j) 0 i j) rfl];exact A4 (hRn hj (A5d (a:=j) (b:=12) (by assumption)) hb)
theorem c_numberR (s:List UInt8) (hs:s.length<=1000000000) (i:Nat) (hi:i<s.length) (hl:ltB s[i]=false) (hg0:dgB s[i]=true):PC Tryz.prog 111 [.str s,I64 i] (nxR (A5 (s.drop i)) i):=by
 have hM:A5 (s.drop i)=if 1<B5 dgB (s.drop i)/\s[i].toNat=48 then nxE 47
   else if 2147483647<S5 ((s.drop i).take (B5 dgB (s.drop i))) then nxE 5
   else ⟨3,[],(S5 ((s.drop i).take (B5 dgB (s.drop i))):Int),B5 dgB (s.drop i),0⟩:=by
  have hdr:=I3 (List.getElem?_eq_getElem hi);have:∀ r,s.drop i=s[i] :: r->A5 (s.drop i)=if 1<B5 dgB (s.drop i)/\s[i].toNat=48 then nxE 47
   else if 2147483647<S5 ((s.drop i).take (B5 dgB (s.drop i))) then nxE 5
   else ⟨3,[],(S5 ((s.drop i).take (B5 dgB (s.drop i))):Int),B5 dgB (s.drop i),0⟩:=by
   intro r e;rw [e,A5,if_neg (by rw [hl];simp),if_pos hg0]
  exact this _ hdr
 have hle:=V2 dgB (s.drop i);rw [List.length_drop] at hle;obtain ⟨D,hD⟩:∃ D,D=s.drop i:=⟨_,rfl⟩;refine PC.of A6 isU111 (Nat.le_of_ble_eq_true rfl) rfl (nxR_nl _ _) ?_;show IW Tryz.prog 58 u111_1 ⟨B4 _,_,_⟩ (rt [.cell 4 4 true,.tmp 5,.tmp 6] _);repeat' ((with_reducible apply wr)<;>try simp only [go_sem,seval])
 refine C3 (fun j:Nat=>[(0,.str s),(1,I64 i),(4,.ptr 0 0),(7,I64 ((i+j:Nat):Int)),(8,I64 (smV (D.take j))),(9,.bool (A7r (D.take j)))]) (fun _=>Sym.nil.upd 0 ⟨0,true,[I64 0,.str [],I64 0,I64 0]⟩) (fun j _=>i+j<=s.length/\j<=B5 dgB (s.drop i)) (fun j=>s.length-(i+j)) 0 (by simp [C1,tm,Tm.upd,smV,A7r,S5]) (Sub.refl _) (by simp;omega) ?_;rintro j c ⟨hk,he⟩;have hw2:IntKind.i64.wrap (((i+j:Nat):Int)-i)=(j:Int):=by rw [w64 (by omega) (by omega)];omega
 have hgi:=List.getElem?_eq_getElem hi;have hRz:B5 dgB (s.drop i)=j->1<j->s[i].toNat=48->O5 47 i=nxR (A5 (s.drop i)) i:=by
  intro e h h2;rw [hM,e,if_pos ⟨h,h2⟩,A0x (by decide)]
 have hRb:B5 dgB (s.drop i)=j->¬ (1<j/\s[i].toNat=48)->A7r (D.take j)=true->O5 5 i=nxR (A5 (s.drop i)) i:=by
  intro e h h2;rw [hM,e,if_neg h, <- hD,if_pos (of_decide_eq_true h2),A0x (by decide)]
 have hRk:B5 dgB (s.drop i)=j->¬ (1<j/\s[i].toNat=48)->A7r (D.take j)=false->okN 3 [] (smV (D.take j)) i j=nxR (A5 (s.drop i)) i:=by
  intro e h h2;have h3:=of_decide_eq_false h2;rw [hM,e,if_neg h, <- hD,if_neg h3,A3w,smV_f h3]
 by_cases hlt:i+j<s.length
 ·have hd:decide (((i+j:Nat):Int)<s.length)=true:=by simp;omega
  have hg:=List.getElem?_eq_getElem hlt;have hw:IntKind.i64.wrap (((i+j:Nat):Int)+1)=((i+(j+1):Nat):Int):=by rw [w64 (by omega) (by omega)];omega
  have h2:=c_digitR s[i+j];have hst:=A3q hg he;by_cases hdg:dgB s[i+j]=true
  ·rw [hdg] at h2;have hgD:D[j]? = some s[i+j]:=by rw [hD,List.getElem?_drop];exact hg
   have hn:=numV_step hgD;have hdd:48<=s[i+j].toNat/\s[i+j].toNat<=57:=by simpa [dgB] using hdg
   obtain ⟨z,hz⟩:∃ z:Nat,z=s[i+j].toNat-48:=⟨_,rfl⟩;rw [<- hz] at hn;have w1:IntKind.i64.wrap (10 * (smV (D.take j):Int))=((10 * smV (D.take j):Nat):Int):=by have:=smV_le (D.take j);rw [w64 (by omega) (by omega)];omega
   have w2:IntKind.u8.wrap ((s[i+j].toNat:Int)-48)=(z:Int):=by rw [wu8 (by omega) (by omega)];omega
   have w3:IntKind.i64.wrap (z:Int)=(z:Int):=w64 (by omega) (by omega);have w4:IntKind.i64.wrap (((10 * smV (D.take j):Nat):Int)+z)=((10 * smV (D.take j)+z:Nat):Int):=by have:=smV_le (D.take j);rw [w64 (by omega) (by omega)];omega
   by_cases hbg:2147483647<S5 (D.take j)
   ·have hb1:A7r (D.take j)=true:=decide_eq_true hbg;have e1:A7r (D.take (j+1))=true:=decide_eq_true (by omega);have e2:smV (D.take (j+1))=0:=smV_t (by omega);rw [hb1];repeat' ((with_reducible first|apply wr|refine cpc h2 ?_|fail)<;>try simp only [go_sem,seval,hd,hg,hw,w1,w2,w3,w4])
    exact ⟨j+1,⟨rfl,by rw [e2];rfl,by rw [e1]⟩,Sub.refl _,inv ⟨hlt,hst.1 hdg⟩,by omega⟩
   ·have hb1:A7r (D.take j)=false:=decide_eq_false hbg;have hs1:=smV_f hbg;rw [hb1];by_cases hbn:2147483647<S5 (D.take (j+1))
    ·have e1:A7r (D.take (j+1))=true:=decide_eq_true hbn;have e2:smV (D.take (j+1))=0:=smV_t hbn;have hd5:decide (((10 * smV (D.take j)+z:Nat):Int)>2147483647)=true:=by simp only [decide_eq_true_eq];omega
     repeat' ((with_reducible first|apply wr|refine cpc h2 ?_|fail)<;>try simp only [go_sem,seval,hd,hg,hw,w1,w2,w3,w4,hd5])
     exact ⟨j+1,⟨rfl,by rw [e2];rfl,by rw [e1]⟩,Sub.refl _,inv ⟨hlt,hst.1 hdg⟩,by omega⟩
    ·have e1:A7r (D.take (j+1))=false:=decide_eq_false hbn;have e2:smV (D.take (j+1))=10 * smV (D.take j)+z:=by rw [smV_f hbn,hn,hs1]
     have hd5:decide (((10 * smV (D.take j)+z:Nat):Int)>2147483647)=false:=by simp only [decide_eq_false_iff_not];omega
     repeat' ((with_reducible first|apply wr|refine cpc h2 ?_|fail)<;>try simp only [go_sem,seval,hd,hg,hw,w1,w2,w3,w4,hd5])
     exact ⟨j+1,⟨rfl,by rw [e2],by rw [e1]⟩,Sub.refl _,inv ⟨hlt,hst.1 hdg⟩,by omega⟩
  ·have hdg0:dgB s[i+j]=false:=by simpa using hdg
   rw [hdg0] at h2;have hj:=hst.2 hdg0;repeat' ((with_reducible first|refine wr ?_|refine cpc h2 ?_|refine wb2 ?_ ?_<;>(intro hb;try simp only [hb])|fail)<;>try simp only [go_sem,seval,hd,hg,hw2,hgi])
   ·rw [C7 (v:=O5 47 i) rfl];exact A4 (hRz hj (gt_t hb) (bq_t (b:=48) (by assumption)))
   ·rw [C7 (v:=O5 5 i) rfl];exact A4 (hRb hj (fun h=>A5d (a:=j) (b:=1) (by assumption) h.1) hb)
   ·rw [C7 (v:=okN 3 [] (smV (D.take j)) i j) rfl];exact A4 (hRk hj (fun h=>A5d (a:=j) (b:=1) (by assumption) h.1) hb)
   ·rw [C7 (v:=O5 5 i) rfl];exact A4 (hRb hj (fun h=>A2o (b:=48) (by assumption) h.2) hb)
   ·rw [C7 (v:=okN 3 [] (smV (D.take j)) i j) rfl];exact A4 (hRk hj (fun h=>A2o (b:=48) (by assumption) h.2) hb)
 ·have hd:decide (((i+j:Nat):Int)<s.length)=false:=by simp;omega
  have hj:=A1j (p:=dgB) (s:=s) (by omega) he;repeat' ((with_reducible first|refine wr ?_|refine wb2 ?_ ?_<;>(intro hb;try simp only [hb])|fail)<;>try simp only [go_sem,seval,hd,hw2,hgi])
  ·rw [C7 (v:=O5 47 i) rfl];exact A4 (hRz hj (gt_t hb) (bq_t (b:=48) (by assumption)))
  ·rw [C7 (v:=O5 5 i) rfl];exact A4 (hRb hj (fun h=>A5d (a:=j) (b:=1) (by assumption) h.1) hb)
  ·rw [C7 (v:=okN 3 [] (smV (D.take j)) i j) rfl];exact A4 (hRk hj (fun h=>A5d (a:=j) (b:=1) (by assumption) h.1) hb)
  ·rw [C7 (v:=O5 5 i) rfl];exact A4 (hRb hj (fun h=>A2o (b:=48) (by assumption) h.2) hb)
  ·rw [C7 (v:=okN 3 [] (smV (D.take j)) i j) rfl];exact A4 (hRk hj (fun h=>A2o (b:=48) (by assumption) h.2) hb)
theorem c_quotedR (s:List UInt8) (hs:s.length<=100000) (i:Nat) (hi:i<s.length):PC Tryz.prog 112 [.str s,I64 i] (quR i (quA [] (i+1) (quM (s.drop (i+1))))):=by
 refine PC.of A6 isU112 (Nat.le_of_ble_eq_true rfl) rfl (quR_nl _ _) ?_;show IW Tryz.prog 76 u112_1 ⟨B4 _,_,_⟩ (rt [.cell 4 4 true,.tmp 5,.tmp 6] _);have hw0:IntKind.i64.wrap ((i:Int)+1)=((i+1:Nat):Int):=by rw [w64 (by omega) (by omega)];omega
 repeat' ((with_reducible apply wr)<;>try simp only [go_sem,seval,hw0])
 refine C3 (fun q:Nat × Option Nat × List UInt8=>[(0,.str s),(1,I64 i),(4,.ptr 0 0),(7,C0 q.2.1 q.2.2.length),(8,I64 q.1)]) (fun q=>D2 (Sym.nil.upd 0 box4) q.2.1 ⟨1,true,bytesC q.2.2⟩)
  (fun q c=>1<=c/\i+1<=q.1/\q.2.2.length<=q.1/\q.1<=s.length+1/\(q.2.1=none->q.2.2=[])/\(∀ i,q.2.1=some i->1<=i/\i<c)/\quA [] (i+1) (quM (s.drop (i+1)))=quA q.2.2 q.1 (quM (s.drop q.1))) (fun q=>s.length+1-q.1) (i+1,none,[])
  (by simp [C1,tm,Tm.upd,C0]) (Sub.refl _) ⟨by simp,by simp,by simp,by simp only;omega,fun _=>rfl,(fun i hi=>by cases hi),rfl⟩ ?_
 rintro ⟨k,o,acc⟩ c ⟨h1c,h1,hal,hk,hno,ho,he⟩;simp only at h1 hal hk hno ho he;simp only;rw [he];have hH0:D2 (Sym.nil.upd 0 box4) o ⟨1,true,bytesC acc⟩ 0=some ⟨0,true,[I64 0,.str [],I64 0,I64 0]⟩:=by rw [D9 (fun i hi=>by have:=ho i hi;omega),A0];rfl
 have hlt0:=r_lentodo (o:=o) (n:=acc.length) (fun e=>by rw [hno e];rfl);by_cases hlt:k<s.length
 ·have hd:decide ((k:Int)<s.length)=true:=by simpa using hlt
  have hg:=List.getElem?_eq_getElem hlt;have hw:IntKind.i64.wrap ((k:Int)+1)=((k+1:Nat):Int):=by rw [w64 (by omega) (by omega)];omega
  have hw2:IntKind.i64.wrap (((k+1:Nat):Int)+1)=((k+2:Nat):Int):=by rw [w64 (by omega) (by omega)];omega
  have hcv:=r_cvtodo (H:=D2 (Sym.nil.upd 0 box4) o ⟨1,true,bytesC acc⟩) (u:=1) hno (fun i hi=>by subst hi;exact A0);have hc0:∀ n:Nat,((s[k].toNat:Int) == (n:Int))=true->s[k].toNat=n:=fun n h=>by have:=beq_iff_eq.1 h;omega
  have hc1:∀ n:Nat,((s[k].toNat:Int) == (n:Int))=false->s[k].toNat≠n:=fun n h h2=>by rw [h2] at h;simp at h
  by_cases hlt2:k+1<s.length
  ·have hd2:decide (((k+1:Nat):Int)≥s.length)=false:=by simp;omega
   have hg2:=List.getElem?_eq_getElem hlt2;have hc2:∀ n:Nat,((s[k+1].toNat:Int) == (n:Int))=true->s[k+1].toNat=n:=fun n h=>by have:=beq_iff_eq.1 h;omega
   have hc3:∀ n:Nat,((s[k+1].toNat:Int) == (n:Int))=false->s[k+1].toNat≠n:=fun n h h2=>by rw [h2] at h;simp at h
   have ne0:=T8 c (c+1) 0 (by omega);have hap:=r_apbyte (X:=Sym.nil.upd 0 box4) hno (fun i hi=>(ho i hi).2) (by omega);repeat' ((with_reducible first|refine wr ?_|refine wb2 ?_ ?_<;>(intro hb;try simp only [hb])|fail)<;>try simp only [go_sem,seval,hd,hg,hw,hcv,hlt0,hd2,hg2,hw2,ne0,hap,hH0])
   ·rw [C7 (v:=O5 9 i) rfl];refine A4 ?_;rw [A0u hg (hc0 34 (by assumption)),quR,if_pos (gt_t hb)]
   ·rw [C7 (v:=.tup [.agg [I64 4,.str acc,I64 0,I64 i],I64 ((k+1:Nat):Int),I64 0]) rfl];refine A4 ?_;rw [A0u hg (hc0 34 (by assumption)),quR,if_neg (A5d hb)]
   ·rw [C7 (v:=O5 48 i) rfl];refine A4 ?_;rw [A6u hg (hc1 34 (by assumption)) (.inl (by have:=of_decide_eq_true hb;omega))];rfl
   ·rw [C7 (v:=O5 48 i) rfl];refine A4 ?_;rw [A6u hg (hc1 34 (by assumption)) (.inr (by have:=of_decide_eq_true hb;omega))];rfl
   ·rw [C7 (v:=O5 48 i) rfl];refine A4 ?_;rw [qu_esc0 hg (hc0 92 (by assumption)) (fun d hd=>by
     rw [hg2] at hd;cases hd;exact ⟨bn_t (b:=34) (by assumption),bn_t (b:=92) hb⟩)];rfl
   ·have hq:=qu_esc (acc:=acc) hg (hc0 92 (by assumption)) hg2 (.inr (bn_f (b:=92) hb));exact ⟨(k+2,some (c+1),acc++[s[k+1]]),⟨by simp only [List.length_append,List.length_singleton];rfl,rfl⟩,A2u (fun j q=>A2s h1c) (fun i hi=>A2r (by have:=ho i hi;omega)) rfl,inv ⟨by omega,by simp only;omega,by simp;omega,by simp only;omega,(fun h=>by cases h),(fun i hi=>by cases hi;omega),hq⟩,by simp only;omega⟩
   ·have hq:=qu_esc (acc:=acc) hg (hc0 92 (by assumption)) hg2 (.inl (bn_f (b:=34) hb));exact ⟨(k+2,some (c+1),acc++[s[k+1]]),⟨by simp only [List.length_append,List.length_singleton];rfl,rfl⟩,A2u (fun j q=>A2s h1c) (fun i hi=>A2r (by have:=ho i hi;omega)) rfl,inv ⟨by omega,by simp only;omega,by simp;omega,by simp only;omega,(fun h=>by cases h),(fun i hi=>by cases hi;omega),hq⟩,by simp only;omega⟩
   ·have hq:=qu_char (acc:=acc) hg (hc1 34 (by assumption)) (by have:=of_decide_eq_false (by assumption:decide (((s[k].toNat:Int))<32)=false);omega) (by have:=of_decide_eq_false (by assumption:decide (((s[k].toNat:Int))>126)=false);omega) (hc1 92 (by assumption));exact ⟨(k+1,some (c+1),acc++[s[k]]),⟨by simp only [List.length_append,List.length_singleton];rfl,rfl⟩,A2u (fun j q=>A2s h1c) (fun i hi=>A2r (by have:=ho i hi;omega)) rfl,inv ⟨by omega,by simp only;omega,by simp;omega,by simp only;omega,(fun h=>by cases h),(fun i hi=>by cases hi;omega),hq⟩,by simp only;omega⟩
  ·have hd2:decide (((k+1:Nat):Int)≥s.length)=true:=by simp;omega
   have ne0:=T8 c (c+1) 0 (by omega);have hap:=r_apbyte (X:=Sym.nil.upd 0 box4) hno (fun i hi=>(ho i hi).2) (by omega);repeat' ((with_reducible first|refine wr ?_|refine wb2 ?_ ?_<;>(intro hb;try simp only [hb])|fail)<;>try simp only [go_sem,seval,hd,hg,hw,hcv,hlt0,hd2,ne0,hap,hH0])
   ·rw [C7 (v:=O5 9 i) rfl];refine A4 ?_;rw [A0u hg (hc0 34 (by assumption)),quR,if_pos (gt_t hb)]
   ·rw [C7 (v:=.tup [.agg [I64 4,.str acc,I64 0,I64 i],I64 ((k+1:Nat):Int),I64 0]) rfl];refine A4 ?_;rw [A0u hg (hc0 34 (by assumption)),quR,if_neg (A5d hb)]
   ·rw [C7 (v:=O5 48 i) rfl];refine A4 ?_;rw [A6u hg (hc1 34 (by assumption)) (.inl (by have:=of_decide_eq_true hb;omega))];rfl
   ·rw [C7 (v:=O5 48 i) rfl];refine A4 ?_;rw [A6u hg (hc1 34 (by assumption)) (.inr (by have:=of_decide_eq_true hb;omega))];rfl
   ·rw [C7 (v:=O5 48 i) rfl];refine A4 ?_;rw [qu_esc0 hg (hc0 92 (by assumption)) (fun d hd=>by rw [List.getElem?_eq_none (by omega)] at hd;cases hd)];rfl
   ·have hq:=qu_char (acc:=acc) hg (hc1 34 (by assumption)) (by have:=of_decide_eq_false (by assumption:decide (((s[k].toNat:Int))<32)=false);omega) (by have:=of_decide_eq_false (by assumption:decide (((s[k].toNat:Int))>126)=false);omega) (hc1 92 (by assumption));exact ⟨(k+1,some (c+1),acc++[s[k]]),⟨by simp only [List.length_append,List.length_singleton];rfl,rfl⟩,A2u (fun j q=>A2s h1c) (fun i hi=>A2r (by have:=ho i hi;omega)) rfl,inv ⟨by omega,by simp only;omega,by simp;omega,by simp only;omega,(fun h=>by cases h),(fun i hi=>by cases hi;omega),hq⟩,by simp only;omega⟩
 ·have hd:decide ((k:Int)<s.length)=false:=by simpa using hlt
  have ne0:=M8 c 0 (by omega);repeat' ((with_reducible apply wr)<;>try simp only [go_sem,seval,hd,ne0,hH0])
  rw [C7 (v:=O5 48 i) rfl];refine A4 ?_;rw [qu_end (by omega)];rfl
theorem c_oneR (s:List UInt8) (hs:s.length<=100000) (i:Nat) (hi:i<s.length):PC Tryz.prog 71 [.str s,I64 i] (nxR (A5 (s.drop i)) i):=by
 refine PC.of A6 isU71 (Nat.le_of_ble_eq_true rfl) rfl (nxR_nl _ _) ?_;show IW Tryz.prog 83 u71_1 ⟨B4 _,_,_⟩ (rt [.cell 4 4 true,.tmp 5,.tmp 6] _);have hg:=List.getElem?_eq_getElem hi;have hlt:=c_letterR s[i];have hdg:=c_digitR s[i];obtain ⟨k,t,v,p,n,e,hsh⟩:=nxR_shape (A5 (s.drop i)) i;by_cases hl:ltB s[i]=true
 ·have hw:=c_wordR s (by omega) i hi hl;rw [hsh] at hw ⊢;repeat' ((with_reducible first|apply wr|refine cpc hlt ?_|refine cpc hw ?_|fail)<;>try simp only [go_sem,seval,hl,hg])
  rw [C7 (v:=.tup [.agg [I64 k,.str t,I64 v,I64 p],I64 n,I64 e]) rfl];exact A4 rfl
 have hl0:ltB s[i]=false:=by simpa using hl
 by_cases hd:dgB s[i]=true
 ·have hw:=c_numberR s (by omega) i hi hl0 hd;rw [hsh] at hw ⊢;repeat' ((with_reducible first|apply wr|refine cpc hlt ?_|refine cpc hdg ?_|refine cpc hw ?_|fail)<;>try simp only [go_sem,seval,hl0,hd,hg])
  rw [C7 (v:=.tup [.agg [I64 k,.str t,I64 v,I64 p],I64 n,I64 e]) rfl];exact A4 rfl
 have hd0:dgB s[i]=false:=by simpa using hd
 by_cases hq:s[i].toNat=34
 ·have hw:=c_quotedR s hs i hi;rw [quR_next hg hl0 hd0 hq,hsh] at hw;rw [hsh];have hb34:((s[i].toNat:Int) == 34)=true:=by rw [hq];rfl
  repeat' ((with_reducible first|apply wr|refine cpc hlt ?_|refine cpc hdg ?_|refine cpc hw ?_|fail)<;>try simp only [go_sem,seval,hl0,hd0,hg,hb34])
  rw [C7 (v:=.tup [.agg [I64 k,.str t,I64 v,I64 p],I64 n,I64 e]) rfl];exact A4 rfl
 clear hsh;have hb34:((s[i].toNat:Int) == 34)=false:=by simpa using (fun h=>hq (by omega))
 have hM:A5 (s.drop i)=if D0 (s.drop i)=0 then nxE 47 else ⟨5,(s.drop i).take (D0 (s.drop i)),0,D0 (s.drop i),0⟩:=by
  have hdr:=I3 hg;have:∀ r,s.drop i=s[i] :: r->A5 (s.drop i)=if D0 (s.drop i)=0 then nxE 47 else ⟨5,(s.drop i).take (D0 (s.drop i)),0,D0 (s.drop i),0⟩:=by
   intro r e;rw [e,A5,if_neg hl,if_neg hd,if_neg hq]
  exact this _ hdr
 rw [hM];have hsg:=c_signsR;repeat' ((with_reducible first|apply wr|refine cpc hlt ?_|refine cpc hdg ?_|refine cpc hsg ?_|fail)<;>try simp only [go_sem,seval,hl0,hd0,hg,hb34])
 have hlen:L3.length=21:=rfl;refine C3 (fun k:Nat=>[(0,.str s),(1,I64 i),(4,.ptr 0 0),(8,.lst (L3.map DV.str)),(9,I64 k)]) (fun _=>Sym.nil.upd 0 ⟨0,true,[I64 0,.str [],I64 0,I64 0]⟩) (fun k _=>k<=L3.length/\∀ j,j<k->A1q (L3.getD j []) (s.drop i)=false) (fun k=>L3.length-k) 0 (by simp [C1,tm,Tm.upd]) (Sub.refl _) (by simp) ?_;rintro k c ⟨hk,he⟩;by_cases hkl:k<L3.length
 ·have hd:decide ((k:Int)<L3.length)=true:=by simpa using hkl
  have hgk:=List.getElem?_eq_getElem hkl;have hget:L3.getD k []=L3[k]:=by rw [List.getD_eq_getElem?_getD,hgk];rfl
  have hw:IntKind.i64.wrap ((k:Int)+1)=((k+1:Nat):Int):=by rw [w64 (by omega) (by omega)];omega
  obtain ⟨L,hL⟩:∃ L,L=L3[k]:=⟨_,rfl⟩;rw [<- hL] at hgk hget;have hLl:1<=L.length/\L.length<=2:=by
   have:∀ x∈L3,1<=x.length/\x.length<=2:=by decide
   rw [hL];exact this _ (List.getElem_mem hkl)
  have hw1:IntKind.i64.wrap ((s.length:Int)-i)=((s.length-i:Nat):Int):=by rw [w64 (by omega) (by omega)];omega
  have hw2:IntKind.i64.wrap ((i:Int)+L.length)=((i+L.length:Nat):Int):=by rw [w64 (by omega) (by omega)];omega
  have hnext:A1q L (s.drop i)=false->Keep (fun k _=>k<=L3.length/\∀ j,j<k->A1q (L3.getD j []) (s.drop i)=false) (k+1) c:=fun h=>inv ⟨hkl,fun j hj=>by
   by_cases e:j=k
   ·rw [e,hget];exact h
   ·exact he j (by omega)⟩
  by_cases hln:L.length<=s.length-i
  ·have hd2:decide (((s.length-i:Nat):Int)≥L.length)=true:=by simp only [decide_eq_true_eq];omega
   have hsx:=slx_take (s:=s) (i:=i) (n:=L.length) (by omega);have hpr:A1q L (s.drop i)=((s.drop i).take L.length == L):=by
    unfold A1q;rw [decide_eq_true (by rw [List.length_drop];exact hln),Bool.true_and]
   repeat' ((with_reducible first|refine wr ?_|refine wb2 ?_ ?_<;>(intro hb;try simp only [hb])|fail)<;>try simp only [go_sem,seval,hd,hgk,hw,hw1,hw2,hd2,hsx])
   ·have hp:=hpr.trans hb;have:=sgn_found (s:=s.drop i) (k:=k) (by omega) he (by rw [hget];exact hp);rw [hget] at this;rw [C7 (v:=okN 5 L 0 i L.length) rfl];refine A4 ?_;rw [this.1,if_neg (by omega),A3w, <- this.2]
   ·exact ⟨k+1,rfl,Sub.refl _,hnext (hpr.trans hb),by omega⟩
  ·have hd2:decide (((s.length-i:Nat):Int)≥L.length)=false:=by simp only [decide_eq_false_iff_not];omega
   repeat' ((with_reducible apply wr)<;>try simp only [go_sem,seval,hd,hgk,hw,hw1,hd2])
   exact ⟨k+1,rfl,Sub.refl _,hnext (by unfold A1q;rw [decide_eq_false (by rw [List.length_drop];exact hln),Bool.false_and]),by omega⟩
 ·have hd:decide ((k:Int)<L3.length)=false:=by simpa using hkl
  repeat' ((with_reducible apply wr)<;>try simp only [go_sem,seval,hd])
  rw [C7 (v:=O5 47 i) rfl];refine A4 ?_;rw [if_pos (sgn_none fun j hj=>he j (by omega)),A0x (by decide)]
theorem c_ScanR (s:List UInt8) (hs:s.length<=1000000000):PC Tryz.prog 36 [.str s] (scanV (D5 s)):=by
 refine PC.of A6 isU36 (Nat.le_of_ble_eq_true rfl) rfl (scanV_nl _) ?_;show IW Tryz.prog 39 u36_1 ⟨B4 _,_,_⟩ (rt [.tmp 2,.tmp 3,.tmp 4] _);have hsk:=c_skipR s hs 0 (by omega);rw [List.drop_zero,Nat.zero_add] at hsk;by_cases h20:20000<s.length
 ·have hd0:decide ((s.length:Int)>20000)=true:=by simp;omega
  have hM:D5 s=([],0,9):=if_pos h20;rw [hM];repeat' ((with_reducible apply wr)<;>try simp only [go_sem,seval,hd0])
  exact scan_nil
 have hd0:decide ((s.length:Int)>20000)=false:=by simp;omega
 have hM:D5 s=L4 (s.length+1) s (skM false s) []:=if_neg h20;rw [hM];have hle0:=V3 false s;repeat' ((with_reducible first|apply wr|refine cpc hsk ?_|fail)<;>try simp only [go_sem,seval,hd0])
 refine C3 (fun q:Nat × Nat × Option Nat × List Tok=>[(0,.str s),(5,C0 q.2.2.1 q.2.2.2.length),(6,I64 q.2.1)]) (fun q=>D2 Sym.nil q.2.2.1 ⟨4,true,A7 (q.2.2.2.map Tok.v)⟩)
  (fun q c=>q.2.1<=s.length/\s.length<q.1+q.2.1/\q.2.2.2.length<=q.2.1/\(q.2.2.1=none->q.2.2.2=[])/\(∀ i,q.2.2.1=some i->i<c)/\L4 (s.length+1) s (skM false s) []=L4 q.1 s q.2.1 q.2.2.2) (fun q=>q.1) (s.length+1,skM false s,none,[])
  (by simp [C1,tm,Tm.upd,C0]) (Sub.nil _) ⟨by simp only;omega,by simp only;omega,by simp,fun _=>rfl,(fun i hi=>by cases hi),rfl⟩ ?_
 rintro ⟨f,at_,o,acc⟩ c ⟨h1,hf,hal,hno,ho,he⟩;simp only at h1 hf hal hno ho he;simp only;rw [he];by_cases hlt:at_<s.length
 ·have hd:decide ((at_:Int)<s.length)=true:=by simpa using hlt
  have hnx:=c_oneR s (by omega) at_ hlt;obtain ⟨f,rfl⟩:∃ g,f=g+1:=⟨f-1,by omega⟩;by_cases hz:(A5 (s.drop at_)).err=0
  ·have hn:=A2y hz;rw [List.length_drop] at hn;have hst:L4 (f+1) s at_ acc=L4 f s (at_+(A5 (s.drop at_)).n+skM false (s.drop (at_+(A5 (s.drop at_)).n))) (acc++[⟨(A5 (s.drop at_)).kind,(A5 (s.drop at_)).text,(A5 (s.drop at_)).value,(at_:Int)⟩]):=by
    rw [L4,if_neg (by omega),if_neg (by simpa using hz)]
   rw [hst];obtain ⟨x,hx⟩:∃ x,x=A5 (s.drop at_):=⟨_,rfl⟩;rw [<- hx] at hnx hz hn ⊢;rw [nxR,if_pos hz,okN] at hnx;have hsk2:=c_skipR s hs (at_+x.n) (by omega);have hkl:=V3 false (s.drop (at_+x.n));rw [List.length_drop] at hkl;obtain ⟨z,hzz⟩:∃ z,z=skM false (s.drop (at_+x.n)):=⟨_,rfl⟩;rw [<- hzz] at hsk2 hkl ⊢;have ne0:=T8 c (c+1) (c+2) (by omega);repeat' ((with_reducible first|apply wr|refine cpc hnx ?_|refine cpc hsk2 ?_|fail)<;>try simp only [go_sem,seval,hd,ne0])
   refine P0 (L1 (cs:=A7 (acc.map Tok.v)) (fun e=>by rw [hno e];exact ⟨rfl,rfl⟩) (fun i hi=>?_) (by rw [C8 (u:=4) (tok_unit _)];simp) (by omega) (by omega) (by omega)) ?_
   ·have:=ho i hi;rw [A2 (by omega),A2 (by omega),A2 (by omega)];exact opt_at hi
   simp only [go_sem,seval,ne0];repeat' ((with_reducible first|apply wr|refine cpc hnx ?_|refine cpc hsk2 ?_|fail)<;>try simp only [go_sem,seval,hd,ne0])
   exact ⟨(f,at_+x.n+z,some (c+1+1),acc++[⟨x.kind,x.text,x.value,(at_:Int)⟩]),⟨by simp only [List.length_append,List.length_singleton];rfl,rfl⟩,
    sub_one (by simp only [List.map_append,G3];rfl),inv ⟨by simp only;omega,by simp only;omega,by simp only [List.length_append,List.length_singleton];omega,(fun h=>by cases h),(fun i hi=>by cases hi;omega),rfl⟩,by simp only;omega⟩
  ·have hst:L4 (f+1) s at_ acc=([],(at_:Int),(A5 (s.drop at_)).err):=by
    rw [L4,if_neg (by omega),if_pos hz]
   rw [hst];obtain ⟨x,hx⟩:∃ x,x=A5 (s.drop at_):=⟨_,rfl⟩;rw [<- hx] at hnx hz ⊢;rw [nxR,if_neg hz,O5] at hnx;have hz':(x.err != 0)=true:=by simpa using hz
   have ne0:=M8 c (c+1) (by omega);repeat' ((with_reducible first|apply wr|refine cpc hnx ?_|fail)<;>try simp only [go_sem,seval,hd,hz',ne0])
   exact scan_nil
 ·have hd:decide ((at_:Int)<s.length)=false:=by simpa using hlt
  repeat' ((with_reducible apply wr)<;>try simp only [go_sem,seval,hd])
  have hM2:L4 f s at_ acc=(acc,0,0):=by
   cases f with
   | zero=>rfl
   | succ f=>rw [L4,if_pos (by omega)]
  rw [hM2];exact pc_todo3 (fun e=>by rw [hno e];rfl) (by simp) (tok_unit acc)
end Go.Proofs.YtnmkkggfgdfmeaaGreatDoor
namespace Go.Pb
variable [Go.Sym.Tab]
open Go.Sym
def T0:Tok:=⟨0,[],0,0⟩
theorem A5o:∀ (f:Nat) (s:List UInt8) (k:Nat) (acc:List Tok),acc.length<=k->k<=s.length->(L4 f s k acc).1.length<=s.length
 | 0,s,k,acc,h1,h2=>by simp only [L4];omega
 | f+1,s,k,acc,h1,h2=>by
  rw [L4];split
  ·simp only;omega
  ·split
   ·simp
   ·rename_i h3 h4;have h4:(A5 (s.drop k)).err=0:=by simpa using h4
    have hn:=A2y h4;rw [List.length_drop] at hn;have hk:=V3 false (s.drop (k+(A5 (s.drop k)).n));rw [List.length_drop] at hk;exact A5o f s _ _ (by rw [List.length_append,List.length_singleton];omega) (by omega)
theorem scanM_len (s:List UInt8):(D5 s).1.length<=s.length:=by
 unfold D5;split
 ·simp
 ·have:=V3 false s;exact A5o _ _ _ _ (by simp) this
end Go.Pb
namespace Go.Pb
variable [Go.Sym.Tab]
open Go.Sym
def A7k (c:UInt8):Bool:=T6 c || decide (c.toNat=35)
theorem R0 {c:UInt8} (h:A7k c=true):c.toNat=9\/c.toNat=10\/c.toNat=13\/c.toNat=32\/c.toNat=35:=by
 simp only [A7k,T6,Bool.or_eq_true,decide_eq_true_eq] at h;omega
theorem end_lt {c:UInt8} (h:A7k c=true):ltB c=false:=by
 have:=R0 h;simp only [ltB];simp;omega
theorem end_dg {c:UInt8} (h:A7k c=true):dgB c=false:=by
 have:=R0 h;simp only [dgB];simp;omega
theorem end_two1 {c d:UInt8} (h:A7k c=true):X0 c d=false:=by
 have:=R0 h;unfold X0;rw [Bool.eq_false_iff];intro h2;simp at h2;omega
theorem end_one {c:UInt8} (h:A7k c=true):A0k c=false:=by
 have:=R0 h;unfold A0k;rw [Bool.eq_false_iff];intro h2;simp at h2;omega
theorem end_34 {c:UInt8} (h:A7k c=true):¬ c.toNat=34:=by
 have:=R0 h;omega
theorem qu_loc (r:List UInt8):∀ {s t:List UInt8} {n:Nat},quM s=some (t,n)->quM (s.take n++r)=some (t,n)
 | [],t,n,h=>by simp [quM] at h
 | c :: q,t,n,h=>by
  rw [I7] at h;by_cases h1:c.toNat=34
  ·rw [if_pos h1] at h;cases h;rw [List.take_succ_cons,List.cons_append,I7,if_pos h1]
  ·rw [if_neg h1] at h;by_cases h2:c.toNat<32\/126<c.toNat
   ·rw [if_pos h2] at h;cases h
   ·rw [if_neg h2] at h;by_cases h3:c.toNat=92
    ·rw [if_pos h3] at h;cases q with
     | nil=>cases h
     | cons d q =>
      simp only at h;by_cases h4:d.toNat=34\/d.toNat=92
      ·rw [if_pos h4] at h;obtain ⟨⟨t',n'⟩,g1,g2⟩:=Option.map_eq_some_iff.1 h;have ih:=qu_loc r g1;cases g2;rw [List.take_succ_cons,List.take_succ_cons,List.cons_append,List.cons_append,I7,if_neg h1,if_neg h2,if_pos h3];simp only;rw [if_pos h4,ih];rfl
      ·rw [if_neg h4] at h;cases h
    ·rw [if_neg h3] at h;obtain ⟨⟨t',n'⟩,g1,g2⟩:=Option.map_eq_some_iff.1 h;have ih:=qu_loc r g1;cases g2;rw [List.take_succ_cons,List.cons_append,I7,if_neg h1,if_neg h2,if_neg h3,ih];rfl
theorem take_app {α : Type} {s r:List α} {n:Nat} (h:n<=s.length):(s.take n++r).take n=s.take n:=by
 have hl:(s.take n).length=n:=by rw [List.length_take];omega
 exact List.take_left' hl
theorem next_sk {s:List UInt8} (h:(A5 s).err=0):skM false s=0:=by
 cases s with
 | nil=>rfl
 | cons c q =>
  by_cases he:A7k c=true
  ·have hs:D0 (c :: q)=0:=by
    cases q with
    | nil=>simp only [D0];rw [if_neg (by rw [end_one he];simp)]
    | cons d q=>simp only [D0];rw [if_neg (by rw [end_two1 he];simp),if_neg (by rw [end_one he];simp)]
   rw [A5,if_neg (by rw [end_lt he];simp),if_neg (by rw [end_dg he];simp),if_neg (end_34 he),if_pos hs] at h;simp [nxE] at h
  ·have he:T6 c=false/\¬ c.toNat=35:=by simpa [A7k] using he
   simp only [skM];rw [if_neg (by rw [he.1];simp),if_neg he.2]
def nxT (x:Nx) (p:Int):Tok:=⟨x.kind,x.text,x.value,p⟩
def A4w (s:List UInt8):Nat->List Tok->Prop
 | k,[]=>s.length<=k
 | k,t :: l=>k<s.length/\(A5 (s.drop k)).err=0/\t=nxT (A5 (s.drop k)) (k:Int)/\A4w s (k+(A5 (s.drop k)).n+skM false (s.drop (k+(A5 (s.drop k)).n))) l
theorem A2d:∀ (f:Nat) (s:List UInt8) (k:Nat) (acc:List Tok),s.length+1<=k+f->(L4 f s k acc).2.2=0->∃ l,(L4 f s k acc).1=acc++l/\A4w s k l
 | 0,s,k,acc,hf,h=>⟨[],by simp [L4],by show s.length<=k;omega⟩
 | f+1,s,k,acc,hf,h=>by
  rw [L4] at h ⊢;by_cases h1:s.length<=k
  ·rw [if_pos h1];exact ⟨[],by simp,h1⟩
  ·rw [if_neg h1] at h ⊢;by_cases h2:(A5 (s.drop k)).err=0
   ·rw [if_neg (by simpa using h2)] at h ⊢;have hn:=A2y h2;obtain ⟨l,e,hr⟩:=A2d f s _ _ (by omega) h;exact ⟨_ :: l,by rw [e,List.append_assoc];rfl,by omega,h2,rfl,hr⟩
   ·rw [if_pos h2] at h;exact absurd h h2
theorem X2 {s:List UInt8} (h:(D5 s).2.2=0):s.length<=20000/\A4w s (skM false s) (D5 s).1:=by
 unfold D5 at h ⊢;by_cases h1:20000<s.length
 ·rw [if_pos h1] at h;cases h
 ·rw [if_neg h1] at h ⊢;have:=V3 false s;obtain ⟨l,e,hr⟩:=A2d _ s _ [] (by omega) h;rw [e];exact ⟨by omega,hr⟩
def TOk (t:Tok):Prop:=∃ s p,(A5 s).err=0/\t=nxT (A5 s) p
theorem A4w.ok {s:List UInt8}:∀ {k:Nat} {l:List Tok},A4w s k l->∀ t∈l,TOk t
 | k,[],_,t,h=>by cases h
 | k,x :: l,h,t,ht=>by
  rcases List.mem_cons.1 ht with rfl|ht
  ·exact ⟨_,_,h.2.1,h.2.2.1⟩
  ·exact A4w.ok h.2.2.2 t ht
end Go.Pb
namespace Go.Pb
variable [Go.Sym.Tab]
open Go.Sym
theorem scan_ok {s:List UInt8} (h:(D5 s).2.2=0):∀ t∈(D5 s).1,TOk t:=(X2 h).2.ok
end Go.Pb
namespace Go.Proofs.YtnmkkggfgdfmeaaGreatDoor
open Go.Eng (IC IOper DReg IFn A3 F3)
open Go.Sym Go.Pb Go.RowKit
theorem c_Dec:∀ (m:Nat) (n:Int),n.natAbs<m -> -9223372036854775808<=n->n<=9223372036854775807->PC Tryz.prog 55 [I64 n] (.str (N7 n)):=by
 intro m
 induction m with
 | zero=>intro n h;omega
 | succ m ih =>
  intro n h h1 h2;have b:=dig_u8 (d:=M9 n) (lo10_lt n);have hl:=lo10_lt n;by_cases h0:n<0
  ·have hd:decide (n<0)=true:=by simpa using h0
   have e1:=neg_div h0;have e2:=neg_mod h0;have hh:=hi10_le (n:=n) (by omega);have w1:=w64 (n := -((P9 n:Nat):Int)) (by omega) (by omega);have w2:=w64 (n:=0 - -((M9 n:Nat):Int)) (by omega) (by omega);have w3:0 - -((M9 n:Nat):Int)=(M9 n:Int):=by omega
   rw [w3] at w2;have hlen:=O4 (n := -((P9 n:Nat):Int)) (by omega) (by omega);have a0:=L5 (s:=N7 (-((P9 n:Nat):Int))) (t:=[V9 (M9 n)]) (by simp;omega);have a2:W4 (nil.upd 5 ⟨1,true,[DV.int .u8 ((V9 (M9 n)).toNat:Int)]⟩) (.slc 5 0 1)=some (.str [V9 (M9 n)]):=A4r A0 rfl rfl;have a1:=L5 (s:=[45]) (t:=[V9 (M9 n)]) (by simp);refine PC.of A6 isU55 (Nat.le_of_ble_eq_true rfl) (by simp [DV.nlL,DV.nl]) (by simp [DV.nlL,DV.nl]) ?_;show IW Tryz.prog 43 u55_1 ⟨B4 _,_,_⟩ (rt [.tmp 2] _);repeat' ((first|(with_reducible first|refine wr ?_|refine cpc (ih (-((P9 n:Nat):Int)) (by omega) (by omega) (by omega)) ?_)|(with_reducible refine wb2 ?_ ?_<;>(intro hb;try simp only [hb]))|((with_reducible refine k_val (A4r (l:=[V9 (M9 n)]) A0 rfl rfl) ?_))|fail)<;>try simp only [go_sem,seval,hd,A5p,r_quo,e1,e2,w1,w3,w2,b,a0,a1,a2])
   ·rw [decI_neg0 h0 (by simpa using hb)];exact A4 rfl
   ·rw [decI_neg h0 (by simpa using hb)];exact A4 rfl
  ·have hd:decide (n<0)=false:=by simpa using h0
   have e1:=pos_div (n:=n) (by omega);have e2:=pos_mod (n:=n) (by omega);have hh:P9 n<=n.natAbs:=by unfold P9;omega
   have w1:=w64 (n:=((P9 n:Nat):Int)) (by omega) (by omega);have hlen:=O4 (n:=((P9 n:Nat):Int)) (by omega) (by omega);have a0:=L5 (s:=N7 ((P9 n:Nat):Int)) (t:=[V9 (M9 n)]) (by simp;omega);by_cases h9:n<10
   ·have hd9:decide (n<10)=true:=by simpa using h9
    refine PC.of A6 isU55 (Nat.le_of_ble_eq_true rfl) (by simp [DV.nlL,DV.nl]) (by simp [DV.nlL,DV.nl]) ?_;show IW Tryz.prog 43 u55_1 ⟨B4 _,_,_⟩ (rt [.tmp 2] _);repeat' ((first|(with_reducible first|refine wr ?_)|((with_reducible refine k_val (A4r (l:=[V9 (M9 n)]) A0 rfl rfl) ?_))|fail)<;>try simp only [go_sem,seval,hd,hd9,A5p,r_quo,e1,e2,w1,b])
    rw [A7l (by omega) h9];exact A4 rfl
   ·have hd9:decide (n<10)=false:=by simpa using h9
    have hh:=hi10_le (n:=n) (by omega);refine PC.of A6 isU55 (Nat.le_of_ble_eq_true rfl) (by simp [DV.nlL,DV.nl]) (by simp [DV.nlL,DV.nl]) ?_;show IW Tryz.prog 43 u55_1 ⟨B4 _,_,_⟩ (rt [.tmp 2] _);repeat' ((first|(with_reducible first|refine wr ?_|refine cpc (ih ((P9 n:Nat):Int) (by omega) (by omega) (by omega)) ?_)|((with_reducible refine k_val (A4r (l:=[V9 (M9 n)]) A0 rfl rfl) ?_))|fail)<;>try simp only [go_sem,seval,hd,hd9,A5p,r_quo,e1,e2,w1,b,a0])
    rw [decI_ge h9];exact A4 rfl
theorem c_Dec' (n:Int) (h1 : -9223372036854775808<=n) (h2:n<=9223372036854775807):PC Tryz.prog 55 [I64 n] (.str (N7 n)):=c_Dec (n.natAbs+1) n (by omega) h1 h2
end Go.Proofs.YtnmkkggfgdfmeaaGreatDoor
namespace Go.Pb
variable [Go.Sym.Tab]
open Go.Sym
def Evt {α : Type} (g:Nat->Option α) (r : α):Prop:=∃ N, ∀ f,N<=f->g f=some r
theorem Evt.one {α : Type} {g:Nat->Option α} {r : α} (h:∀ f,g (f+1)=some r):Evt g r :=
 ⟨1,fun f hf=>by obtain ⟨k,rfl⟩:∃ k,f=k+1:=⟨f-1,by omega⟩;exact h k⟩
theorem Evt.ext {α β : Type} {g:Nat->Option α} {h:Nat->Option β} {r : α} {q : β} (hg:Evt g r) (e:∀ f,g f=some r->h (f+1)=some q):Evt h q:=by
 obtain ⟨N,hg⟩:=hg;exact ⟨N+1,fun f hf=>by obtain ⟨k,rfl⟩:∃ k,f=k+1:=⟨f-1,by omega⟩;exact e k (hg k (by omega))⟩
theorem Evt.map {α β : Type} {g:Nat->Option α} {h:Nat->Option β} {r : α} {q : β} (hg:Evt g r) (e:∀ f,g f=some r->h f=some q):Evt h q:=by
 obtain ⟨N,hg⟩:=hg;exact ⟨N,fun f hf=>e f (hg f hf)⟩
theorem Evt.and {α β : Type} {g:Nat->Option α} {h:Nat->Option β} {r : α} {q : β} (hg:Evt g r) (hh:Evt h q):Evt (fun f=>match g f,h f with|some a,some b=>some (a,b)|_,_=>none) (r,q):=by
 obtain ⟨N,hg⟩:=hg;obtain ⟨M,hh⟩:=hh;exact ⟨max N M,fun f hf=>by dsimp only;rw [hg f (by omega),hh f (by omega)]⟩
theorem Evt.ext2 {α β γ : Type} {g:Nat->Option α} {h:Nat->Option β} {k:Nat->Option γ} {r : α} {q : β} {w : γ} (hg:Evt g r) (hh:Evt h q) (e:∀ f,g f=some r->h f=some q->k (f+1)=some w):Evt k w:=by
 obtain ⟨N,hg⟩:=hg;obtain ⟨M,hh⟩:=hh;exact ⟨max N M+1,fun f hf=>by obtain ⟨j,rfl⟩:∃ j,f=j+1:=⟨f-1,by omega⟩;exact e j (hg j (by omega)) (hh j (by omega))⟩
theorem Evt.map2 {α β γ : Type} {g:Nat->Option α} {h:Nat->Option β} {k:Nat->Option γ} {r : α} {q : β} {w : γ} (hg:Evt g r) (hh:Evt h q) (e:∀ f,g f=some r->h f=some q->k f=some w):Evt k w:=by
 obtain ⟨N,hg⟩:=hg;obtain ⟨M,hh⟩:=hh;exact ⟨max N M,fun f hf=>e f (hg f (by omega)) (hh f (by omega))⟩
theorem Evt.uniq {α : Type} {g:Nat->Option α} {r q : α} (h1:Evt g r) (h2:Evt g q):r=q:=by
 obtain ⟨N,h1⟩:=h1;obtain ⟨M,h2⟩:=h2;exact Option.some.inj ((h1 (max N M) (by omega)).symm.trans (h2 (max N M) (by omega)))
theorem Evt.get {α : Type} {g:Nat->Option α} {r : α} (h:Evt g r):∃ f,g f=some r:=by
 obtain ⟨N,h⟩:=h;exact ⟨N,h N (Nat.le_refl _)⟩
section
variable {L:List Tok} {E:Int}
abbrev Bin (L:List Tok) (E n:Int) (s:Rd) (r:Ex × Rd):Prop:=Evt (fun f=>F2 L E f n s) r
abbrev Lop (L:List Tok) (E n:Int) (e:Ex) (s:Rd) (r:Ex × Rd):Prop:=Evt (fun f=>K3 L E f n e s) r
abbrev Un (L:List Tok) (E:Int) (s:Rd) (r:Ex × Rd):Prop:=Evt (fun f=>N5 L E f s) r
theorem Bin.un {n:Int} {s:Rd} {r:Ex × Rd} (hn:5<n) (h:Un L E s r):Bin L E n s r :=
 h.ext fun f h=>by rw [F2,if_pos hn];exact h
theorem Bin.go {n:Int} {s s1:Rd} {e:Ex} {r:Ex × Rd} (hn:n<=5) (h:Bin L E (n+1) s (e,s1)) (h2:Lop L E n e s1 r):Bin L E n s r :=
 h.ext2 h2 fun f h h2=>by rw [F2,if_neg (by omega),h];exact h2
theorem Lop.stop {n:Int} {e:Ex} {s:Rd} (h:B2 L E s C2<0\/E4 (12+B2 L E s C2)≠n):Lop L E n e s (e,s) :=
 Evt.one fun f=>by rw [K3];dsimp only;rw [if_pos h]
theorem Lop.three {n:Int} {e x:Ex} {s s1:Rd} (h0:0<=B2 L E s C2) (h1:E4 (12+B2 L E s C2)=n) (hn:n=3) (hb:Bin L E (n+1) (B0 s) (x,s1)):Lop L E n e s (.mk (12+B2 L E s C2) 0 [] [e,x] (B1 L E s).pos,s1) :=
 hb.ext fun f h=>by rw [K3];dsimp only;rw [if_neg (by omega),h];dsimp only;rw [if_pos hn]
theorem Lop.more {n:Int} {e x:Ex} {s s1:Rd} {r:Ex × Rd} (h0:0<=B2 L E s C2) (h1:E4 (12+B2 L E s C2)=n) (hn:n≠3) (hb:Bin L E (n+1) (B0 s) (x,s1)) (hl:Lop L E n (.mk (12+B2 L E s C2) 0 [] [e,x] (B1 L E s).pos) s1 r):Lop L E n e s r :=
 hb.ext2 hl fun f h h2=>by rw [K3];dsimp only;rw [if_neg (by omega),h];dsimp only;rw [if_neg hn];exact h2
theorem Un.prim {s:Rd} (h:B2 L E s J6<0):Un L E s (I8 L E s) :=
 Evt.one fun f=>by rw [N5];dsimp only;rw [if_pos h]
theorem Un.bad {s:Rd} (h:0<=B2 L E s J6) (hl:okR (B3 L E s (s.par+1) 16 50)=false):Un L E s (Ex0,B3 L E s (s.par+1) 16 50) :=
 Evt.one fun f=>by rw [N5];dsimp only;rw [if_neg (by omega),if_pos hl]
theorem Un.par {s s3:Rd} {e:Ex} (h:B2 L E s J6=2) (hl:okR (B3 L E s (s.par+1) 16 50)=true) (hb:Bin L E 1 { s with i:=s.i+1,par:=s.par+1 } (e,s3)):Un L E s (e, { B6 L E s3 [41] with par:=(B6 L E s3 [41]).par-1 }) :=
 hb.ext fun f hf=>by
  have e0:=(E2 (by decide) hl).2.2;rw [N5];dsimp only;rw [if_neg (by omega),if_neg (by rw [hl];decide),e0,if_pos h,hf]
theorem Un.pre {s s3:Rd} {e:Ex} (h0:0<=B2 L E s J6) (h:B2 L E s J6≠2) (hl:okR (B3 L E s (s.par+1) 16 50)=true) (hb:Un L E { s with i:=s.i+1,par:=s.par+1 } (e,s3)):Un L E s (.mk (10+B2 L E s J6) 0 [] [e] (B1 L E s).pos, { s3 with par:=s3.par-1 }) :=
 hb.ext fun f hf=>by
  have e0:=(E2 (by decide) hl).2.2;rw [N5];dsimp only;rw [if_neg (by omega),if_neg (by rw [hl];decide),e0,if_neg h,hf]
theorem C6 {s:Rd} {x:List UInt8}:s.i<=(B6 L E s x).i:=by
 unfold B6;cases k:isR L E s x with
 | false=>rw [if_pos rfl,O1];exact Nat.le_refl _
 | true=>rw [if_neg (by simp)];exact Nat.le_succ _
theorem F4 {s:Rd} {x:Int}:s.i<=(A8 L E s x).2.i:=by
 unfold A8;cases k:F1 L E s x with
 | false=>rw [if_pos rfl];show s.i<=(J9 L E s).i;rw [O1];exact Nat.le_refl _
 | true=>rw [if_neg (by simp)];exact Nat.le_succ _
theorem prim_ge {s:Rd}:s.i<=(I8 L E s).2.i:=by
 unfold I8;dsimp only;have h2:(B3 L E { s with ops:=s.ops+1 } (s.ops+1) 32 9).i=s.i:=D7;have h3:(B0 (B3 L E { s with ops:=s.ops+1 } (s.ops+1) 32 9)).i=s.i+1:=by show (B3 L E { s with ops:=s.ops+1 } (s.ops+1) 32 9).i+1=_;rw [h2]
 split
 ·show s.i<=(J9 L E s).i;rw [O1];exact Nat.le_refl _
 ·split
  ·show s.i<=(B3 L E { s with ops:=s.ops+1 } (s.ops+1) 32 9).i;rw [h2];exact Nat.le_refl _
  ·have:=F4 (L:=L) (E:=E) (s:=B0 (B3 L E { s with ops:=s.ops+1 } (s.ops+1) 32 9)) (x:=1);repeat' split
   all_goals (first|(show s.i<=(A8 L E _ 1).2.i;omega)|(show s.i<=(B0 _).i;omega))
theorem ET.all:∀ (m:Nat),(∀ s:Rd,L.length-s.i<=m->∃ r,Un L E s r/\s.i<=r.2.i)/\(∀ (n:Int) e (s:Rd),n<=5->1<=n->L.length-s.i<=m->∃ r,Lop L E n e s r/\s.i<=r.2.i)/\(∀ (n:Int) (s:Rd),1<=n->L.length-s.i<=m->∃ r,Bin L E n s r/\s.i<=r.2.i):=by
 intro m
 induction m using Nat.strongRecOn with
 | _ m ih =>
  have A:∀ s:Rd,L.length-s.i<=m->∃ r,Un L E s r/\s.i<=r.2.i:=by
   intro s hs;by_cases hk:B2 L E s J6<0
   ·exact ⟨_,Un.prim hk,prim_ge⟩
   ·obtain ⟨-,hi, -⟩:=E3 (show 0<=B2 L E s J6 by omega);cases hl:okR (B3 L E s (s.par+1) 16 50) with
    | false=>exact ⟨_,Un.bad (by omega) hl,by show s.i<=(B3 L E s (s.par+1) 16 50).i;rw [D7];exact Nat.le_refl _⟩
    | true =>
     by_cases h2:B2 L E s J6=2
     ·obtain ⟨⟨e,s3⟩,hb,hge⟩:=(ih (m-1) (by omega)).2.2 1 { s with i:=s.i+1,par:=s.par+1 } (by decide) (by show L.length-(s.i+1)<=m-1;omega);refine ⟨_,Un.par h2 hl hb,?_⟩;have h4:=C6 (L:=L) (E:=E) (s:=s3) (x:=[41]);have h5:s.i+1<=s3.i:=hge;show s.i<=(B6 L E s3 [41]).i;omega
     ·obtain ⟨⟨e,s3⟩,hb,hge⟩:=(ih (m-1) (by omega)).1 { s with i:=s.i+1,par:=s.par+1 } (by show L.length-(s.i+1)<=m-1;omega);refine ⟨_,Un.pre (by omega) h2 hl hb,?_⟩;have h5:s.i+1<=s3.i:=hge;show s.i<=s3.i;omega
  have B:∀ (n:Int) e (s:Rd),n<=5->1<=n->L.length-s.i<=m->∃ r,Lop L E n e s r/\s.i<=r.2.i:=by
   intro n e s h5 h1 hs;by_cases hk:B2 L E s C2<0\/E4 (12+B2 L E s C2)≠n
   ·exact ⟨_,Lop.stop hk,Nat.le_refl _⟩
   ·have h0:0<=B2 L E s C2:=by omega
    obtain ⟨-,hi, -⟩:=E3 h0;obtain ⟨⟨x,s1⟩,hb,hge⟩:=(ih (m-1) (by omega)).2.2 (n+1) (B0 s) (by omega) (by show L.length-(s.i+1)<=m-1;omega);have hge:s.i+1<=s1.i:=hge;by_cases h3:n=3
    ·exact ⟨_,Lop.three h0 (by omega) h3 hb,by show s.i<=s1.i;omega⟩
    ·obtain ⟨r,hl,hg2⟩:=(ih (m-1) (by omega)).2.1 n (.mk (12+B2 L E s C2) 0 [] [e,x] (B1 L E s).pos) s1 h5 h1 (by omega);exact ⟨_,Lop.more h0 (by omega) h3 hb hl,by omega⟩
  refine ⟨A,B,?_⟩;have C:∀ (j:Nat) (n:Int) (s:Rd),6-n<=j->1<=n->L.length-s.i<=m->∃ r,Bin L E n s r/\s.i<=r.2.i:=by
   intro j
   induction j with
   | zero =>
    intro n s hj h1 hs;obtain ⟨r,h,hg⟩:=A s hs;exact ⟨r,Bin.un (by omega) h,hg⟩
   | succ j ihj =>
    intro n s hj h1 hs;by_cases h5:5<n
    ·obtain ⟨r,h,hg⟩:=A s hs;exact ⟨r,Bin.un h5 h,hg⟩
    ·obtain ⟨⟨e,s1⟩,h,hg⟩:=ihj (n+1) s (by omega) (by omega) hs;have hg:s.i<=s1.i:=hg;obtain ⟨r,h2,hg2⟩:=B n e s1 (by omega) h1 (by omega);exact ⟨r,Bin.go (by omega) h h2,by omega⟩
  exact fun n s h1 hs=>C (6-n).toNat n s (by omega) h1 hs
abbrev Xpn (L:List Tok) (E:Int) (s:Rd) (r:Ex × Rd):Prop:=Evt (fun f=>M1 L E f s) r
theorem Y4 (s:Rd):∃ r,Xpn L E s r/\s.i<=r.2.i:=by
 obtain ⟨r,h,hg⟩:=(ET.all (L:=L) (E:=E) (L.length-s.i)).2.2 1 { s with ops:=0,par:=0 } (by decide) (Nat.le_refl _);exact ⟨r,h,hg⟩
theorem tail_tot (k p:Int) (s:Rd):∃ r,Evt (fun f=>I6 L E f k p s) r/\s.i<=r.2.i:=by
 by_cases h4:k=4
 ·obtain ⟨⟨e,s1⟩,h,hg⟩:=Y4 (L:=L) (E:=E) s;exact ⟨_,h.map fun f h=>by unfold I6;rw [if_pos h4,h],Nat.le_trans hg C6⟩
 by_cases h18:k=18
 ·obtain ⟨⟨e,s1⟩,h,hg⟩:=Y4 (L:=L) (E:=E) (B6 L E (A8 L E s 4).2 [44]);exact ⟨_,h.map fun f h=>by unfold I6;rw [if_neg h4,if_pos h18,h],Nat.le_trans (Nat.le_trans F4 (Nat.le_trans C6 hg)) C6⟩
 by_cases h19:k=19
 ·exact ⟨_,Evt.one fun f=>by unfold I6;rw [if_neg h4,if_neg h18,if_pos h19],C6⟩
 by_cases h8:k=8\/k=9\/k=10
 ·obtain ⟨⟨e,s1⟩,h,hg⟩:=Y4 (L:=L) (E:=E) (A8 L E s 1).2;by_cases h9:k=9
  ·obtain ⟨⟨e2,s2⟩,h2,hg2⟩:=Y4 (L:=L) (E:=E) (B6 L E s1 [44]);exact ⟨_,h.map2 h2 fun f h h2=>by unfold I6;rw [if_neg h4,if_neg h18,if_neg h19];dsimp only;rw [if_pos h8,h];dsimp only;rw [if_pos h9,h2],Nat.le_trans (Nat.le_trans F4 (Nat.le_trans hg (Nat.le_trans C6 hg2))) C6⟩
  ·exact ⟨_,h.map fun f h=>by unfold I6;rw [if_neg h4,if_neg h18,if_neg h19];dsimp only;rw [if_pos h8,h];dsimp only;rw [if_neg h9],Nat.le_trans (Nat.le_trans F4 hg) C6⟩
 ·exact ⟨_,Evt.one fun f=>by unfold I6;rw [if_neg h4,if_neg h18,if_neg h19];dsimp only;rw [if_neg h8],Nat.le_trans F4 C6⟩
abbrev A4y (L:List Tok) (E d:Int) (s:Rd) (r:List St × Rd):Prop:=Evt (fun f=>I4 L E f d s) r
abbrev S9 (L:List Tok) (E d:Int) (l:List St) (s:Rd) (r:List St × Rd):Prop:=Evt (fun f=>L2 L E f d l s) r
abbrev M5 (L:List Tok) (E d:Int) (s:Rd) (r:St × Rd):Prop:=Evt (fun f=>M7 L E f d s) r
abbrev A5g (L:List Tok) (E d:Int) (s:Rd) (r:List St × Rd):Prop:=Evt (fun f=>L6 L E f d s) r
theorem A4y.mk {d:Int} {s:Rd} {r:List St × Rd} (h:S9 L E d [] (B6 L E s [123]) r):A4y L E d s r :=
 h.ext fun f h=>by rw [I4];exact h
theorem S9.stop {d:Int} {l:List St} {s:Rd} (h:¬ (okR s=true/\isR L E s [125]=false)):S9 L E d l s (l,B6 L E s [125]) :=
 Evt.one fun f=>by rw [L2,if_neg h]
theorem S9.bad {d:Int} {l:List St} {s:Rd} (h:okR s=true/\isR L E s [125]=false) (h2:B2 L E s B7<0/\F1 L E s 1=false):S9 L E d l s ([],J9 L E s) :=
 Evt.one fun f=>by rw [L2,if_pos h,if_pos h2]
theorem S9.more {d:Int} {l:List St} {s s1:Rd} {x:St} {r:List St × Rd} (h:okR s=true/\isR L E s [125]=false) (h2:¬ (B2 L E s B7<0/\F1 L E s 1=false)) (hx:M5 L E d (B3 L E s ((l.length:Int)+1) 64 9) (x,s1)) (hl:S9 L E d (l++[x]) s1 r):S9 L E d l s r :=
 hx.ext2 hl fun f hx hl=>by rw [L2,if_pos h,if_neg h2,hx];exact hl
theorem M5.bad {d:Int} {s:Rd} (h:okR (B3 L E s d 8 50)=false):M5 L E d s (St0,B3 L E s d 8 50) :=
 Evt.one fun f=>by rw [M7];dsimp only;rw [if_pos h]
theorem M5.set {d:Int} {s s1:Rd} {e:Ex} (h:okR (B3 L E s d 8 50)=true) (hk:B2 L E s B7<0) (he:Xpn L E (B6 L E (A8 L E s 1).2 [61]) (e,s1)):M5 L E d s (.mk 1 (A8 L E s 1).1.text [] [e] [] [] (B1 L E s).pos,B6 L E s1 [59]) :=
 he.ext fun f hf=>by
  have e0:=(E2 (by decide) h).2.2;rw [M7];dsimp only;rw [if_neg (by rw [h];decide),e0,if_pos hk,hf]
theorem M5.els {d:Int} {s s2 s3 s4:Rd} {e:Ex} {t o:List St} (h:okR (B3 L E s d 8 50)=true) (hk:B2 L E s B7=0) (he:Xpn L E (B0 s) (e,s2)) (ht:A4y L E (d+1) s2 (t,s3)) (hi:isR L E s3 [101,108,115,101]=true) (ho:A5g L E d (B0 s3) (o,s4)):M5 L E d s (.mk 2 [] [] [e] t o (B1 L E s).pos,s4) :=
 (he.and ht).ext2 ho fun f hf h2=>by
  have e0:=(E2 (by decide) h).2.2;cases h3:M1 L E f (B0 s) with
  | none=>rw [h3] at hf;cases hf
  | some q =>
   cases h4:I4 L E f (d+1) s2 with
   | none=>rw [h3,h4] at hf;cases hf
   | some w =>
    rw [h3,h4] at hf;obtain ⟨rfl,rfl⟩:=Prod.mk.inj (Option.some.inj hf);rw [M7];dsimp only;rw [if_neg (by rw [h];decide),e0,if_neg (by omega),if_pos (.inl hk),h3];dsimp only;rw [h4];dsimp only;rw [if_pos ⟨hk,hi⟩,h2]
theorem M5.blk {d:Int} {s s2 s3:Rd} {e:Ex} {t:List St} (h:okR (B3 L E s d 8 50)=true) (hk:B2 L E s B7=0\/B2 L E s B7=1) (he:Xpn L E (B0 s) (e,s2)) (ht:A4y L E (d+1) s2 (t,s3)) (hi:¬ (B2 L E s B7=0/\isR L E s3 [101,108,115,101]=true)):M5 L E d s (.mk (2+B2 L E s B7) [] [] [e] t [] (B1 L E s).pos,s3) :=
 he.ext2 ht fun f h3 h4=>by
  have e0:=(E2 (by decide) h).2.2;rw [M7];dsimp only;rw [if_neg (by rw [h];decide),e0,if_neg (by omega),if_pos hk,h3];dsimp only;rw [h4];dsimp only;rw [if_neg hi]
theorem M5.tail {d:Int} {s:Rd} {r:St × Rd} (h:okR (B3 L E s d 8 50)=true) (hk:2<=B2 L E s B7) (he:Evt (fun f=>I6 L E f (2+B2 L E s B7) (B1 L E s).pos (B0 s)) r):M5 L E d s r :=
 he.ext fun f h3=>by
  have e0:=(E2 (by decide) h).2.2;rw [M7];dsimp only;rw [if_neg (by rw [h];decide),e0,if_neg (by omega),if_neg (by omega)];exact h3
theorem A5g.iff {d:Int} {s s1:Rd} {x:St} (h:isR L E s [105,102]=true) (hs:M5 L E (d+1) s (x,s1)):A5g L E d s ([x],s1) :=
 hs.ext fun f hf=>by rw [L6,if_pos h,hf]
theorem A5g.blk {d:Int} {s:Rd} {r:List St × Rd} (h:isR L E s [105,102]=false) (hs:A4y L E (d+1) s r):A5g L E d s r :=
 hs.ext fun f hf=>by rw [L6,if_neg (by rw [h];decide)];exact hf
theorem ST.all:∀ (m:Nat),(∀ d (s:Rd),L.length-s.i<=m->∃ r,M5 L E d s r/\s.i<=r.2.i/\(okR (B3 L E s d 8 50)=true->(0<=B2 L E s B7\/F1 L E s 1=true)->s.i<r.2.i)) /\
  (∀ d l (s:Rd),L.length-s.i<=m->∃ r,S9 L E d l s r/\s.i<=r.2.i):=by
 intro m
 induction m using Nat.strongRecOn with
 | _ m ih =>
  have blk:∀ d (s:Rd),L.length-s.i<m->∃ r,A4y L E d s r/\s.i<=r.2.i:=by
   intro d s hs;have h0:=C6 (L:=L) (E:=E) (s:=s) (x:=[123]);obtain ⟨r,h,hg⟩:=(ih _ hs).2 d [] (B6 L E s [123]) (by omega);exact ⟨r,A4y.mk h,by omega⟩
  have oth:∀ d (s:Rd),L.length-s.i<m->∃ r,A5g L E d s r/\s.i<=r.2.i:=by
   intro d s hs;cases hi:isR L E s [105,102] with
   | true =>
    obtain ⟨⟨x,s1⟩,h,hg, -⟩:=(ih _ hs).1 (d+1) s (Nat.le_refl _);exact ⟨_,A5g.iff hi h,hg⟩
   | false =>
    obtain ⟨r,h,hg⟩:=blk (d+1) s hs;exact ⟨r,A5g.blk hi h,hg⟩
  have A:∀ d (s:Rd),L.length-s.i<=m->∃ r,M5 L E d s r/\s.i<=r.2.i/\(okR (B3 L E s d 8 50)=true->(0<=B2 L E s B7\/F1 L E s 1=true)->s.i<r.2.i):=by
   intro d s hs;cases hl:okR (B3 L E s d 8 50) with
   | false=>exact ⟨_,M5.bad hl,by show s.i<=(B3 L E s d 8 50).i;rw [D7];exact Nat.le_refl _,fun h=>by cases h⟩
   | true =>
    by_cases hk:B2 L E s B7<0
    ·obtain ⟨⟨e,s1⟩,he,hg⟩:=Y4 (L:=L) (E:=E) (B6 L E (A8 L E s 1).2 [61]);have hg:(B6 L E (A8 L E s 1).2 [61]).i<=s1.i:=hg;have h1:=C6 (L:=L) (E:=E) (s:=s1) (x:=[59]);have h2:=C6 (L:=L) (E:=E) (s:=(A8 L E s 1).2) (x:=[61]);have h3:=F4 (L:=L) (E:=E) (s:=s) (x:=1);refine ⟨_,M5.set hl hk he,by show s.i<=(B6 L E s1 [59]).i;omega,fun _ hc=>?_⟩;have h4:F1 L E s 1=true:=hc.resolve_left (by omega);have h5:(A8 L E s 1).2.i=s.i+1:=by unfold A8;rw [if_neg (by rw [h4];decide)];rfl
     show s.i<(B6 L E s1 [59]).i;omega
    ·obtain ⟨-,hi, -,hk18⟩:=E3 (show 0<=B2 L E s B7 by omega);by_cases h01:B2 L E s B7=0\/B2 L E s B7=1
     ·obtain ⟨⟨e,s2⟩,he,hg⟩:=Y4 (L:=L) (E:=E) (B0 s);have hg:s.i+1<=s2.i:=hg;obtain ⟨⟨t,s3⟩,ht,hg3⟩:=blk (d+1) s2 (by omega);have hg3:s2.i<=s3.i:=hg3;by_cases hc:B2 L E s B7=0/\isR L E s3 [101,108,115,101]=true
      ·have hi3:=(X5 hc.2).2;obtain ⟨⟨o,s4⟩,ho,hg4⟩:=oth d (B0 s3) (by show L.length-(s3.i+1)<m;omega);have hg4:s3.i+1<=s4.i:=hg4;exact ⟨_,M5.els hl hc.1 he ht hc.2 ho,by show s.i<=s4.i;omega,fun _ _=>by show s.i<s4.i;omega⟩
      ·exact ⟨_,M5.blk hl h01 he ht hc,by show s.i<=s3.i;omega,fun _ _=>by show s.i<s3.i;omega⟩
     ·obtain ⟨r,hr,hg⟩:=tail_tot (L:=L) (E:=E) (2+B2 L E s B7) (B1 L E s).pos (B0 s);have hg:s.i+1<=r.2.i:=hg;exact ⟨_,M5.tail hl (by omega) hr,by omega,fun _ _=>by omega⟩
  refine ⟨A,fun d l s hs=>?_⟩;by_cases hc:okR s=true/\isR L E s [125]=false
  ·by_cases h2:B2 L E s B7<0/\F1 L E s 1=false
   ·exact ⟨_,S9.bad hc h2,by show s.i<=(J9 L E s).i;rw [O1];exact Nat.le_refl _⟩
   ·have hlt:s.i<L.length:=by
     by_cases hk:0<=B2 L E s B7
     ·exact (E3 hk).2.1
     ·cases h1:F1 L E s 1 with
      | false=>exact absurd ⟨by omega,h1⟩ h2
      | true=>exact (F8 (by decide) (E6 h1).2).2
    cases hl:okR (B3 L E s ((l.length:Int)+1) 64 9) with
    | false =>
     have hb:okR (B3 L E (B3 L E s ((l.length:Int)+1) 64 9) d 8 50)=false:=by
      cases hz:okR (B3 L E (B3 L E s ((l.length:Int)+1) 64 9) d 8 50) with
      | false=>rfl
      | true=>rw [(E2 (by decide) hz).1] at hl;cases hl
     have hx:=M5.bad hb;refine ⟨_,S9.more hc h2 hx (S9.stop (by rw [hb];simp)),?_⟩;have h1:=C6 (L:=L) (E:=E) (s:=B3 L E (B3 L E s ((l.length:Int)+1) 64 9) d 8 50) (x:=[125]);rw [D7,D7] at h1;exact h1
    | true =>
     have e0:=(E2 (by decide) hl).2.2;obtain ⟨⟨x,s1⟩,hx,hg,hprog⟩:=A d s hs;have hg:s.i<=s1.i:=hg;cases hd:okR (B3 L E s d 8 50) with
     | false =>
      have hx:=M5.bad hd;refine ⟨_,S9.more hc h2 (by rw [e0];exact hx) (S9.stop (by rw [hd];simp)),?_⟩;have h1:=C6 (L:=L) (E:=E) (s:=B3 L E s d 8 50) (x:=[125]);rw [D7] at h1;exact h1
     | true =>
      have hlt2:s.i<s1.i:=hprog hd (by
       by_cases hk:0<=B2 L E s B7
       ·exact .inl hk
       ·cases h1:F1 L E s 1 with
        | false=>exact absurd ⟨by omega,h1⟩ h2
        | true=>exact .inr rfl)
      obtain ⟨r,hr,hg2⟩:=(ih (L.length-s1.i) (by omega)).2 d (l++[x]) s1 (Nat.le_refl _);exact ⟨r,S9.more hc h2 (by rw [e0];exact hx) hr,by omega⟩
  ·exact ⟨_,S9.stop hc,C6⟩
theorem blk_tot (d:Int) (s:Rd):∃ r,A4y L E d s r/\s.i<=r.2.i:=by
 obtain ⟨r,h,hg⟩:=(ST.all (L:=L) (E:=E) _).2 d [] (B6 L E s [123]) (Nat.le_refl _);exact ⟨r,A4y.mk h,Nat.le_trans C6 hg⟩
theorem mlp_tot:∀ (m:Nat) (l:List Hd) (s:Rd),L.length-s.i<=m->∃ r,Evt (fun f=>Q6 L E f l s) r/\s.i<=r.2.i:=by
 intro m
 induction m using Nat.strongRecOn with
 | _ m ih =>
  intro l s hs;by_cases hc:okR s=true/\isR L E s [125]=false
  ·cases hon:isR L E s [111,110] with
   | false=>exact ⟨_,Evt.one fun f=>by rw [Q6,if_pos hc,if_pos hon],by show s.i<=(J9 L E s).i;rw [O1];exact Nat.le_refl _⟩
   | true =>
    have hi:=(X5 hon).2;have h1:(B3 L E s ((l.length:Int)+1) 32 9).i=s.i:=D7;generalize hl:B3 L E s ((l.length:Int)+1) 32 9=s1 at h1;have h2:=C6 (L:=L) (E:=E) (s:=s1) (x:=[111,110]);generalize he:B6 L E s1 [111,110]=s2 at h2;by_cases hk:B2 L E s2 D4<0
    ·exact ⟨_,Evt.one fun f=>by rw [Q6,if_pos hc,if_neg (by rw [hon];decide),hl];dsimp only;rw [he,if_pos hk],by show s.i<=(J9 L E s2).i;rw [O1];omega⟩
    ·have hi2:=(E3 (show 0<=B2 L E s2 D4 by omega)).2.1;have h4:s2.i+1<=(if 2<=B2 L E s2 D4 then (A8 L E (B0 s2) 1).2 else B0 s2).i:=by
      split
      ·exact F4 (L:=L) (E:=E) (s:=B0 s2) (x:=1)
      ·exact Nat.le_refl _
     obtain ⟨⟨b,s5⟩,hb,hg⟩:=blk_tot (L:=L) (E:=E) 1 (if 2<=B2 L E s2 D4 then (A8 L E (B0 s2) 1).2 else B0 s2);have hg:(if 2<=B2 L E s2 D4 then (A8 L E (B0 s2) 1).2 else B0 s2).i<=s5.i:=hg;obtain ⟨r,hr,hg2⟩:=ih (L.length-s5.i) (by omega) (l++[⟨1+B2 L E s2 D4,if 2<=B2 L E s2 D4 then (A8 L E (B0 s2) 1).1.text else [],b,(B1 L E s1).pos⟩]) s5 (Nat.le_refl _);exact ⟨r,hb.ext2 hr fun f hb hr=>by rw [Q6,if_pos hc,if_neg (by rw [hon];decide),hl];dsimp only;rw [he,if_neg hk,hb];exact hr,by omega⟩
  ·exact ⟨_,Evt.one fun f=>by rw [Q6,if_neg hc],C6⟩
theorem mod_tot (s:Rd):∃ r,Evt (fun f=>A1a L E f s) r/\s.i<=r.2.i/\(isR L E s [109,111,100,101]=true->s.i<r.2.i):=by
 obtain ⟨⟨l,s3⟩,h,hg⟩:=mlp_tot (L:=L) (E:=E) _ [] (B6 L E (A8 L E (A8 L E (B6 L E s [109,111,100,101]) 1).2 3).2 [123]) (Nat.le_refl _);have hg:(B6 L E (A8 L E (A8 L E (B6 L E s [109,111,100,101]) 1).2 3).2 [123]).i<=s3.i:=hg;have h1:=C6 (L:=L) (E:=E) (s:=(A8 L E (A8 L E (B6 L E s [109,111,100,101]) 1).2 3).2) (x:=[123]);have h2:=F4 (L:=L) (E:=E) (s:=(A8 L E (B6 L E s [109,111,100,101]) 1).2) (x:=3);have h3:=F4 (L:=L) (E:=E) (s:=B6 L E s [109,111,100,101]) (x:=1);have h4:=C6 (L:=L) (E:=E) (s:=s) (x:=[109,111,100,101]);refine ⟨_,h.map fun f h=>by unfold A1a;dsimp only;rw [h],by show s.i<=s3.i;omega,fun hi=>?_⟩;have h5:(B6 L E s [109,111,100,101]).i=s.i+1:=by unfold B6;rw [if_neg (by rw [hi];decide)];rfl
 show s.i<s3.i;omega
theorem dcl_ge {k:Int} {s:Rd}:s.i+1<=(R5 L E k s).2.i:=by
 unfold R5;dsimp only;have h1:=F4 (L:=L) (E:=E) (s:=B0 s) (x:=1);have h0:(B0 s).i=s.i+1:=rfl;split
 ·generalize (A8 L E (B0 s) 1).2=s2 at h1 ⊢;have h3:s2.i<=(if (k+1 == 6 && isR L E s2 [45])=true then B0 s2 else s2).i:=by
   split
   ·exact Nat.le_succ _
   ·exact Nat.le_refl _
  generalize (if (k+1 == 6 && isR L E s2 [45])=true then B0 s2 else s2)=s3 at h3 ⊢;have h4:=F4 (L:=L) (E:=E) (s:=s3) (x:=3);have h5:=C6 (L:=L) (E:=E) (s:=(A8 L E s3 3).2) (x:=[59]);show s.i+1<=(B6 L E (A8 L E s3 3).2 [59]).i;omega
 ·have h5:=C6 (L:=L) (E:=E) (s:=(A8 L E (B0 s) 1).2) (x:=[59]);show s.i+1<=(B6 L E (A8 L E (B0 s) 1).2 [59]).i;omega
theorem amg_nok {s:Rd} (h:okR s=false):∀ (l:List (List UInt8)) (k:Nat),S7 L E s k l = -1
 | [],k=>rfl
 | t :: l,k=>by rw [S7,show isR L E s t=false by unfold isR;rw [h];rfl,if_neg (by decide),amg_nok h l]
theorem rld_tot:∀ (m:Nat) (l:List Dc) (s:Rd),L.length-s.i<=m->∃ r,Evt (fun f=>O8 L E f l s) r/\s.i<=r.2.i:=by
 intro m
 induction m using Nat.strongRecOn with
 | _ m ih =>
  intro l s hs;by_cases hk:B2 L E s C9<0
  ·exact ⟨_,Evt.one fun f=>by rw [O8];dsimp only;rw [if_pos hk],Nat.le_refl _⟩
  ·have hi:=(E3 (show 0<=B2 L E s C9 by omega)).2.1;have h1:(B3 L E s ((l.length:Int)+1) 128 9).i=s.i:=D7;cases hl:okR (B3 L E s ((l.length:Int)+1) 128 9) with
   | false =>
    have hz:B2 L E (B3 L E s ((l.length:Int)+1) 128 9) C9<0:=by
     show S7 L E _ 0 C9<0;rw [amg_nok hl];decide
    have h2:Evt (fun f=>O8 L E f l (B3 L E s ((l.length:Int)+1) 128 9)) (l,B3 L E s ((l.length:Int)+1) 128 9):=Evt.one fun f=>by rw [O8];dsimp only;rw [if_pos hz]
    exact ⟨_,h2.ext fun f h=>by rw [O8];dsimp only;rw [if_neg hk,if_neg (by rw [hl];decide)];exact h,by show s.i<=(B3 L E s ((l.length:Int)+1) 128 9).i;omega⟩
   | true =>
    have h3:=dcl_ge (L:=L) (E:=E) (k:=B2 L E s C9) (s:=B3 L E s ((l.length:Int)+1) 128 9);obtain ⟨r,hr,hg⟩:=ih (L.length-(R5 L E (B2 L E s C9) (B3 L E s ((l.length:Int)+1) 128 9)).2.i) (by omega) (l++[(R5 L E (B2 L E s C9) (B3 L E s ((l.length:Int)+1) 128 9)).1]) _ (Nat.le_refl _);exact ⟨r,hr.ext fun f h=>by rw [O8];dsimp only;rw [if_neg hk,if_pos hl];exact h,by omega⟩
theorem rlm_tot:∀ (m:Nat) (l:List Md) (s:Rd),L.length-s.i<=m->∃ r,Evt (fun f=>O2 L E f l s) r/\s.i<=r.2.i:=by
 intro m
 induction m using Nat.strongRecOn with
 | _ m ih =>
  intro l s hs;by_cases hc:okR s=true/\s.i<L.length
  ·cases hm:isR L E s [109,111,100,101] with
   | false=>exact ⟨_,Evt.one fun f=>by rw [O2,if_pos hc,if_pos hm],by show s.i<=(J9 L E s).i;rw [O1];exact Nat.le_refl _⟩
   | true =>
    have h1:(B3 L E s ((l.length:Int)+1) 16 9).i=s.i:=D7;cases hl:okR (B3 L E s ((l.length:Int)+1) 16 9) with
    | false =>
     have h2:Evt (fun f=>O2 L E f l (B3 L E s ((l.length:Int)+1) 16 9)) (l,B3 L E s ((l.length:Int)+1) 16 9):=Evt.one fun f=>by rw [O2,if_neg (by rw [hl];simp)]
     exact ⟨_,h2.ext fun f h=>by rw [O2,if_pos hc,if_neg (by rw [hm];decide)];dsimp only;rw [if_neg (by rw [hl];decide)];exact h,by show s.i<=(B3 L E s ((l.length:Int)+1) 16 9).i;omega⟩
    | true =>
     have e0:=(E2 (by decide) hl).2.2;obtain ⟨⟨md,s2⟩,h2,hg,hlt⟩:=mod_tot (L:=L) (E:=E) s;have hlt:s.i<s2.i:=hlt hm;obtain ⟨r,hr,hg2⟩:=ih (L.length-s2.i) (by omega) (l++[md]) s2 (Nat.le_refl _);exact ⟨r,h2.ext2 hr fun f h2 hr=>by rw [O2,if_pos hc,if_neg (by rw [hm];decide)];dsimp only;rw [if_pos hl,e0,h2];exact hr,by omega⟩
  ·exact ⟨_,Evt.one fun f=>by rw [O2,if_neg hc],Nat.le_refl _⟩
theorem rul_tot (s:Rd):∃ r,Evt (fun f=>A2j L E f s) r:=by
 obtain ⟨⟨d,s1⟩,h1, -⟩:=rld_tot (L:=L) (E:=E) _ [] s (Nat.le_refl _);obtain ⟨⟨m,s2⟩,h2, -⟩:=rlm_tot (L:=L) (E:=E) _ [] s1 (Nat.le_refl _);exact ⟨_,h1.map2 h2 fun f h1 h2=>by unfold A2j;rw [h1];dsimp only;rw [h2]⟩
end
end Go.Pb
namespace Go.Pb
variable [Go.Sym.Tab]
open Go.Sym
def txB (c:UInt8):Bool:=decide (32<=c.toNat) && decide (c.toNat<=126)
end Go.Pb
namespace Go.Pb
variable [Go.Sym.Tab]
open Go.Sym
def H8 (k:Int):Nat:=if E4 k=6 then 1 else if E4 k<6 then 2 else 0
def namB (k:Int):Bool:=k == 5 || (k == 6 || k == 7)
def kOk (k:Int):Bool:=decide (E4 k<7) || (decide (1<=k) && decide (k<=24))
def Z7 (k:Int) (n:List UInt8):Bool:=if k=2\/namB k=true then F5 n else n == []
def A0e (k v:Int):Bool:=v == 0 || (k == 1 && (decide (0<v) && decide (v<=2147483647)))
def Z4 (k q:Int) (i:Nat):Bool:=decide (E4 q<E4 k) || (E4 q == E4 k && (i == 1 || E4 k == 3))
mutual
def msM:Ex->Option (Nat × Nat)
 | .mk k v n a p =>
  if kOk k=false\/a.length≠H8 k\/Z7 k n=false\/A0e k v=false then none
  else if H8 k=0 then some (1,0)
  else match msL k 0 a with
   | none=>none
   | some (o,d)=>some (o,if H8 k=1 then d+1 else d)
def msL (k:Int):Nat->List Ex->Option (Nat × Nat)
 | _,[]=>some (0,0)
 | i,e :: l=>match msM e with
  | none=>none
  | some (o,d)=>match msL k (i+1) l with
   | none=>none
   | some (o2,d2)=>some (o+o2,max (if Z4 k e.kind i=true then d+1 else d) d2)
end
def A2i (e:Ex):Bool:=match msM e with
 | some (o,d)=>decide (o<=32) && decide (d<=16)
 | none=>false
structure Shp where
 name:Bool
 text:Bool
 args:Nat
 thn:Bool
 els:Bool
def T5 (k:Int):Shp :=
 if k=1\/k=8\/k=10 then ⟨true,false,1,false,false⟩
 else if k=9 then ⟨true,false,2,false,false⟩
 else if k=2 then ⟨false,false,1,true,true⟩
 else if k=3 then ⟨false,false,1,true,false⟩
 else if k=4 then ⟨false,false,1,false,false⟩
 else if k=18 then ⟨false,true,1,false,false⟩
 else if k=19 then ⟨false,false,0,false,false⟩
 else ⟨true,false,0,false,false⟩
def W1 (s:List UInt8):Bool:=s.all txB && decide (s.length<=32)
mutual
def U6:Nat->St->Bool
 | d,.mk k n t a x y p =>
  (decide (1<=k) && decide (k<=19)) && (a.length == (T5 k).args && a.all A2i) &&
   ((if (T5 k).name=true then F5 n else n == []) && (if (T5 k).text=true then W1 t else t == [])) &&
   (((T5 k).thn || x.isEmpty) && ((T5 k).els || y.isEmpty)) &&
   ((decide (x.length<=64) && (x.isEmpty || decide (d+1<=8)) && G4 (d+1) x) && (decide (y.length<=64) && (y.isEmpty || decide (d+1<=8)) && G4 (d+1) y))
def G4:Nat->List St->Bool
 | _,[]=>true
 | d,s :: l=>U6 d s && G4 d l
end
def Q2 (l:List St) (d:Nat):Bool:=decide (l.length<=64) && (l.isEmpty || decide (d<=8)) && G4 d l
def A1h (d:Dc):Bool:=decide (1<=d.kind) && decide (d.kind<=8) && F5 d.name && decide ((if d.kind=6 then -2147483647 else 0)<=d.value) && decide (d.value<=(if d.kind=7\/d.kind=8 then 0 else 2147483647))
def A3l (h:Hd):Bool:=decide (1<=h.trig) && decide (h.trig<=6) && (if 3<=h.trig then F5 h.name else h.name == []) && Q2 h.body 1
def Z5 (m:Md):Bool:=F5 m.name && decide (0<=m.prio) && decide (m.prio<=2147483647) && decide (m.hds.length<=32) && m.hds.all A3l
def T4 (r:Ru):Bool:=decide (r.decls.length<=128) && decide (r.modes.length<=16) && r.decls.all A1h && r.modes.all Z5
def E8 (t:Tok):Prop:=(t.kind=1->F5 t.text=true)/\(t.kind=3->0<=t.value/\t.value<=2147483647)/\(t.kind=4->W1 t.text=true)
def SE (n:Int) (s:Rd) (e:Ex) (s':Rd):Prop :=
 okR s=true/\s'.par=s.par/\∃ o d,msM e=some (o,d)/\s'.ops=s.ops+(o:Int)/\s'.ops<=32/\((n<=E4 e.kind/\s.par+(d:Int)<=16)\/s.par+(d:Int)+1<=16)
theorem lev_lt {k:Int} (h:E4 k<7):10<=k/\k<=24:=by
 unfold E4 at h;repeat' split at h
 all_goals omega
theorem A7g {k:Int} (h:k=10\/k=11):E4 k=6:=by
 rcases h with rfl|rfl<;>rfl
theorem ms_bin {k:Int} {a b:Ex} {o1 d1 o2 d2:Nat} {p:Int} (hk:E4 k<6) (ha:msM a=some (o1,d1)) (hb:msM b=some (o2,d2)) :
  msM (.mk k 0 [] [a,b] p)=some (o1+o2,max (if Z4 k a.kind 0=true then d1+1 else d1) (if Z4 k b.kind 1=true then d2+1 else d2)):=by
 have hl:=lev_lt (k:=k) (by omega);have h1:kOk k=true:=by simp [kOk];left;omega
 have h2:H8 k=2:=by unfold H8;rw [if_neg (by omega),if_pos hk]
 have h3:Z7 k []=true:=by
  unfold Z7;rw [if_neg]
  ·rfl
  ·simp only [namB,Bool.or_eq_true,beq_iff_eq];omega
 have h4:A0e k 0=true:=by simp [A0e]
 unfold msM;rw [if_neg (by simp [h1,h2,h3,h4]),h2,if_neg (by omega)];simp only [msL,ha,hb,Nat.add_zero,Nat.zero_add,Nat.max_zero,if_neg (show ¬ 2=1 by omega)]
theorem ms_un {k:Int} {a:Ex} {o d:Nat} {p:Int} (hk:k=10\/k=11) (ha:msM a=some (o,d)) :
  msM (.mk k 0 [] [a] p)=some (o,(if Z4 k a.kind 0=true then d+1 else d)+1):=by
 have hl:=A7g hk;have h1:kOk k=true:=by simp [kOk];left;omega
 have h2:H8 k=1:=by unfold H8;rw [if_pos hl]
 have h3:Z7 k []=true:=by
  unfold Z7;rw [if_neg]
  ·rfl
  ·simp only [namB,Bool.or_eq_true,beq_iff_eq];omega
 have h4:A0e k 0=true:=by simp [A0e]
 unfold msM;rw [if_neg (by simp [h1,h2,h3,h4]),h2,if_neg (by omega)];simp only [msL,ha,Nat.add_zero,Nat.max_zero,if_true]
theorem ms_leaf {k v:Int} {n:List UInt8} {p:Int} (hk:E4 k=7) (h1:kOk k=true) (h3:Z7 k n=true) (h4:A0e k v=true):msM (.mk k v n [] p)=some (1,0):=by
 have h2:H8 k=0:=by unfold H8;rw [if_neg (by omega),if_neg (by omega)]
 unfold msM;rw [if_neg (by simp [h1,h2,h3,h4]),if_pos h2]
section
variable {L:List Tok} {E:Int}
theorem E7 {s:Rd} {t:List UInt8} (h:okR (B6 L E s t)=true):okR s=true:=(X5 (A4n h).1).1
theorem Q5 {s:Rd} {k:Int} (h:okR (A8 L E s k).2=true):okR s=true:=(E6 (U8 h).1).1
theorem prim_ok {s:Rd} (h:okR (I8 L E s).2=true):okR s=true:=by
 unfold I8 at h;dsimp only at h;split at h
 ·rw [U9] at h;cases h
 ·split at h
  ·rename_i h1;rw [h1] at h;cases h
  ·rename_i h1;have h2:okR (B3 L E { s with ops:=s.ops+1 } (s.ops+1) 32 9)=true:=by simpa using h1
   exact (E2 (by decide) h2).1
theorem prim_sound (hG:∀ t∈L,E8 t) {s s':Rd} {e:Ex} (h:I8 L E s=(e,s')) (hok:okR s'=true) (hp:s.par<=16):SE 7 s e s':=by
 have hs:okR s=true:=prim_ok (L:=L) (E:=E) (by rw [h];exact hok);have leaf:∀ (k v:Int) (n:List UInt8) (p:Int),E4 k=7->kOk k=true->Z7 k n=true->A0e k v=true->s.ops+1<=32->∀ s2:Rd,s2.par=s.par->s2.ops=s.ops+1->SE 7 s (.mk k v n [] p) s2:=by
  intro k v n p q1 q2 q3 q4 q6 s2 q7 q8;refine ⟨hs,q7,1,0,ms_leaf q1 q2 q3 q4,by rw [q8];rfl,by omega,.inl ⟨?_,by simpa using hp⟩⟩;show 7<=E4 k;omega
 unfold I8 at h;dsimp only at h;split at h
 ·cases h;rw [U9] at hok;cases hok
 rename_i hc;split at h
 ·rename_i h1;cases h;rw [h1] at hok;cases hok
 rename_i h1;have h2:okR (B3 L E { s with ops:=s.ops+1 } (s.ops+1) 32 9)=true:=by simpa using h1
 obtain ⟨-,h3,h4⟩:=E2 (by decide) h2;rw [h4] at h;split at h
 ·rename_i hk;obtain ⟨-, -, -,hk7⟩:=E3 hk;have hk7:B2 L E s D6<7:=hk7;generalize B2 L E s D6=k at h hk hk7;split at h
  ·rename_i hk4;cases h;obtain ⟨t1,t2⟩:=U8 hok;obtain ⟨t3,t4⟩:=E6 t1;have hn:=(hG _ (F8 (by decide) t4).1).1 t4;rw [t2];have:k=4\/k=5\/k=6:=by omega
   rcases this with rfl|rfl|rfl
   ·exact leaf 5 _ _ _ (by decide) (by decide) hn (by decide) h3 _ rfl rfl
   ·exact leaf 6 _ _ _ (by decide) (by decide) hn (by decide) h3 _ rfl rfl
   ·exact leaf 7 _ _ _ (by decide) (by decide) hn (by decide) h3 _ rfl rfl
  ·rename_i hk4;cases h;have:k=0\/k=1\/k=2\/k=3:=by omega
   rcases this with rfl|rfl|rfl|rfl
   all_goals exact leaf _ _ _ _ (by decide) (by decide) (by decide) (by decide) h3 _ rfl rfl
 ·rename_i hk;split at h
  ·rename_i hk3;cases h;have hn:=(hG _ (F8 (by decide) hk3).1).2.1 hk3;refine leaf 1 _ _ _ (by decide) (by decide) (by decide) ?_ h3 _ rfl rfl;simp only [A0e,Bool.or_eq_true,Bool.and_eq_true,beq_iff_eq,decide_eq_true_eq];by_cases h0:(B1 L E s).value=0
   ·exact .inl h0
   ·exact .inr ⟨trivial,by omega,hn.2⟩
  ·rename_i hk3;cases h;have h1k:F1 L E s 1=true:=by
    cases hz:F1 L E s 1 with
    | true=>rfl
    | false =>
     refine absurd ⟨by omega,?_,hz⟩ hc;cases hy:F1 L E s 3 with
     | false=>rfl
     | true=>exact absurd (E6 hy).2 hk3
   have hn:=(hG _ (F8 (by decide) (E6 h1k).2).1).1 (E6 h1k).2;exact leaf 2 _ _ _ (by decide) (by decide) hn (by decide) h3 _ rfl rfl
theorem OB.all:∀ f:Nat,(∀ n s r,F2 L E f n s=some r->okR r.2=true->okR s=true)/\(∀ n e s r,K3 L E f n e s=some r->okR r.2=true->okR s=true)/\(∀ s r,N5 L E f s=some r->okR r.2=true->okR s=true)
 | 0=>⟨fun n s r h=>by simp [F2] at h,fun n e s r h=>by simp [K3] at h,fun s r h=>by simp [N5] at h⟩
 | f+1=>by
  obtain ⟨i1,i2,i3⟩:=OB.all f;refine ⟨fun n s r h k=>?_,fun n e s r h k=>?_,fun s r h k=>?_⟩
  ·unfold F2 at h;split at h
   ·exact i3 _ _ h k
   ·split at h
    ·cases h
    ·rename_i hb;exact i1 _ _ _ hb (i2 _ _ _ _ h k)
  ·unfold K3 at h;dsimp only at h;split at h
   ·cases h;exact k
   ·rename_i hk;exact (E3 (show 0<=B2 L E s C2 from Classical.byContradiction fun g=>hk (.inl (by omega)))).1
  ·unfold N5 at h;dsimp only at h;split at h
   ·cases h;exact prim_ok k
   ·rename_i hk;exact (E3 (show 0<=B2 L E s J6 by omega)).1
theorem SE.weak {m n:Int} {s s':Rd} {e:Ex} (hmn:n<=m) (h:SE m s e s'):SE n s e s':=by
 obtain ⟨h1,h2,o,d,h3,h4,h5,h6⟩:=h;exact ⟨h1,h2,o,d,h3,h4,h5,h6.imp (fun h=>⟨by omega,h.2⟩) id⟩
theorem SE.all (hG:∀ t∈L,E8 t):∀ f:Nat,(∀ n s r,1<=n->n<=6->F2 L E f n s=some r->okR r.2=true->s.par<=16->SE n s r.1 r.2) /\
  (∀ n m e s s0 r,1<=n->n<=5->(m=n+1\/m=n/\n≠3)->K3 L E f n e s=some r->okR r.2=true->SE m s0 e s->s0.par<=16->SE n s0 r.1 r.2) /\
  (∀ s r,N5 L E f s=some r->okR r.2=true->s.par<=16->SE 6 s r.1 r.2)
 | 0=>⟨fun n s r _ _ h=>by simp [F2] at h,fun n m e s s0 r _ _ _ h=>by simp [K3] at h,fun s r h=>by simp [N5] at h⟩
 | f+1=>by
  obtain ⟨i1,i2,i3⟩:=SE.all hG f;refine ⟨fun n s r n1 n6 h k hp=>?_,fun n m e s s0 r n1 n5 hm h k he hp=>?_,fun s r h k hp=>?_⟩
  ·unfold F2 at h;split at h
   ·have:=i3 _ _ h k hp;exact this.weak n6
   ·rename_i hn;split at h
    ·cases h
    ·rename_i e s1 hb;have k1:=(OB.all f).2.1 _ _ _ _ h k;have h1:=i1 _ _ _ (by omega) (by omega) hb k1 hp;exact i2 n (n+1) _ _ s _ n1 (by omega) (.inl rfl) h k h1 hp
  ·unfold K3 at h;dsimp only at h;split at h
   ·cases h;exact he.weak (by omega)
   ·rename_i hk;have hk0:0<=B2 L E s C2:=Classical.byContradiction fun g=>hk (.inl (by omega));have hlv:E4 (12+B2 L E s C2)=n:=Classical.byContradiction fun g=>hk (.inr g);split at h
    ·cases h
    ·rename_i x s1 hb;obtain ⟨e1,e2,o1,d1,e3,e4,e5,e6⟩:=he;have step:okR s1=true->SE n s0 (.mk (12+B2 L E s C2) 0 [] [e,x] (B1 L E s).pos) s1:=by
      intro k1;obtain ⟨x1,x2,o2,d2,x3,x4,x5,x6⟩:=i1 _ _ _ (by omega) (by omega) hb k1 (by show s.par<=16;omega);have x2':s1.par=s.par:=x2;have x4':s1.ops=s.ops+(o2:Int):=x4;have x6':((n+1<=E4 x.kind/\s.par+(d2:Int)<=16)\/s.par+(d2:Int)+1<=16):=x6;refine ⟨e1,by omega,_,_,ms_bin (by omega) e3 x3,by rw [x4',e4];omega,x5,.inl ⟨?_,?_⟩⟩
      ·show n<=E4 (12+B2 L E s C2);omega
      ·have w1:s0.par+((if Z4 (12+B2 L E s C2) e.kind 0=true then d1+1 else d1:Nat):Int)<=16:=by
        split
        ·rename_i hw;simp only [Z4,Bool.or_eq_true,Bool.and_eq_true,decide_eq_true_eq,beq_iff_eq,hlv] at hw;omega
        ·omega
       have w2:s0.par+((if Z4 (12+B2 L E s C2) x.kind 1=true then d2+1 else d2:Nat):Int)<=16:=by
        split
        ·rename_i hw;simp only [Z4,Bool.or_eq_true,Bool.and_eq_true,decide_eq_true_eq,beq_iff_eq,hlv] at hw;omega
        ·omega
       omega
     split at h
     ·cases h;exact step k
     ·rename_i hn3;have k1:=(OB.all f).2.1 _ _ _ _ h k;exact i2 n n _ _ s0 _ n1 n5 (.inr ⟨rfl,hn3⟩) h k (step k1) hp
  ·unfold N5 at h;dsimp only at h;split at h
   ·cases h;exact (prim_sound hG rfl k hp).weak (by decide)
   ·rename_i hk;obtain ⟨hs,hi, -,hk3⟩:=E3 (show 0<=B2 L E s J6 by omega);have hk3:B2 L E s J6<3:=hk3;split at h
    ·rename_i hl;cases h;rw [hl] at k;cases k
    rename_i hl;have hl:okR (B3 L E s (s.par+1) 16 50)=true:=by simpa using hl
    obtain ⟨-,h2,h3⟩:=E2 (by decide) hl;rw [h3] at h;split at h
    ·split at h
     ·cases h
     ·rename_i e s3 hb;cases h;have k3:okR (B6 L E s3 [41])=true:=k;obtain ⟨-,x2⟩:=A4n k3;obtain ⟨e1,e2,o,d,e3,e4,e5,e6⟩:=i1 1 _ _ (by decide) (by decide) hb (E7 k3) (show s.par+1<=16 from h2);have e2':s3.par=s.par+1:=e2;have e4':s3.ops=s.ops+(o:Int):=e4;have e6':((1<=E4 e.kind/\s.par+1+(d:Int)<=16)\/s.par+1+(d:Int)+1<=16):=e6;rw [x2];refine ⟨hs,by show s3.par-1=s.par;omega,o,d,e3,e4',e5,.inr (by omega)⟩
    ·rename_i hk2;split at h
     ·cases h
     ·rename_i e s3 hb;cases h;have k3:okR s3=true:=k;obtain ⟨e1,e2,o,d,e3,e4,e5,e6⟩:=i3 _ _ hb k3 (show s.par+1<=16 from h2);have e2':s3.par=s.par+1:=e2;have e4':s3.ops=s.ops+(o:Int):=e4;have e6':((6<=E4 e.kind/\s.par+1+(d:Int)<=16)\/s.par+1+(d:Int)+1<=16):=e6;have hk10:10+B2 L E s J6=10\/10+B2 L E s J6=11:=by omega
      refine ⟨hs,by show s3.par-1=s.par;omega,o,_,ms_un hk10 e3,e4',e5,.inl ⟨?_,?_⟩⟩
      ·show 6<=E4 (10+B2 L E s J6);rw [A7g hk10];decide
      ·split
       ·rename_i hw;simp only [Z4,Bool.or_eq_true,Bool.and_eq_true,decide_eq_true_eq,beq_iff_eq,A7g hk10] at hw;omega
       ·omega
theorem J2 (hG:∀ t∈L,E8 t) {f:Nat} {s:Rd} {r:Ex × Rd} (h:M1 L E f s=some r) (hok:okR r.2=true):okR s=true/\A2i r.1=true:=by
 obtain ⟨h1,h2,o,d,h3,h4,h5,h6⟩:=(SE.all hG f).1 1 _ _ (by decide) (by decide) h hok (by decide:(0:Int)<=16);refine ⟨h1,?_⟩;have h4':r.2.ops=0+(o:Int):=h4;have h6':((1<=E4 r.1.kind/\0+(d:Int)<=16)\/0+(d:Int)+1<=16):=h6;unfold A2i;rw [h3];simp only [Bool.and_eq_true,decide_eq_true_eq];omega
end
end Go.Pb
namespace Go.Pb
variable [Go.Sym.Tab]
open Go.Sym
section
variable {L:List Tok} {E:Int}
theorem L0 (hG:∀ t∈L,E8 t) {s:Rd} (h:okR (A8 L E s 1).2=true):F5 (A8 L E s 1).1.text=true:=by
 obtain ⟨h1,h2⟩:=U8 h;rw [h2];exact (hG _ (F8 (by decide) (E6 h1).2).1).1 (E6 h1).2
theorem take_num (hG:∀ t∈L,E8 t) {s:Rd} (h:okR (A8 L E s 3).2=true):0<=(A8 L E s 3).1.value/\(A8 L E s 3).1.value<=2147483647:=by
 obtain ⟨h1,h2⟩:=U8 h;rw [h2];exact (hG _ (F8 (by decide) (E6 h1).2).1).2.1 (E6 h1).2
theorem take_txt (hG:∀ t∈L,E8 t) {s:Rd} (h:okR (A8 L E s 4).2=true):W1 (A8 L E s 4).1.text=true:=by
 obtain ⟨h1,h2⟩:=U8 h;rw [h2];exact (hG _ (F8 (by decide) (E6 h1).2).1).2.2 (E6 h1).2
theorem U5 {d:Nat} {k p:Int} {n t:List UInt8} {a:List Ex} (h1:1<=k) (h2:k<=19) (h3:a.length=(T5 k).args) (h4:a.all A2i=true)
  (h5:(if (T5 k).name=true then F5 n else n == [])=true) (h6:(if (T5 k).text=true then W1 t else t == [])=true):U6 d (.mk k n t a [] [] p)=true:=by
 unfold U6;simp only [Bool.and_eq_true,decide_eq_true_eq,beq_iff_eq];exact ⟨⟨⟨⟨⟨h1,h2⟩,h3,h4⟩,h5,h6⟩,by simp⟩,by simp [G4]⟩
theorem tail_sound (hG:∀ t∈L,E8 t) {f:Nat} {k p:Int} {s:Rd} {r:St × Rd} (d:Nat) (hk4:4<=k) (hk:k<=19) (h:I6 L E f k p s=some r) (hok:okR r.2=true):okR s=true/\U6 d r.1=true:=by
 unfold I6 at h;dsimp only at h;split at h
 ·rename_i hk;subst hk;split at h
  ·cases h
  ·rename_i e s1 he;cases h;obtain ⟨h1,h2⟩:=J2 hG he (E7 hok);exact ⟨h1,U5 (by decide) (by decide) rfl (by simp [h2]) rfl rfl⟩
 split at h
 ·rename_i hk;subst hk;split at h
  ·cases h
  ·rename_i e s1 he;cases h;obtain ⟨h1,h2⟩:=J2 hG he (E7 hok);have h3:=E7 h1;exact ⟨Q5 h3,U5 (by decide) (by decide) rfl (by simp [h2]) rfl (take_txt hG h3)⟩
 split at h
 ·rename_i hk;subst hk;cases h;exact ⟨E7 hok,U5 (by decide) (by decide) rfl rfl rfl rfl⟩
 rename_i n4 n18 n19;split at h
 ·rename_i hk;split at h
  ·cases h
  ·rename_i e s1 he;split at h
   ·rename_i hk9;subst hk9;split at h
    ·cases h
    ·rename_i e2 s2 he2;cases h;obtain ⟨h1,h2⟩:=J2 hG he2 (E7 hok);obtain ⟨h3,h4⟩:=J2 hG he (E7 h1);exact ⟨Q5 h3,U5 (by decide) (by decide) rfl (by simp [h2,h4]) (L0 hG h3) rfl⟩
   ·rename_i hk9;cases h;obtain ⟨h1,h2⟩:=J2 hG he (E7 hok);have:k=8\/k=10:=by omega
    rcases this with rfl|rfl
    all_goals exact ⟨Q5 h1,U5 (by decide) (by decide) rfl (by simp [h2]) (L0 hG h1) rfl⟩
 ·rename_i hk8;cases h;have h1:=E7 hok;have hs:T5 k=⟨true,false,0,false,false⟩:=by
   unfold T5;rw [if_neg (by omega),if_neg (by omega),if_neg (by omega),if_neg (by omega),if_neg (by omega),if_neg (by omega),if_neg (by omega)]
  exact ⟨Q5 h1,U5 (by omega) hk (by rw [hs];rfl) rfl (by rw [hs];exact L0 hG h1) (by rw [hs];rfl)⟩
theorem A3j {d:Nat}:∀ {l:List St} {x:St},G4 d (l++[x])=(G4 d l && U6 d x)
 | [],x=>by simp [G4]
 | a :: l,x=>by rw [List.cons_append,G4,G4,A3j,Bool.and_assoc]
theorem vl_block {d:Nat} {k p:Int} {e:Ex} {t o:List St} (hk:k=2\/k=3) (he:A2i e=true) (ht:Q2 t (d+1)=true) (ho:Q2 o (d+1)=true) (h3:k=3->o=[]):U6 d (.mk k [] [] [e] t o p)=true:=by
 unfold Q2 at ht ho;unfold U6;rcases hk with rfl|rfl
 ·simp only [T5];simp [he,ht,ho];simpa using And.intro ht ho
 ·obtain rfl:=h3 rfl;simp only [T5];simp [he,G4];simpa using ht
theorem SS.all (hG:∀ t∈L,E8 t):∀ f:Nat,(∀ (d:Nat) s r,I4 L E f d s=some r->okR r.2=true->okR s=true/\Q2 r.1 d=true) /\
  (∀ (d:Nat) l s r,L2 L E f d l s=some r->okR r.2=true->okR s=true/\(G4 d l=true->l.length<=64->(l=[]\/d<=8)->Q2 r.1 d=true)) /\
  (∀ (d:Nat) s r,M7 L E f d s=some r->okR r.2=true->okR s=true/\d<=8/\U6 d r.1=true) /\
  (∀ (d:Nat) s r,L6 L E f d s=some r->okR r.2=true->okR s=true/\Q2 r.1 (d+1)=true)
 | 0=>⟨fun d s r h=>by simp [I4] at h,fun d l s r h=>by simp [L2] at h,fun d s r h=>by simp [M7] at h,fun d s r h=>by simp [L6] at h⟩
 | f+1=>by
  obtain ⟨i1,i2,i3,i4⟩:=SS.all hG f;have hd1:∀ d:Nat,(d:Int)+1=((d+1:Nat):Int):=fun d=>by omega
  refine ⟨fun d s r h k=>?_,fun d l s r h k=>?_,fun d s r h k=>?_,fun d s r h k=>?_⟩
  ·unfold I4 at h;obtain ⟨h1,h2⟩:=i2 _ _ _ _ h k;exact ⟨E7 h1,h2 rfl (by simp) (.inl rfl)⟩
  ·unfold L2 at h;split at h
   ·rename_i hc;refine ⟨hc.1,fun h1 h2 h3=>?_⟩;split at h
    ·cases h;rw [U9] at k;cases k
    ·split at h
     ·cases h
     ·rename_i x s1 he;obtain ⟨h4,h5⟩:=i2 _ _ _ _ h k;obtain ⟨h6,h7,h8⟩:=i3 _ _ _ he h4;obtain ⟨-,h9, -⟩:=E2 (by decide) h6;exact h5 (by rw [A3j,h1,h8];rfl) (by simp only [List.length_append,List.length_singleton];omega) (.inr h7)
   ·cases h;refine ⟨E7 k,fun h1 h2 h3=>?_⟩;unfold Q2;simp only [Bool.and_eq_true,Bool.or_eq_true,decide_eq_true_eq];exact ⟨⟨h2,h3.imp (fun h=>by rw [h];rfl) id⟩,h1⟩
  ·unfold M7 at h;dsimp only at h;split at h
   ·rename_i hl;cases h;rw [hl] at k;cases k
   rename_i hl;have hl:okR (B3 L E s d 8 50)=true:=by simpa using hl
   obtain ⟨hs,hd,hle⟩:=E2 (by decide) hl;rw [hle] at h;refine ⟨hs,by omega,?_⟩;split at h
   ·split at h
    ·cases h
    ·rename_i e s1 he;cases h;obtain ⟨h1,h2⟩:=J2 hG he (E7 k);exact U5 (by decide) (by decide) rfl (by simp [h2]) (L0 hG (E7 h1)) rfl
   ·rename_i hk;obtain ⟨-,hi, -,hk18⟩:=E3 (show 0<=B2 L E s B7 by omega);have hk18:B2 L E s B7<18:=hk18;generalize B2 L E s B7=q at h hk hk18;split at h
    ·rename_i hq;split at h
     ·cases h
     ·rename_i e s2 he;split at h
      ·cases h
      ·rename_i t s3 ht;rw [hd1] at ht;split at h
       ·rename_i hc;split at h
        ·cases h
        ·rename_i o s4 ho;cases h;obtain ⟨o1,o2⟩:=i4 _ _ _ ho k;obtain ⟨t1,t2⟩:=i1 _ _ _ ht (show okR s3=true from o1);obtain ⟨e1,e2⟩:=J2 hG he t1;exact vl_block (.inl rfl) e2 t2 o2 (fun h=>absurd h (by decide))
       ·cases h;obtain ⟨t1,t2⟩:=i1 _ _ _ ht k;obtain ⟨e1,e2⟩:=J2 hG he t1;exact vl_block (by omega) e2 t2 (by simp [Q2,G4]) (fun _=>rfl)
    ·rename_i hq;exact (tail_sound hG d (by omega) (by omega) h k).2
  ·unfold L6 at h;rw [hd1] at h;split at h
   ·split at h
    ·cases h
    ·rename_i x s1 he;cases h;obtain ⟨h1,h2,h3⟩:=i3 _ _ _ he k;refine ⟨h1,?_⟩;unfold Q2;simp only [Bool.and_eq_true,Bool.or_eq_true,decide_eq_true_eq];exact ⟨⟨by simp,.inr h2⟩,by rw [G4,G4,h3];rfl⟩
   ·exact i1 _ _ _ h k
theorem dcl_sound (hG:∀ t∈L,E8 t) {k:Int} {s:Rd} (h0:0<=k) (h8:k<8) (h:okR (R5 L E k s).2=true):A1h (R5 L E k s).1=true:=by
 have key:∀ d:Dc,1<=d.kind->d.kind<=8->F5 d.name=true->(if d.kind=6 then -2147483647 else 0)<=d.value->d.value<=(if d.kind=7\/d.kind=8 then 0 else 2147483647)->A1h d=true:=by
  intro d a1 a2 a3 a4 a5;simp only [A1h,Bool.and_eq_true,decide_eq_true_eq];exact ⟨⟨⟨⟨a1,a2⟩,a3⟩,a4⟩,a5⟩
 unfold R5 at h ⊢;dsimp only at h ⊢;split at h
 ·rename_i hk;rw [if_pos hk];have h1:=E7 h;obtain ⟨n0,n1⟩:=take_num hG h1;have h2:=Q5 h1;have h3:okR (A8 L E (B0 s) 1).2=true:=by
   split at h2
   ·exact h2
   ·exact h2
  refine key _ (by dsimp only;omega) (by dsimp only;omega) (L0 hG h3) ?_ ?_
  ·dsimp only;generalize (A8 L E (if (k+1 == 6 && isR L E (A8 L E (B0 s) 1).2 [45])=true then B0 (A8 L E (B0 s) 1).2 else (A8 L E (B0 s) 1).2) 3).1.value=w at n0 n1 ⊢;by_cases h6:k+1=6
   ·rw [if_pos (by omega)];split<;>omega
   ·rw [if_neg (by omega),if_neg (by simp [h6])];exact n0
  ·dsimp only;generalize (A8 L E (if (k+1 == 6 && isR L E (A8 L E (B0 s) 1).2 [45])=true then B0 (A8 L E (B0 s) 1).2 else (A8 L E (B0 s) 1).2) 3).1.value=w at n0 n1 ⊢;rw [if_neg (by omega:¬ (1+k=7\/1+k=8))];split<;>omega
 ·rename_i hk;rw [if_neg hk];have h3:=E7 h;refine key _ (by dsimp only;omega) (by dsimp only;omega) (L0 hG h3) ?_ ?_
  ·dsimp only;rw [if_neg (by omega)];decide
  ·dsimp only;split<;>decide
theorem A5w (hG:∀ t∈L,E8 t):∀ (f:Nat) (l:List Hd) (s:Rd) (r:List Hd × Rd),Q6 L E f l s=some r->okR r.2=true->okR s=true/\(l.length<=32->l.all A3l=true->r.1.length<=32/\r.1.all A3l=true)
 | 0,l,s,r,h,_=>by simp [Q6] at h
 | f+1,l,s,r,h,k=>by
  unfold Q6 at h;dsimp only at h;split at h
  ·rename_i hc;refine ⟨hc.1,fun h1 h2=>?_⟩;split at h
   ·cases h;rw [U9] at k;cases k
   split at h
   ·cases h;rw [U9] at k;cases k
   rename_i hk;obtain ⟨hok2,hi2, -,hk6⟩:=E3 (show 0<=B2 L E (B6 L E (B3 L E s ((l.length:Int)+1) 32 9) [111,110]) D4 by omega);have hk6:B2 L E (B6 L E (B3 L E s ((l.length:Int)+1) 32 9) [111,110]) D4<6:=hk6;obtain ⟨-,hll, -⟩:=E2 (by decide) (E7 hok2);generalize B2 L E (B6 L E (B3 L E s ((l.length:Int)+1) 32 9) [111,110]) D4=q at h hk hk6;split at h
   ·cases h
   ·rename_i b s5 hb;obtain ⟨m1,m2⟩:=A5w hG f _ _ _ h k;obtain ⟨b1,b2⟩:=(SS.all hG f).1 1 _ _ hb m1;refine m2 (by simp only [List.length_append,List.length_singleton];omega) ?_;rw [List.all_append,h2,Bool.true_and];simp only [List.all_cons,List.all_nil,Bool.and_true,A3l,Bool.and_eq_true,decide_eq_true_eq];refine ⟨⟨⟨by omega,by omega⟩,?_⟩,b2⟩;by_cases hq:2<=q
    ·rw [if_pos (by omega),if_pos hq];rw [if_pos hq] at b1;exact L0 hG b1
    ·rw [if_neg (by omega),if_neg hq];rfl
  ·cases h;exact ⟨E7 k,fun h1 h2=>⟨h1,h2⟩⟩
theorem mod_sound (hG:∀ t∈L,E8 t) {f:Nat} {s:Rd} {r:Md × Rd} (h:A1a L E f s=some r) (k:okR r.2=true):okR s=true/\Z5 r.1=true:=by
 unfold A1a at h;dsimp only at h;split at h
 ·cases h
 ·rename_i l s3 hm;cases h;obtain ⟨m1,m2⟩:=A5w hG _ _ _ _ hm k;obtain ⟨m3,m4⟩:=m2 (by simp) rfl;have h1:=E7 m1;have h2:=Q5 h1;obtain ⟨n0,n1⟩:=take_num hG h1;refine ⟨E7 (Q5 h2),?_⟩;simp only [Z5,Bool.and_eq_true,decide_eq_true_eq];exact ⟨⟨⟨⟨L0 hG h2,n0⟩,n1⟩,m3⟩,m4⟩
theorem A1n (hG:∀ t∈L,E8 t):∀ (f:Nat) (l:List Dc) (s:Rd) (r:List Dc × Rd),O8 L E f l s=some r->okR r.2=true->okR s=true/\(l.length<=128->l.all A1h=true->r.1.length<=128/\r.1.all A1h=true)
 | 0,l,s,r,h,_=>by simp [O8] at h
 | f+1,l,s,r,h,k=>by
  unfold O8 at h;dsimp only at h;split at h
  ·cases h;exact ⟨k,fun h1 h2=>⟨h1,h2⟩⟩
  ·rename_i hk;obtain ⟨hs,hi, -,hk8⟩:=E3 (show 0<=B2 L E s C9 by omega);have hk8:B2 L E s C9<8:=hk8;refine ⟨hs,fun h1 h2=>?_⟩;split at h
   ·rename_i hl;obtain ⟨-,hll,hle⟩:=E2 (by decide) hl;obtain ⟨m1,m2⟩:=A1n hG f _ _ _ h k;exact m2 (by simp only [List.length_append,List.length_singleton];omega) (by rw [List.all_append,h2,Bool.true_and,List.all_cons,dcl_sound hG (by omega) hk8 m1];rfl)
   ·rename_i hl;obtain ⟨m1,m2⟩:=A1n hG f _ _ _ h k;exact absurd m1 hl
theorem A1m (hG:∀ t∈L,E8 t):∀ (f:Nat) (l:List Md) (s:Rd) (r:List Md × Rd),O2 L E f l s=some r->okR r.2=true->okR s=true/\(l.length<=16->l.all Z5=true->r.1.length<=16/\r.1.all Z5=true)
 | 0,l,s,r,h,_=>by simp [O2] at h
 | f+1,l,s,r,h,k=>by
  unfold O2 at h;dsimp only at h;split at h
  ·rename_i hc;refine ⟨hc.1,fun h1 h2=>?_⟩;split at h
   ·cases h;rw [U9] at k;cases k
   split at h
   ·rename_i hl;split at h
    ·cases h
    ·rename_i m s2 hm;obtain ⟨m1,m2⟩:=A1m hG f _ _ _ h k;obtain ⟨q1,q2⟩:=mod_sound hG hm m1;obtain ⟨-,hll,hle⟩:=E2 (by decide) hl;exact m2 (by simp only [List.length_append,List.length_singleton];omega) (by rw [List.all_append,h2,Bool.true_and,List.all_cons,q2];rfl)
   ·rename_i hl;obtain ⟨m1,m2⟩:=A1m hG f _ _ _ h k;exact absurd m1 hl
  ·cases h;exact ⟨k,fun h1 h2=>⟨h1,h2⟩⟩
theorem rul_sound (hG:∀ t∈L,E8 t) {f:Nat} {s:Rd} {r:Ru × Rd} (h:A2j L E f s=some r) (k:okR r.2=true):T4 r.1=true:=by
 unfold A2j at h;split at h
 ·cases h
 ·rename_i d s1 hd;split at h
  ·cases h
  ·rename_i m s2 hm;cases h;obtain ⟨m1,m2⟩:=A1m hG _ _ _ _ hm k;obtain ⟨m3,m4⟩:=m2 (by simp) rfl;obtain ⟨d1,d2⟩:=A1n hG _ _ _ _ hd m1;obtain ⟨d3,d4⟩:=d2 (by simp) rfl;simp only [T4,Bool.and_eq_true,decide_eq_true_eq];exact ⟨⟨⟨d3,m3⟩,d4⟩,m4⟩
end
end Go.Pb
namespace Go.Pb
variable [Go.Sym.Tab]
open Go.Sym
theorem A5n {p:UInt8->Bool}:∀ (s:List UInt8),B5 p (s.take (B5 p s))=B5 p s
 | []=>rfl
 | c :: r=>by
  have ih:=A5n (p:=p) r;by_cases h:p c=true
  ·simp only [B5,h,if_true,List.take_succ_cons];rw [ih]
  ·simp only [B5,h,if_false,List.take_zero,Bool.false_eq_true]
theorem A6v:∀ {s t:List UInt8} {n:Nat},quM s=some (t,n)->t.all txB=true
 | [],t,n,h=>by simp [quM] at h
 | c :: r,t,n,h=>by
  rw [I7] at h;split at h
  ·cases h;rfl
  ·split at h
   ·cases h
   ·rename_i h34 hr;split at h
    ·cases r with
     | nil=>cases h
     | cons d q =>
      simp only at h;split at h
      ·rename_i hd;obtain ⟨⟨t',n'⟩,h1,h2⟩:=Option.map_eq_some_iff.1 h;have:=A6v h1;cases h2;simp only [List.all_cons,this,Bool.and_true,txB,Bool.and_eq_true,decide_eq_true_eq];omega
      ·cases h
    ·obtain ⟨⟨t',n'⟩,h1,h2⟩:=Option.map_eq_some_iff.1 h;have:=A6v h1;cases h2;simp only [List.all_cons,this,Bool.and_true,txB,Bool.and_eq_true,decide_eq_true_eq];omega
theorem nextM_good {s:List UInt8} {p:Int} (h:(A5 s).err=0):E8 (nxT (A5 s) p)/\0<=(A5 s).value/\(A5 s).value<=2147483647:=by
 unfold E8;cases s with
 | nil=>simp [A5,nxE] at h
 | cons c q =>
  by_cases hl:ltB c=true
  ·by_cases h12:12<B5 ptB (c :: q)
   ·rw [A5,if_pos hl,if_pos h12] at h;simp [nxE] at h
   ·rw [A5,if_pos hl,if_neg h12,nxT];refine ⟨⟨fun hk=>?_,fun hk=>?_,fun hk=>?_⟩,by simp,by simp⟩
    ·simp only at hk ⊢;have hw:G6 ((c :: q).take (B5 ptB (c :: q)))=false:=by
      cases hz:G6 ((c :: q).take (B5 ptB (c :: q))) with
      | false=>rfl
      | true=>rw [hz] at hk;simp at hk
     have hp:ptB c=true:=by unfold ptB;rw [hl];rfl
     have h1:1<=B5 ptB (c :: q):=by simp only [B5,hp,if_true];omega
     have hle:=V2 ptB (c :: q);have hlen:((c :: q).take (B5 ptB (c :: q))).length=B5 ptB (c :: q):=by rw [List.length_take];omega
     have hhd:∃ r,(c :: q).take (B5 ptB (c :: q))=c :: r:=by
      obtain ⟨k,hk⟩:∃ k,B5 ptB (c :: q)=k+1:=⟨B5 ptB (c :: q)-1,by omega⟩;rw [hk];exact ⟨_,rfl⟩
     unfold F5;rw [hlen,hw,A5n];obtain ⟨r,hr⟩:=hhd;rw [hr];simp only [hl,Bool.and_true,Bool.not_false,Bool.and_eq_true,decide_eq_true_eq];exact ⟨⟨h1,by omega⟩,trivial⟩
    ·simp only at hk;split at hk<;>simp at hk
    ·simp only at hk;split at hk<;>simp at hk
  ·by_cases hd:dgB c=true
   ·by_cases h3:1<B5 dgB (c :: q)/\c.toNat=48
    ·rw [A5,if_neg hl,if_pos hd,if_pos h3] at h;simp [nxE] at h
    ·by_cases h2:2147483647<S5 ((c :: q).take (B5 dgB (c :: q)))
     ·rw [A5,if_neg hl,if_pos hd,if_neg h3,if_pos h2] at h;simp [nxE] at h
     ·rw [A5,if_neg hl,if_pos hd,if_neg h3,if_neg h2,nxT];refine ⟨⟨fun hk=>by simp at hk,fun hk=>?_,fun hk=>by simp at hk⟩,?_⟩
      ·simp only;omega
      ·simp only;omega
   ·by_cases h34:c.toNat=34
    ·cases hq:quM q with
     | none=>rw [A5,if_neg hl,if_neg hd,if_pos h34,hq] at h;simp [nxE] at h
     | some x =>
      obtain ⟨t,m⟩:=x;by_cases h32:32<t.length
      ·rw [A5,if_neg hl,if_neg hd,if_pos h34,hq] at h;simp only at h;rw [if_pos h32] at h;simp [nxE] at h
      ·rw [A5,if_neg hl,if_neg hd,if_pos h34,hq];simp only;rw [if_neg h32,nxT];refine ⟨⟨fun hk=>by simp at hk,fun hk=>by simp at hk,fun hk=>?_⟩,by simp,by simp⟩;simp only [W1,A6v hq,Bool.true_and,decide_eq_true_eq];omega
    ·by_cases hs:D0 (c :: q)=0
     ·rw [A5,if_neg hl,if_neg hd,if_neg h34,if_pos hs] at h;simp [nxE] at h
     ·rw [A5,if_neg hl,if_neg hd,if_neg h34,if_neg hs,nxT];exact ⟨⟨fun hk=>by simp at hk,fun hk=>by simp at hk,fun hk=>by simp at hk⟩,by simp,by simp⟩
theorem TOk.good {t:Tok} (h:TOk t):E8 t/\0<=t.value/\t.value<=2147483647:=by
 obtain ⟨s,p,h1,rfl⟩:=h;obtain ⟨h2,h3⟩:=nextM_good (p:=p) h1;exact ⟨h2,h3⟩
theorem A3s {s:List UInt8} (h:(D5 s).2.2=0):∀ t∈(D5 s).1,E8 t:=fun t ht=>(scan_ok h t ht).good.1
theorem scan_val {s:List UInt8} (h:(D5 s).2.2=0):∀ t∈(D5 s).1,0<=t.value/\t.value<=9223372036854775807:=fun t ht=>by
 have:=(scan_ok h t ht).good.2;omega
theorem scan_le {s:List UInt8} (h:(D5 s).2.2=0):(D5 s).1.length<=20000:=Nat.le_trans (scanM_len s) (X2 h).1
def rd0:Rd:=⟨0,0,0,0,0⟩
def A2k (L:List Tok) (E:Int):Ru × Rd:=Classical.choose (rul_tot (L:=L) (E:=E) rd0)
theorem A3t (L:List Tok) (E:Int):Evt (fun f=>A2j L E f rd0) (A2k L E):=Classical.choose_spec (rul_tot (L:=L) (E:=E) rd0)
def Ru0:Ru:=⟨[],[]⟩
def K5 (s:List UInt8):Ru × Int × Int :=
 let q:=D5 s
 if q.2.2≠0 then (Ru0,q.2.1,q.2.2)
 else if okR (A2k q.1 s.length).2=false then (Ru0,(A2k q.1 s.length).2.pos,(A2k q.1 s.length).2.e)
 else ((A2k q.1 s.length).1,0,0)
abbrev parV (q:Ru × Int × Int):DV:=.tup [q.1.v,I64 q.2.1,I64 q.2.2]
theorem parV_nl (q:Ru × Int × Int):(parV q).nl=true:=by
 simp only [DV.nl,DV.nlL,Ru.nl,P6,P5,Bool.and_true]
theorem parM_valid (s:List UInt8):T4 (K5 s).1=true:=by
 unfold K5;dsimp only;split
 ·rfl
 ·rename_i h;split
  ·rfl
  ·rename_i h2;obtain ⟨f,hf⟩:=(A3t (D5 s).1 s.length).get;exact rul_sound (A3s (by simpa using h)) hf (by simpa using h2)
end Go.Pb
namespace Go.Proofs.YtnmkkggfgdfmeaaGreatDoor
open Go.Eng (IC IOper DReg IFn A3)
open Go.Sym Go.Pb
theorem pc_ru0 {H:Hp} {a b:DV}:∃ H2,GL H [.tup [.agg [.snil,.snil],a,b]] H2 [.tup [.agg [.lst [],.lst []],a,b]] :=
 ⟨H,GL.view fun ρ vs hA=>M2 (fun v h=>by
  obtain ⟨b',rfl,k1,k2⟩:=h.tup_inv;refine .tup _ _ k1 fun i x y hx hy=>?_
  match i with
  | 0 =>
   cases hx;obtain ⟨c',rfl,m1,m2⟩:=(k2 0 _ y rfl hy).agg_inv;refine .agg _ _ m1 fun j x z hx hz=>?_
   match j with
   | 0=>cases hx;exact (m2 0 _ z rfl hz).snil_lst
   | 1=>cases hx;exact (m2 1 _ z rfl hz).snil_lst
   | _+2=>cases hx
  | 1=>cases hx;exact k2 1 _ y rfl hy
  | 2=>cases hx;exact k2 2 _ y rfl hy
  | _+3=>cases hx) vs hA⟩
theorem c_Parse (s:List UInt8) (hs:s.length<=1000000000):PC Tryz.prog 15 [.str s] (parV (K5 s)):=by
 refine PC.of A6 isU15 (Nat.le_of_ble_eq_true rfl) rfl (parV_nl _) ?_;show IW Tryz.prog 41 u15_1 ⟨B4 _,_,_⟩ (rt [.cell 2 2 true,.tmp 3,.tmp 4] _);have hsc:=c_ScanR s hs;have hpar:K5 s=K5 s:=rfl;by_cases h0:(D5 s).2.2=0
 ·have hd:((D5 s).2.2 != 0)=false:=by simpa using h0
  repeat' ((with_reducible first|apply wr|refine cpc hsc ?_|fail)<;>try simp only [go_sem,seval,hd])
  obtain ⟨f,hf⟩:=(A3t (D5 s).1 s.length).get;refine AC.call (c_rules (D5 s).1 s.length (by have:=scan_le h0;omega) (scan_val h0) f rd0 _ hf (Nat.zero_le _) _ _ 1 rfl (by decide)) ?_;rintro v H' c2 ⟨rfl,rfl⟩ hc2;have hM:K5 s=if okR (A2k (D5 s).1 s.length).2=false then (Ru0,(A2k (D5 s).1 s.length).2.pos,(A2k (D5 s).1 s.length).2.e) else ((A2k (D5 s).1 s.length).1,0,0):=by
   unfold K5;dsimp only;rw [if_neg (by simpa using h0)]
  rw [hM];generalize A2k (D5 s).1 s.length=w;clear hM hpar hf;have ne0:=T8 0 1 c2 (by omega);simp only [go_sem,seval,ne0,A0,A1];repeat' ((with_reducible apply wr)<;>try simp only [go_sem,seval,ne0,A0,A1])
  refine AC.call (c_rdok (D5 s).1 s.length w.2 _ _ 1 (by rw [A2 (by omega)];exact A0) (by omega)) ?_;rintro v H' c3 ⟨rfl,rfl⟩ hc3;cases hok:okR w.2 with
  | true =>
   rw [if_neg (by decide)];simp only [go_sem,seval,hok,ne0,A0,A1];repeat' ((with_reducible apply wr)<;>try simp only [go_sem,seval,hok,ne0,A0,A1])
   rw [C7 (v:=parV (w.1,0,0)) rfl];exact ⟨_,GL.refl _ _⟩
  | false =>
   rw [if_pos rfl];simp only [go_sem,seval,hok,ne0,A0,A1];repeat' ((with_reducible apply wr)<;>try simp only [go_sem,seval,hok,ne0,A0,A1])
   repeat refine ⟨by and_intros<;>(repeat rw [A2 (by omega)])<;>rfl,?_⟩
   repeat' ((with_reducible apply wr)<;>try simp only [go_sem,seval,hok,ne0,A0,A1])
   rw [C7 (v:=.tup [.agg [.snil,.snil],I64 w.2.pos,I64 w.2.e]) rfl];exact pc_ru0
 ·have hd:((D5 s).2.2 != 0)=true:=by simpa using h0
  have hM:K5 s=(Ru0,(D5 s).2.1,(D5 s).2.2):=by
   unfold K5;dsimp only;rw [if_pos h0]
  rw [hM];repeat' ((with_reducible first|apply wr|refine cpc hsc ?_|fail)<;>try simp only [go_sem,seval,hd])
  rw [C7 (v:=.tup [.agg [.snil,.snil],I64 (D5 s).2.1,I64 (D5 s).2.2]) rfl];exact pc_ru0
open Go.Sym
section
abbrev u19_8:=qK .skip (.exit 0) (.t 14) [1,2,3,4,14]
abbrev u19_7:=qS [oM 10 4,oF 11 1 0,oL 12 11,oH 13 12,oB 14 10 13 .lss] u19_8 [1,2,3,4]
abbrev u19_12:=qE [oF 23 3 0,oL 24 23,oD 25 5 4,⟨some 26,.new (.bsl 4 1 #[.int .i64 0,.string ⟨#[]⟩,.int .i64 0,.int .i64 0] [(0,.t 25)]),none⟩,oT 27 24 26 4 40,oF 28 3 0,oS 28 27 1] [1,2,3,4,5]
abbrev u19_11:=qS [oF 22 5 3,⟨none,.eff (.st 1 (.t 22) (.k (.int .i64 0))),none⟩] u19_12 [1,2,3,4,5]
abbrev u19_10:=qS [oF 17 1 0,oL 18 17,oM 19 4,oA 20 18 19 4,oD 21 20 4,oW 5 (.agg #[.int .i64 0,.string ⟨#[]⟩,.int .i64 0,.int .i64 0]),oS 5 21 4] u19_11 [1,2,3,4]
abbrev u19_13:=qE [oM 15 4,oK 16 15 .add 1,oM 4 16] [1,2,3,4]
abbrev u19_9:=qB u19_10 u19_13 1 [1,2,3,4]
abbrev u19_6:=qQ u19_7 u19_9 [1,2,3,4]
abbrev u19_5:=qJ (.loop u19_6) 0 [1,2,3,4]
abbrev u19_4:=qS [oI 4 0] u19_5 [1,2,3]
abbrev u19_19:=qK .skip (.exit 2) (.t 33) [1,2,3,6,33]
abbrev u19_18:=qS [oM 29 6,oF 30 1 1,oL 31 30,oH 32 31,oB 33 29 32 .lss] u19_19 [1,2,3,6]
abbrev u19_27:=qK .skip (.exit 4) (.t 57) [1,2,3,6,7,8,57]
abbrev u19_26:=qS [oM 49 8,oF 50 1 1,oL 51 50,oM 52 6,oA 53 51 52 4,oF 54 53 2,oL 55 54,oH 56 55,oB 57 49 56 .lss] u19_27 [1,2,3,6,7,8]
abbrev u19_30:=qG [oF 69 7 2,oL 70 69,oF 71 9 0,oL 72 71,oF 73 9 1,oL 74 73,oF 75 9 2,oL 76 75,oC 77 49 [.t 76],oP 78 (.bld #[.int .i64 0,.string ⟨#[]⟩,.slice none 0 0,.int .i64 0] [(0,1),(1,1),(2,1),(3,1)] [(0,.t 72),(1,.t 74),(2,.t 77)]),⟨some 79,.new (.bsl 4 1 #[.int .i64 0,.string ⟨#[]⟩,.slice none 0 0,.int .i64 0] [(0,.t 78)]),none⟩,oT 80 70 79 4 56,oF 81 7 2,oS 81 80 1] [(0,none),(1,none),(2,none),(3,none),(4,none),(5,none),(6,none),(7,none),(8,some [0,1,2,3,4,5]),(9,none),(10,none),(11,some []),(12,none),(13,some [])] 14 [1,2,3,6,7,8,9]
abbrev u19_29:=qS [oF 60 1 1,oL 61 60,oM 62 6,oA 63 61 62 4,oF 64 63 2,oL 65 64,oM 66 8,oA 67 65 66 4,oD 68 67 4,oW 9 (.agg #[.int .i64 0,.string ⟨#[]⟩,.slice none 0 0,.int .i64 0]),oS 9 68 4] u19_30 [1,2,3,6,7,8]
abbrev u19_31:=qE [oM 58 8,oK 59 58 .add 1,oM 8 59] [1,2,3,6,7,8]
abbrev u19_28:=qB u19_29 u19_31 5 [1,2,3,6,7,8]
abbrev u19_25:=qQ u19_26 u19_28 [1,2,3,6,7,8]
abbrev u19_24:=qJ (.loop u19_25) 4 [1,2,3,6,7,8]
abbrev u19_23:=qS [oI 8 0] u19_24 [1,2,3,6,7]
abbrev u19_32:=qE [oF 82 3 1,oL 83 82,oD 84 7 4,⟨some 85,.new (.bsl 4 1 #[.string ⟨#[]⟩,.int .i64 0,.slice none 0 0,.int .i64 0] [(0,.t 84)]),none⟩,oT 86 83 85 4 56,oF 87 3 1,oS 87 86 1] [1,2,3,6,7]
abbrev u19_22:=qQ u19_23 u19_32 [1,2,3,6,7]
abbrev u19_21:=qD [oF 36 1 1,oL 37 36,oM 38 6,oA 39 37 38 4,oF 40 39 0,oL 41 40,oF 42 1 1,oL 43 42,oM 44 6,oA 45 43 44 4,oF 46 45 1,oL 47 46,oP 48 (.bld #[.string ⟨#[]⟩,.int .i64 0,.slice none 0 0,.int .i64 0] [(0,1),(1,1),(2,1),(3,1)] [(0,.t 41),(1,.t 47)]),oW 7 (.agg #[.string ⟨#[]⟩,.int .i64 0,.slice none 0 0,.int .i64 0]),oS 7 48 4] u19_22 [(0,none),(1,none),(2,none),(3,none),(4,none),(5,none),(6,none),(7,none),(8,none),(9,none),(10,none),(11,none),(12,none),(13,none),(14,some [])] 15 [1,2,3,6]
abbrev u19_33:=qE [oM 34 6,oK 35 34 .add 1,oM 6 35] [1,2,3,6]
abbrev u19_20:=qB u19_21 u19_33 3 [1,2,3,6]
abbrev u19_17:=qQ u19_18 u19_20 [1,2,3,6]
abbrev u19_16:=qJ (.loop u19_17) 2 [1,2,3,6]
abbrev u19_15:=qS [oI 6 0] u19_16 [1,2,3]
abbrev u19_34:=qS [oD 88 3 2,oS 2 88 2] .ret [2,3]
abbrev u19_14:=qQ u19_15 u19_34 [1,2,3]
abbrev u19_3:=qQ u19_4 u19_14 [1,2,3]
abbrev u19_2:=qS [oW 3 (.agg #[.slice none 0 0,.slice none 0 0])] u19_3 [1,2]
abbrev u19_1:=qS [oX 1 0,oW 2 (.agg #[.slice none 0 0,.slice none 0 0])] u19_2 [0]
def u19:IFn:=⟨89,u19_1,[.cell 2 2 true]⟩
end
end Go.Proofs.YtnmkkggfgdfmeaaGreatDoor
namespace Go.Pb
variable [Go.Sym.Tab]
open Go.Sym
mutual
def Ex.sz:Ex->Nat
 | .mk k v n a p=>1+n.length+Ex.szs a
def Ex.szs:List Ex->Nat
 | []=>0
 | e :: l=>e.sz+Ex.szs l
end
mutual
def St.sz:St->Nat
 | .mk k n t a x y p=>1+n.length+t.length+Ex.szs a+St.szs x+St.szs y
def St.szs:List St->Nat
 | []=>0
 | e :: l=>e.sz+St.szs l
end
def Dc.sz (d:Dc):Nat:=1+d.name.length
def Hd.sz (h:Hd):Nat:=1+h.name.length+St.szs h.body
def Md.sz (m:Md):Nat:=1+m.name.length+(m.hds.map Hd.sz).sum
def Ru.sz (r:Ru):Nat:=(r.decls.map Dc.sz).sum+(r.modes.map Md.sz).sum
theorem Ex.szs_map:∀ l:List Ex,Ex.szs l=(l.map Ex.sz).sum
 | []=>rfl
 | e :: l=>by rw [Ex.szs,Ex.szs_map l];rfl
theorem St.szs_map:∀ l:List St,St.szs l=(l.map St.sz).sum
 | []=>rfl
 | e :: l=>by rw [St.szs,St.szs_map l];rfl
theorem P2 {α : Type} {f : α -> Nat} {x : α}:∀ {l:List α},x∈l->f x<=(l.map f).sum
 | a :: l,h=>by
  rw [List.map_cons,List.sum_cons];rcases List.mem_cons.1 h with rfl|h
  ·omega
  ·have:=P2 (f:=f) h;omega
theorem P3 {α : Type} {f : α -> Nat}:∀ {l:List α},(∀ x∈l,1<=f x)->l.length<=(l.map f).sum
 | [],h=>Nat.zero_le _
 | a :: l,h=>by
  have:=P3 (f:=f) (l:=l) fun x hx=>h x (List.mem_cons_of_mem _ hx);have:=h a List.mem_cons_self;rw [List.map_cons,List.sum_cons,List.length_cons];omega
theorem Ex.sz_pos (e:Ex):1<=e.sz:=by cases e with|mk k v n a p=>rw [Ex.sz];omega
theorem St.sz_pos (e:St):1<=e.sz:=by cases e with|mk k n t a x y p=>rw [St.sz];omega
theorem Ex.sz_arg {e x:Ex} (h:x∈e.args):x.sz<e.sz:=by
 cases e with|mk k v n a p =>
 have:=P2 (f:=Ex.sz) h;rw [Ex.sz,Ex.szs_map];have h':(Ex.mk k v n a p).args=a:=rfl;rw [h'] at this;omega
theorem Ex.sz_name (e:Ex):e.name.length<e.sz:=by
 cases e with|mk k v n a p=>rw [Ex.sz];show n.length<_;omega
theorem St.sz_name (e:St):e.name.length<e.sz:=by
 cases e with|mk k n t a x y p=>rw [St.sz];show n.length<_;omega
theorem St.sz_text (e:St):e.text.length<e.sz:=by
 cases e with|mk k n t a x y p=>rw [St.sz];show t.length<_;omega
theorem St.sz_thn (e:St):St.szs e.thn<e.sz:=by
 cases e with|mk k n t a u w p=>rw [St.sz];show St.szs u<_;omega
theorem St.sz_els (e:St):St.szs e.els<e.sz:=by
 cases e with|mk k n t a u w p=>rw [St.sz];show St.szs w<_;omega
theorem St.szs_len (l:List St):l.length<=St.szs l:=by rw [St.szs_map];exact P3 fun x _=>x.sz_pos
theorem St.szs_mem {l:List St} {x:St} (h:x∈l):x.sz<=St.szs l:=by rw [St.szs_map];exact P2 h
theorem Ex.szs_mem {l:List Ex} {x:Ex} (h:x∈l):x.sz<=Ex.szs l:=by rw [Ex.szs_map];exact P2 h
theorem Ex.szs_len (l:List Ex):l.length<=Ex.szs l:=by rw [Ex.szs_map];exact P3 fun x _=>x.sz_pos
end Go.Pb
set_option maxHeartbeats 8000000
namespace Go.Proofs.YtnmkkggfgdfmeaaGreatDoor
open Go.Eng (IC IOper DReg IFn A3)
open Go.Sym Go.Pb
theorem pc_todoX {X:Hp} {o:Option Nat} {xs:List DV} {u n:Nat} (hno:o=none->xs=[]) (hl:xs.length=n) (hu:∀ x∈xs,x.cells.length=u) :
  ∃ H2,GL (D2 X o ⟨u,true,A7 xs⟩) [C0 o n] H2 [.lst xs]:=by
 cases o with
 | none=>rw [hno rfl];exact pc_snil
 | some i=>exact A0h (id:=i) A0 rfl hl hu ⟨[],by simp⟩
end Go.Proofs.YtnmkkggfgdfmeaaGreatDoor
namespace Go.Pb
variable [Go.Sym.Tab]
open Go.Sym
section
variable {L:List Tok} {E:Int}
theorem name_le {s:List UInt8} (h:F5 s=true):s.length<=12:=by
 unfold F5 at h;simp only [Bool.and_eq_true,decide_eq_true_eq] at h;exact h.1.1.1.2
theorem Y7 (hG:∀ t∈L,E8 t) {s:Rd}:(A8 L E s 1).1.text.length<=12:=by
 cases h:F1 L E s 1 with
 | false=>unfold A8;rw [if_pos h];exact Nat.zero_le _
 | true =>
  unfold A8;rw [if_neg (by rw [h];decide)];exact name_le ((hG _ (F8 (by decide) (E6 h).2).1).1 (E6 h).2)
theorem take_tx (hG:∀ t∈L,E8 t) {s:Rd}:(A8 L E s 4).1.text.length<=32:=by
 cases h:F1 L E s 4 with
 | false=>unfold A8;rw [if_pos h];exact Nat.zero_le _
 | true =>
  unfold A8;rw [if_neg (by rw [h];decide)];have:=(hG _ (F8 (by decide) (E6 h).2).1).2.2 (E6 h).2;unfold W1 at this;simp only [Bool.and_eq_true,decide_eq_true_eq] at this;exact this.2
theorem prim_sz (hG:∀ t∈L,E8 t) {s:Rd}:(I8 L E s).1.sz+13 * s.i<=13 * (I8 L E s).2.i+1:=by
 have hge:=prim_ge (L:=L) (E:=E) (s:=s);have h2:(B3 L E { s with ops:=s.ops+1 } (s.ops+1) 32 9).i=s.i:=D7;unfold I8 at hge ⊢;dsimp only at hge ⊢;split
 ·rename_i hc;rw [if_pos hc] at hge;show 1+0+0+_<=_;have:s.i<=(J9 L E s).i:=hge;show 1+0+0+13 * s.i<=13 * (J9 L E s).i+1;omega
 ·rename_i hc;rw [if_neg hc] at hge;split
  ·show 1+0+0+13 * s.i<=13 * (B3 L E { s with ops:=s.ops+1 } (s.ops+1) 32 9).i+1;omega
  ·have h3:(B0 (B3 L E { s with ops:=s.ops+1 } (s.ops+1) 32 9)).i=s.i+1:=by show (B3 L E { s with ops:=s.ops+1 } (s.ops+1) 32 9).i+1=_;rw [h2]
   generalize B0 (B3 L E { s with ops:=s.ops+1 } (s.ops+1) 32 9)=s3 at h3;have h4:=F4 (L:=L) (E:=E) (s:=s3) (x:=1);have h5:=Y7 (L:=L) (E:=E) hG (s:=s3);split
   ·split
    ·show 1+(A8 L E s3 1).1.text.length+0+13 * s.i<=13 * (A8 L E s3 1).2.i+1;omega
    ·show 1+0+0+13 * s.i<=13 * s3.i+1;omega
   ·rename_i hk;split
    ·show 1+0+0+13 * s.i<=13 * s3.i+1;omega
    ·rename_i hk3;have h1k:F1 L E s 1=true:=by
      cases hz:F1 L E s 1 with
      | true=>rfl
      | false =>
       refine absurd ⟨by omega,?_,hz⟩ hc;cases hy:F1 L E s 3 with
       | false=>rfl
       | true=>exact absurd (E6 hy).2 hk3
     have:=name_le ((hG _ (F8 (by decide) (E6 h1k).2).1).1 (E6 h1k).2);show 1+(B1 L E s).text.length+0+13 * s.i<=13 * s3.i+1;omega
theorem EZ.all (hG:∀ t∈L,E8 t):∀ f:Nat,(∀ n s r,F2 L E f n s=some r->r.1.sz+13 * s.i<=13 * r.2.i+1)/\(∀ n e s r,K3 L E f n e s=some r->r.1.sz+13 * s.i<=13 * r.2.i+e.sz)/\(∀ s r,N5 L E f s=some r->r.1.sz+13 * s.i<=13 * r.2.i+1)
 | 0=>⟨fun n s r h=>by simp [F2] at h,fun n e s r h=>by simp [K3] at h,fun s r h=>by simp [N5] at h⟩
 | f+1=>by
  obtain ⟨i1,i2,i3⟩:=EZ.all hG f;refine ⟨fun n s r h=>?_,fun n e s r h=>?_,fun s r h=>?_⟩
  ·unfold F2 at h;split at h
   ·exact i3 _ _ h
   ·split at h
    ·cases h
    ·rename_i hb;have h1:=i1 _ _ _ hb;have h2:=i2 _ _ _ _ h;dsimp only at h1;omega
  ·unfold K3 at h;dsimp only at h;split at h
   ·cases h;dsimp only;omega
   ·split at h
    ·cases h
    ·rename_i x s1 hb;have h1:=i1 _ _ _ hb;have h1:x.sz+13 * (s.i+1)<=13 * s1.i+1:=h1;have h3:(Ex.mk (12+B2 L E s C2) 0 [] [e,x] (B1 L E s).pos).sz=1+e.sz+x.sz:=by rw [Ex.sz,Ex.szs,Ex.szs,Ex.szs];simp;omega
     split at h
     ·cases h;rw [h3];show 1+e.sz+x.sz+13 * s.i<=13 * s1.i+e.sz;omega
     ·have h2:=i2 _ _ _ _ h;rw [h3] at h2;omega
  ·unfold N5 at h;dsimp only at h;split at h
   ·cases h;exact prim_sz hG
   ·split at h
    ·cases h;show 1+0+0+13 * s.i<=13 * (B3 L E s (s.par+1) 16 50).i+1;rw [D7];omega
    ·rename_i hl;have hl:okR (B3 L E s (s.par+1) 16 50)=true:=by simpa using hl
     obtain ⟨-, -,h3⟩:=E2 (by decide) hl;rw [h3] at h;split at h
     ·split at h
      ·cases h
      ·rename_i e s3 hb;cases h;have h1:=i1 _ _ _ hb;have h1:e.sz+13 * (s.i+1)<=13 * s3.i+1:=h1;have h2:=C6 (L:=L) (E:=E) (s:=s3) (x:=[41]);show e.sz+13 * s.i<=13 * (B6 L E s3 [41]).i+1;omega
     ·split at h
      ·cases h
      ·rename_i e s3 hb;cases h;have h1:=i3 _ _ hb;have h1:e.sz+13 * (s.i+1)<=13 * s3.i+1:=h1;have h4:(Ex.mk (10+B2 L E s J6) 0 [] [e] (B1 L E s).pos).sz=1+e.sz:=by rw [Ex.sz,Ex.szs,Ex.szs];simp
       rw [h4];show 1+e.sz+13 * s.i<=13 * s3.i+1;omega
theorem Z1 (hG:∀ t∈L,E8 t) {f:Nat} {s:Rd} {r:Ex × Rd} (h:M1 L E f s=some r):r.1.sz+13 * s.i<=13 * r.2.i+1:=(EZ.all hG f).1 1 { s with ops:=0,par:=0 } r h
theorem Z8 (k p:Int) (n t:List UInt8) (a:List Ex) (x y:List St):(St.mk k n t a x y p).sz=1+n.length+t.length+Ex.szs a+St.szs x+St.szs y:=by rw [St.sz]
theorem tail_sz (hG:∀ t∈L,E8 t) {f:Nat} {k p:Int} {s:Rd} {r:St × Rd} (h:I6 L E f k p s=some r):r.1.sz+100 * s.i<=100 * r.2.i+40:=by
 have t1:=Y7 (L:=L) (E:=E) hG (s:=s);have t4:=take_tx (L:=L) (E:=E) hG (s:=s);have g1:=F4 (L:=L) (E:=E) (s:=s) (x:=1);have g4:=F4 (L:=L) (E:=E) (s:=s) (x:=4);unfold I6 at h;dsimp only at h;split at h
 ·split at h
  ·cases h
  ·rename_i e s1 he;cases h;have h1:=Z1 hG he;have h2:=C6 (L:=L) (E:=E) (s:=s1) (x:=[59]);rw [Z8,Ex.szs,Ex.szs,St.szs];simp only [List.length_nil] at h1 ⊢;omega
 split at h
 ·split at h
  ·cases h
  ·rename_i e s1 he;cases h;have h1:=Z1 hG he;have h2:=C6 (L:=L) (E:=E) (s:=s1) (x:=[59]);have h3:=C6 (L:=L) (E:=E) (s:=(A8 L E s 4).2) (x:=[44]);rw [Z8,Ex.szs,Ex.szs,St.szs];simp only [List.length_nil] at h1 ⊢;omega
 split at h
 ·cases h;have h2:=C6 (L:=L) (E:=E) (s:=s) (x:=[59]);rw [Z8,Ex.szs,St.szs];simp only [List.length_nil];omega
 split at h
 ·split at h
  ·cases h
  ·rename_i e s1 he;have h1:=Z1 hG he;split at h
   ·split at h
    ·cases h
    ·rename_i e2 s2 he2;cases h;have h4:=Z1 hG he2;have h2:=C6 (L:=L) (E:=E) (s:=s2) (x:=[59]);have h3:=C6 (L:=L) (E:=E) (s:=s1) (x:=[44]);rw [Z8,Ex.szs,Ex.szs,Ex.szs,St.szs];simp only [List.length_nil] at h1 h4 ⊢;omega
   ·cases h;have h2:=C6 (L:=L) (E:=E) (s:=s1) (x:=[59]);rw [Z8,Ex.szs,Ex.szs,St.szs];simp only [List.length_nil] at h1 ⊢;omega
 ·cases h;have h2:=C6 (L:=L) (E:=E) (s:=(A8 L E s 1).2) (x:=[59]);rw [Z8,Ex.szs,St.szs];simp only [List.length_nil];omega
theorem szs_app:∀ (l:List St) (x:St),St.szs (l++[x])=St.szs l+x.sz
 | [],x=>by simp [St.szs]
 | a :: l,x=>by rw [List.cons_append,St.szs,St.szs,szs_app l x];omega
theorem SZ.all (hG:∀ t∈L,E8 t):∀ f:Nat,(∀ d s r,I4 L E f d s=some r->St.szs r.1+100 * s.i<=100 * r.2.i+40) /\
  (∀ d l s r,L2 L E f d l s=some r->St.szs r.1+100 * s.i<=100 * r.2.i+St.szs l+40/\(okR s=false->St.szs r.1<=St.szs l)) /\
  (∀ d s r,M7 L E f d s=some r->r.1.sz+100 * s.i<=100 * r.2.i+40/\(r.1.sz+100 * s.i<=100 * r.2.i\/okR r.2=false/\r.1.sz<=40)/\s.i<=r.2.i) /\
  (∀ d s r,L6 L E f d s=some r->St.szs r.1+100 * s.i<=100 * r.2.i+40)
 | 0=>⟨fun d s r h=>by simp [I4] at h,fun d l s r h=>by simp [L2] at h,fun d s r h=>by simp [M7] at h,fun d s r h=>by simp [L6] at h⟩
 | f+1=>by
  obtain ⟨i1,i2,i3,i4⟩:=SZ.all hG f;refine ⟨fun d s r h=>?_,fun d l s r h=>?_,fun d s r h=>?_,fun d s r h=>?_⟩
  ·unfold I4 at h;have h1:=(i2 _ _ _ _ h).1;have h2:=C6 (L:=L) (E:=E) (s:=s) (x:=[123]);rw [St.szs] at h1;omega
  ·unfold L2 at h;split at h
   ·rename_i hc;refine ⟨?_,fun h0=>by rw [h0] at hc;cases hc.1⟩;split at h
    ·cases h;show St.szs []+100 * s.i<=100 * (J9 L E s).i+St.szs l+40;rw [O1,St.szs];omega
    ·split at h
     ·cases h
     ·rename_i x s1 he;obtain ⟨h1,h2⟩:=i2 _ _ _ _ h;obtain ⟨h3,h4,h5⟩:=i3 _ _ _ he;rw [D7] at h3 h4 h5;rw [szs_app] at h1 h2;dsimp only at h3 h4 h5;rcases h4 with h4|⟨h4,h6⟩
      ·omega
      ·have h7:=h2 h4;have h8:s1.i<=r.2.i:=by
        obtain ⟨N,hN⟩:=(ST.all (L:=L) (E:=E) _).2 d (l++[x]) s1 (Nat.le_refl _);obtain ⟨⟨M,hM⟩,hg⟩:=hN;have h9:okR s1=false:=h4;have hfr:S9 L E d (l++[x]) s1 (l++[x],B6 L E s1 [125]):=S9.stop (by rw [h9];simp);cases f with
        | zero=>simp [L2] at h
        | succ f =>
         rw [L2,if_neg (by rw [h9];simp)] at h;cases h;exact C6
       omega
   ·rename_i hc;cases h;have h2:=C6 (L:=L) (E:=E) (s:=s) (x:=[125]);exact ⟨by dsimp only;omega,fun _=>Nat.le_refl _⟩
  ·have hst:=(ST.all (L:=L) (E:=E) (L.length-s.i)).1 d s (Nat.le_refl _);unfold M7 at h;dsimp only at h;split at h
   ·rename_i hl;cases h;have e1:St0.sz=1:=by unfold St0;rw [Z8,Ex.szs,St.szs];rfl
    refine ⟨?_,.inr ⟨hl,by show St0.sz<=40;omega⟩,?_⟩
    ·show St0.sz+100 * s.i<=100 * (B3 L E s d 8 50).i+40;rw [D7];omega
    ·show s.i<=(B3 L E s d 8 50).i;rw [D7];exact Nat.le_refl _
   rename_i hl;have hl:okR (B3 L E s d 8 50)=true:=by simpa using hl
   obtain ⟨hs,hd,hle⟩:=E2 (by decide) hl;rw [hle] at h;split at h
   ·split at h
    ·cases h
    ·rename_i e s1 he;cases h;have h1:=Z1 hG he;have h2:=C6 (L:=L) (E:=E) (s:=s1) (x:=[59]);have h3:=C6 (L:=L) (E:=E) (s:=(A8 L E s 1).2) (x:=[61]);have h4:=F4 (L:=L) (E:=E) (s:=s) (x:=1);have h5:=Y7 (L:=L) (E:=E) hG (s:=s);have hsz:(St.mk 1 (A8 L E s 1).1.text [] [e] [] [] (B1 L E s).pos).sz=1+(A8 L E s 1).1.text.length+e.sz:=by
      rw [Z8,Ex.szs,Ex.szs,St.szs];simp
     rw [hsz];dsimp only at h1 ⊢;refine ⟨by omega,?_,by omega⟩;by_cases ht:F1 L E s 1=true
     ·have h6:(A8 L E s 1).2.i=s.i+1:=by unfold A8;rw [if_neg (by rw [ht];decide)];rfl
      exact .inl (by omega)
     ·have ht:F1 L E s 1=false:=by simpa using ht
      have h6:(A8 L E s 1).2=J9 L E s:=by unfold A8;rw [if_pos ht]
      by_cases hp:1<=(B6 L E s1 [59]).i-s.i
      ·exact .inl (by omega)
      ·refine .inr ⟨?_,by omega⟩;cases hz:okR (B6 L E s1 [59]) with
       | false=>rfl
       | true =>
        have h7:=(A4n hz).2;have h8:(B6 L E s1 [59]).i=s1.i+1:=by rw [h7];rfl
        omega
   ·rename_i hk;obtain ⟨-,hi, -,hk18⟩:=E3 (show 0<=B2 L E s B7 by omega);have hn:(B0 s).i=s.i+1:=rfl;split at h
    ·split at h
     ·cases h
     ·rename_i e s2 he;split at h
      ·cases h
      ·rename_i t s3 ht;have h1:=Z1 hG he;have h2:=i1 _ _ _ ht;rw [hn] at h1;dsimp only at h1 h2;split at h
       ·split at h
        ·cases h
        ·rename_i o s4 ho;cases h;have h3:=i4 _ _ _ ho;have h3:St.szs o+100 * (s3.i+1)<=100 * s4.i+40:=h3;have hsz:(St.mk 2 [] [] [e] t o (B1 L E s).pos).sz=1+e.sz+St.szs t+St.szs o:=by
          rw [Z8,Ex.szs,Ex.szs];simp
         rw [hsz];dsimp only;exact ⟨by omega,.inl (by omega),by omega⟩
       ·cases h;have hsz:(St.mk (2+B2 L E s B7) [] [] [e] t [] (B1 L E s).pos).sz=1+e.sz+St.szs t:=by
         rw [Z8,Ex.szs,Ex.szs,St.szs];simp
        rw [hsz];dsimp only;exact ⟨by omega,.inl (by omega),by omega⟩
    ·have h1:=tail_sz hG h;rw [hn] at h1;exact ⟨by omega,.inl (by omega),by omega⟩
  ·unfold L6 at h;split at h
   ·split at h
    ·cases h
    ·rename_i x s1 he;cases h;have h1:=(i3 _ _ _ he).1;rw [St.szs,St.szs];dsimp only at h1 ⊢;omega
   ·exact i1 _ _ _ h
end
end Go.Pb
namespace Go.Pb
variable [Go.Sym.Tab]
open Go.Sym
section
variable {L:List Tok} {E:Int}
theorem dcl_sz (hG:∀ t∈L,E8 t) {k:Int} {s:Rd}:(R5 L E k s).1.sz<=13:=by
 have h:=Y7 (L:=L) (E:=E) hG (s:=B0 s);unfold R5 Dc.sz;dsimp only;split
 ·dsimp only;omega
 ·dsimp only;omega
theorem A6r {α : Type} (f : α -> Nat) (l:List α) (x : α):((l++[x]).map f).sum=(l.map f).sum+f x:=by simp
theorem mlp_sz (hG:∀ t∈L,E8 t):∀ (f:Nat) (l:List Hd) (s:Rd) (r:List Hd × Rd),Q6 L E f l s=some r->(r.1.map Hd.sz).sum+100 * s.i<=100 * r.2.i+(l.map Hd.sz).sum
 | 0,l,s,r,h=>by simp [Q6] at h
 | f+1,l,s,r,h=>by
  unfold Q6 at h;dsimp only at h;split at h
  ·split at h
   ·cases h;show (l.map Hd.sz).sum+100 * s.i<=100 * (J9 L E s).i+_;rw [O1];omega
   ·have h1:(B3 L E s ((l.length:Int)+1) 32 9).i=s.i:=D7;generalize B3 L E s ((l.length:Int)+1) 32 9=s1 at h h1;split at h
    ·cases h;have h2:=C6 (L:=L) (E:=E) (s:=s1) (x:=[111,110]);show (l.map Hd.sz).sum+100 * s.i<=100 * (J9 L E (B6 L E s1 [111,110])).i+_;rw [O1];omega
    ·rename_i hk;obtain ⟨hok,hi, -⟩:=E3 (show 0<=B2 L E (B6 L E s1 [111,110]) D4 by omega);have h3:(B6 L E s1 [111,110]).i=s1.i+1:=by rw [(A4n hok).2];rfl
     generalize B6 L E s1 [111,110]=s2 at h hk h3;have h4:=F4 (L:=L) (E:=E) (s:=B0 s2) (x:=1);have h5:=Y7 (L:=L) (E:=E) hG (s:=B0 s2);have h6:(B0 s2).i=s2.i+1:=rfl;split at h
     ·cases h
     ·rename_i b s5 hb;have h7:=(SZ.all hG f).1 _ _ _ hb;have h8:=mlp_sz hG f _ _ _ h;rw [A6r] at h8;have h9:s2.i+1<=(if 2<=B2 L E s2 D4 then (A8 L E (B0 s2) 1).2 else B0 s2).i:=by
       split
       ·omega
       ·omega
      have h10:(if 2<=B2 L E s2 D4 then (A8 L E (B0 s2) 1).1.text else []).length<=12:=by
       split
       ·exact h5
       ·exact Nat.zero_le _
      have h11:Hd.sz ⟨1+B2 L E s2 D4,if 2<=B2 L E s2 D4 then (A8 L E (B0 s2) 1).1.text else [],b,(B1 L E s1).pos⟩<=13+St.szs b:=by
       unfold Hd.sz;dsimp only;omega
      dsimp only at h7 h8;omega
  ·cases h;have h2:=C6 (L:=L) (E:=E) (s:=s) (x:=[125]);dsimp only;omega
theorem mod_sz (hG:∀ t∈L,E8 t) {f:Nat} {s:Rd} {r:Md × Rd} (h:A1a L E f s=some r) (hm:isR L E s [109,111,100,101]=true):r.1.sz+100 * s.i<=100 * r.2.i:=by
 unfold A1a at h;dsimp only at h;split at h
 ·cases h
 ·rename_i l s3 hml;cases h;have h1:=mlp_sz hG _ _ _ _ hml;have h2:(B6 L E s [109,111,100,101]).i=s.i+1:=by unfold B6;rw [if_neg (by rw [hm];decide)];rfl
  generalize B6 L E s [109,111,100,101]=s1 at h1 h2 ⊢;have h3:=Y7 (L:=L) (E:=E) hG (s:=s1);have h4:=F4 (L:=L) (E:=E) (s:=s1) (x:=1);have h5:=F4 (L:=L) (E:=E) (s:=(A8 L E s1 1).2) (x:=3);have h6:=C6 (L:=L) (E:=E) (s:=(A8 L E (A8 L E s1 1).2 3).2) (x:=[123]);unfold Md.sz;dsimp only at h1 ⊢;simp only [List.map_nil,List.sum_nil] at h1;omega
theorem rld_sz (hG:∀ t∈L,E8 t):∀ (f:Nat) (l:List Dc) (s:Rd) (r:List Dc × Rd),O8 L E f l s=some r->(r.1.map Dc.sz).sum+100 * s.i<=100 * r.2.i+(l.map Dc.sz).sum
 | 0,l,s,r,h=>by simp [O8] at h
 | f+1,l,s,r,h=>by
  unfold O8 at h;dsimp only at h;split at h
  ·cases h;dsimp only;omega
  ·have h1:(B3 L E s ((l.length:Int)+1) 128 9).i=s.i:=D7;split at h
   ·have h2:=rld_sz hG f _ _ _ h;rw [A6r] at h2;have h3:=dcl_sz (L:=L) (E:=E) hG (k:=B2 L E s C9) (s:=B3 L E s ((l.length:Int)+1) 128 9);have h4:=dcl_ge (L:=L) (E:=E) (k:=B2 L E s C9) (s:=B3 L E s ((l.length:Int)+1) 128 9);omega
   ·have h2:=rld_sz hG f _ _ _ h;omega
theorem rlm_sz (hG:∀ t∈L,E8 t):∀ (f:Nat) (l:List Md) (s:Rd) (r:List Md × Rd),O2 L E f l s=some r->(r.1.map Md.sz).sum+100 * s.i<=100 * r.2.i+(l.map Md.sz).sum
 | 0,l,s,r,h=>by simp [O2] at h
 | f+1,l,s,r,h=>by
  unfold O2 at h;dsimp only at h;split at h
  ·split at h
   ·cases h;show (l.map Md.sz).sum+100 * s.i<=100 * (J9 L E s).i+_;rw [O1];omega
   ·rename_i hm;have hm:isR L E s [109,111,100,101]=true:=by simpa using hm
    split at h
    ·rename_i hl;have e0:=(E2 (by decide) hl).2.2;rw [e0] at h;split at h
     ·cases h
     ·rename_i m s2 hmd;have h1:=mod_sz hG hmd hm;have h2:=rlm_sz hG f _ _ _ h;rw [A6r] at h2;dsimp only at h1;omega
    ·have h1:(B3 L E s ((l.length:Int)+1) 16 9).i=s.i:=D7;have h2:=rlm_sz hG f _ _ _ h;omega
  ·cases h;dsimp only;omega
theorem rul_sz (hG:∀ t∈L,E8 t) {f:Nat} {s:Rd} {r:Ru × Rd} (h:A2j L E f s=some r) (hi:s.i<=L.length):r.1.sz<=100 * L.length:=by
 unfold A2j at h;split at h
 ·cases h
 ·rename_i d s1 hd;split at h
  ·cases h
  ·rename_i m s2 hm;cases h;have h1:=rld_sz hG _ _ _ _ hd;have h2:=rlm_sz hG _ _ _ _ hm;have h3:=rlm_i _ _ _ _ hm (rld_i _ _ _ _ hd hi);unfold Ru.sz;simp only [List.map_nil,List.sum_nil] at h1 h2 h3 ⊢;omega
end
theorem rulF_sz {L:List Tok} {E:Int} (hG:∀ t∈L,E8 t):(A2k L E).1.sz<=100 * L.length:=by
 obtain ⟨f,hf⟩:=(A3t L E).get;exact rul_sz hG hf (Nat.zero_le _)
theorem parM_sz (s:List UInt8):(K5 s).1.sz<=2000000:=by
 unfold K5;dsimp only;split
 ·show 0+0<=_;omega
 ·rename_i h;have h:(D5 s).2.2=0:=by simpa using h
  have h1:=scan_le h;split
  ·show 0+0<=_;omega
  ·have:=rulF_sz (E:=s.length) (A3s h);dsimp only;omega
end Go.Pb
set_option maxHeartbeats 4000000
namespace Go.Proofs.YtnmkkggfgdfmeaaGreatDoor
open Go.Eng (IC IOper DReg IFn A3)
open Go.Sym
section
abbrev u95_8:=qE [oI 5 1] [1,2,3]
abbrev u95_11:=qE [oI 5 2] [1,2,3]
abbrev u95_14:=qS [oI 2 0,oI 3 0,oV 4 (.bool false)] .ret []
abbrev u95_13:=qK u95_14 .skip (.t 23) [1,2,3,5,23]
abbrev u95_12:=qS [oF 24 1 0,oL 25 24,oK 26 25 .lss 1,oM 27 26,hF 28 1 0 27,hL 29 28 27,hK 30 29 27 .gtr 24,oO 31 27 30,oM 23 31] u95_13 [1,2,3,5]
abbrev u95_10:=qK u95_11 u95_12 (.t 20) [1,2,3,5,20]
abbrev u95_9:=qS [oM 21 6,oK 22 21 .lss 6,oM 20 22] u95_10 [1,2,3,5,6]
abbrev u95_7:=qK u95_8 u95_9 (.t 17) [1,2,3,5,6,17]
abbrev u95_6:=qS [oM 18 6,oK 19 18 .eql 6,oM 17 19] u95_7 [1,2,3,5,6]
abbrev u95_5:=qJ u95_6 0 [1,2,3,5,6]
abbrev u95_4:=qS [oF 14 1 0,oL 15 14,oC 16 127 [.t 15],oM 6 16] u95_5 [1,2,3,5]
abbrev u95_19:=qE [oF 43 1 2,oL 44 43,oC 45 121 [.t 44],oM 7 45] [1,2,3,5]
abbrev u95_18:=qK u95_19 .skip (.t 42) [1,2,3,5,7,42]
abbrev u95_17:=qS [oF 35 1 0,oL 36 35,oK 37 36 .eql 2,oM 38 37,hF 39 1 0 38,hL 40 39 38,⟨some 41,.call 128 [.t 40],some (38,false)⟩,oO 42 38 41] u95_18 [1,2,3,5,7]
abbrev u95_24:=qS [oI 2 0,oI 3 0,oV 4 (.bool false)] .ret []
abbrev u95_23:=qK u95_24 .skip (.t 76) [1,2,3,5,76]
abbrev u95_22:=qS [oF 64 1 3,oL 65 64,oH 66 65,oM 67 5,oB 68 66 67 .neq,oM 69 68,hM 70 7 69,oR 71 (.un .not (.t 70)) 69,oO 72 69 71,oM 73 72,hM 74 8 73,oR 75 (.un .not (.t 74)) 73,oO 76 73 75] u95_23 [1,2,3,5,7,8]
abbrev u95_28:=qS [oI 2 1,oI 3 0,oV 4 (.bool true)] .ret []
abbrev u95_27:=qK u95_28 .skip (.t 78) [1,2,3,5,78]
abbrev u95_26:=qS [oM 77 5,oK 78 77 .eql 0] u95_27 [1,2,3,5]
abbrev u95_40:=qS [oI 2 0,oI 3 0,oV 4 (.bool false)] .ret []
abbrev u95_39:=qK u95_40 .skip (.t 94) [1,2,3,5,9,11,12,80,81,82,94]
abbrev u95_38:=qS [oM 93 13,oY 94 93] u95_39 [1,2,3,5,9,11,12,13,80,81,82]
abbrev u95_44:=qE [oM 98 12,oK 99 98 .add 1,oM 12 99] [1,2,3,5,11,12,80,81,82]
abbrev u95_43:=qK u95_44 .skip (.t 97) [1,2,3,5,11,12,80,81,82,97]
abbrev u95_42:=qS [oD 95 1 5,oM 96 9,oC 97 129 [.t 95,.t 96]] u95_43 [1,2,3,5,9,11,12,80,81,82]
abbrev u95_45:=qE [oM 100 2,oM 101 11,oB 102 100 101 .add,oM 103 3,oM 104 12,oP 105 (.mx (.t 103) (.t 104)),oM 2 102,oM 3 105] [1,2,3,5,11,12,80,81,82]
abbrev u95_41:=qQ u95_42 u95_45 [1,2,3,5,9,11,12,80,81,82]
abbrev u95_37:=qQ u95_38 u95_41 [1,2,3,5,9,11,12,13,80,81,82]
abbrev u95_36:=qS [oD 88 10 5,oC 89 95 [.t 88],oM 87 89,oE 90 87 0,oE 91 87 1,oE 92 87 2,oM 11 90,oM 12 91,oM 13 92] u95_37 [1,2,3,5,9,10,80,81,82]
abbrev u95_35:=qS [oM 84 82,oA 85 80 82 5,oD 86 85 5,oW 10 (.agg #[.int .i64 0,.int .i64 0,.string ⟨#[]⟩,.slice none 0 0,.int .i64 0]),oM 9 84,oS 10 86 5] u95_36 [1,2,3,5,80,81,82]
abbrev u95_46:=qE [oK 106 82 .add 1,oM 82 106] [1,2,3,5,80,81,82]
abbrev u95_34:=qB u95_35 u95_46 2 [1,2,3,5,80,81,82]
abbrev u95_33:=qC .skip u95_34 (.exit 1) (.t 83) [1,2,3,5,80,81,82,83]
abbrev u95_32:=qS [oB 83 82 81 .lss] u95_33 [1,2,3,5,80,81,82]
abbrev u95_31:=qJ (.loop u95_32) 1 [1,2,3,5,80,81,82]
abbrev u95_30:=qS [oF 79 1 3,oL 80 79,oH 81 80,oI 82 0] u95_31 [1,2,3,5]
abbrev u95_50:=qE [oM 109 3,oK 110 109 .add 1,oM 3 110] [2,3]
abbrev u95_49:=qK u95_50 .skip (.t 108) [2,3,108]
abbrev u95_48:=qS [oM 107 5,oK 108 107 .eql 1] u95_49 [2,3,5]
abbrev u95_51:=qS [oM 111 2,oM 112 3,oM 2 111,oM 3 112,oV 4 (.bool true)] .ret [2,3]
abbrev u95_47:=qQ u95_48 u95_51 [2,3,5]
abbrev u95_29:=qQ u95_30 u95_47 [1,2,3,5]
abbrev u95_25:=qQ u95_26 u95_29 [1,2,3,5]
abbrev u95_21:=qQ u95_22 u95_25 [1,2,3,5,7,8]
abbrev u95_20:=qS [oF 46 1 1,oL 47 46,oK 48 47 .eql 0,oM 49 48,hF 50 1 0 49,hL 51 50 49,hK 52 51 49 .eql 1,hM 53 52 49,gF 54 1 1 53,gL 55 54 53,gK 56 55 53 .gtr 0,oR 57 (.pick (.t 53) (.t 56) (.k (.bool false))) 49,hM 58 57 49,gF 59 1 1 58,gL 60 59 58,gK 61 60 58 .leq 2147483647,oR 62 (.pick (.t 58) (.t 61) (.k (.bool false))) 49,oO 63 49 62,oM 8 63] u95_21 [1,2,3,5,7]
abbrev u95_16:=qQ u95_17 u95_20 [1,2,3,5,7]
abbrev u95_15:=qS [oF 32 1 2,oL 33 32,oP 34 (.bin .eql (.t 33) (.k (.string ⟨#[]⟩))),oM 7 34] u95_16 [1,2,3,5]
abbrev u95_3:=qQ u95_4 u95_15 [1,2,3,5]
abbrev u95_2:=qS [oI 5 0] u95_3 [1,2,3]
abbrev u95_1:=qS [oX 1 0,oI 2 0,oI 3 0,oV 4 (.bool false)] u95_2 [0]
def u95:IFn:=⟨113,u95_1,[.tmp 2,.tmp 3,.tmp 4]⟩
end
theorem isU95:A3 Tryz.prog 95 u95:=by unfold A3;kernel_rfl
section
abbrev u56_3:=qS [oM 12 5,oM 13 12,gM 14 3 13,gK 15 14 13 .leq 32,oJ 16 13 15,oM 17 16,gM 18 4 17,gK 19 18 17 .leq 16,oJ 20 17 19,oM 2 20] .ret [3,4,5]
abbrev u56_2:=qS [oD 7 1 5,oC 8 95 [.t 7],oM 6 8,oE 9 6 0,oE 10 6 1,oE 11 6 2,oM 3 9,oM 4 10,oM 5 11] u56_3 [1]
abbrev u56_1:=qS [oX 1 0,oV 2 (.bool false)] u56_2 [0]
def u56:IFn:=⟨21,u56_1,[.tmp 2]⟩
end
theorem isU56:A3 Tryz.prog 56 u56:=by unfold A3;kernel_rfl
section
abbrev u128_2:=qS [oM 3 0,oK 4 3 .eql 5,oM 5 4,hM 6 0 5,hK 7 6 5 .eql 6,oO 8 5 7,oM 9 8,hM 10 0 9,hK 11 10 9 .eql 7,oO 12 9 11,oM 2 12] .ret [0]
abbrev u128_1:=qS [oV 2 (.bool false)] u128_2 [0]
def u128:IFn:=⟨13,u128_1,[.tmp 2]⟩
end
theorem isU128:A3 Tryz.prog 128 u128:=by unfold A3;kernel_rfl
section
abbrev u127_5:=qS [oI 2 1] .ret []
abbrev u127_8:=qS [oI 2 2] .ret []
abbrev u127_11:=qS [oI 2 3] .ret []
abbrev u127_14:=qS [oI 2 4] .ret []
abbrev u127_17:=qS [oI 2 5] .ret []
abbrev u127_20:=qS [oI 2 6] .ret []
abbrev u127_19:=qK u127_20 .skip (.t 30) [30]
abbrev u127_18:=qS [oM 31 0,oK 32 31 .eql 10,oM 33 32,hM 34 0 33,hK 35 34 33 .eql 11,oO 36 33 35,oM 30 36] u127_19 [0]
abbrev u127_16:=qK u127_17 u127_18 (.t 23) [0,23]
abbrev u127_15:=qS [oM 24 0,oK 25 24 .geq 12,oM 26 25,gM 27 0 26,gK 28 27 26 .leq 14,oJ 29 26 28,oM 23 29] u127_16 [0]
abbrev u127_13:=qK u127_14 u127_15 (.t 16) [0,16]
abbrev u127_12:=qS [oM 17 0,oK 18 17 .eql 15,oM 19 18,hM 20 0 19,hK 21 20 19 .eql 16,oO 22 19 21,oM 16 22] u127_13 [0]
abbrev u127_10:=qK u127_11 u127_12 (.t 9) [0,9]
abbrev u127_9:=qS [oM 10 0,oK 11 10 .geq 17,oM 12 11,gM 13 0 12,gK 14 13 12 .leq 22,oJ 15 12 14,oM 9 15] u127_10 [0]
abbrev u127_7:=qK u127_8 u127_9 (.t 6) [0,6]
abbrev u127_6:=qS [oM 7 0,oK 8 7 .eql 23,oM 6 8] u127_7 [0]
abbrev u127_4:=qK u127_5 u127_6 (.t 3) [0,3]
abbrev u127_3:=qS [oM 4 0,oK 5 4 .eql 24,oM 3 5] u127_4 [0]
abbrev u127_21:=qS [oI 2 7] .ret []
abbrev u127_2:=qB u127_3 u127_21 0 [0]
abbrev u127_1:=qS [oI 2 0] u127_2 [0]
def u127:IFn:=⟨37,u127_1,[.tmp 2]⟩
end
theorem isU127:A3 Tryz.prog 127 u127:=by unfold A3;kernel_rfl
section
abbrev u129_3:=qS [oM 17 6,oM 18 5,oB 19 17 18 .lss,oM 20 19,hM 21 6 20,hM 22 5 20,oR 23 (.bin .eql (.t 21) (.t 22)) 20,hM 24 23 20,gM 25 1 24,gK 26 25 24 .eql 1,gM 27 26 24,hM 28 5 27,hK 29 28 27 .eql 3,oG 30 (.pick (.t 27) (.k (.bool true)) (.t 29)) 24,oR 31 (.pick (.t 24) (.t 30) (.k (.bool false))) 20,oO 32 20 31,oM 4 32] .ret [1,5,6]
abbrev u129_2:=qD [oF 7 2 0,oL 8 7,oC 9 127 [.t 8],oF 10 2 3,oL 11 10,oM 12 1,oA 13 11 12 5,oF 14 13 0,oL 15 14,oC 16 127 [.t 15],oM 5 9,oM 6 16] u129_3 [(0,none),(1,none),(3,none),(4,none),(5,none),(6,none),(7,none),(8,none),(2,some [3,4,5,6,7,8]),(9,some []),(10,some []),(11,some [])] 12 [1,2]
abbrev u129_1:=qS [oX 2 0,oV 4 (.bool false)] u129_2 [0,1]
def u129:IFn:=⟨33,u129_1,[.tmp 4]⟩
end
theorem isU129:A3 Tryz.prog 129 u129:=by unfold A3;kernel_rfl
section
abbrev u159_10:=qE [oK 8 4 .eql 10,oM 5 8] [0,2,4]
abbrev u159_9:=qK .skip u159_10 (.t 5) [0,2,4,5]
abbrev u159_8:=qS [oK 7 4 .eql 8,oM 5 7] u159_9 [0,2,4]
abbrev u159_7:=qK .skip u159_8 (.t 5) [0,2,4,5]
abbrev u159_6:=qS [oK 6 4 .eql 1,oM 5 6] u159_7 [0,2,4]
abbrev u159_12:=qS [oP 9 (.bld #[.bool false,.bool false,.int .i64 0,.bool false,.bool false] [(0,1),(1,1),(2,1),(3,1),(4,1)] [(0,.k (.bool true)),(2,.k (.int .i64 1))]),oS 2 9 5,oV 3 (.bool true)] .ret [2]
abbrev u159_15:=qS [oP 12 (.bld #[.bool false,.bool false,.int .i64 0,.bool false,.bool false] [(0,1),(1,1),(2,1),(3,1),(4,1)] [(0,.k (.bool true)),(2,.k (.int .i64 2))]),oS 2 12 5,oV 3 (.bool true)] .ret [2]
abbrev u159_18:=qS [oP 15 (.bld #[.bool false,.bool false,.int .i64 0,.bool false,.bool false] [(0,1),(1,1),(2,1),(3,1),(4,1)] [(2,.k (.int .i64 1)),(3,.k (.bool true)),(4,.k (.bool true))]),oS 2 15 5,oV 3 (.bool true)] .ret [2]
abbrev u159_21:=qS [oP 18 (.bld #[.bool false,.bool false,.int .i64 0,.bool false,.bool false] [(0,1),(1,1),(2,1),(3,1),(4,1)] [(2,.k (.int .i64 1)),(3,.k (.bool true))]),oS 2 18 5,oV 3 (.bool true)] .ret [2]
abbrev u159_24:=qS [oP 21 (.bld #[.bool false,.bool false,.int .i64 0,.bool false,.bool false] [(0,1),(1,1),(2,1),(3,1),(4,1)] [(2,.k (.int .i64 1))]),oS 2 21 5,oV 3 (.bool true)] .ret [2]
abbrev u159_27:=qS [oP 24 (.bld #[.bool false,.bool false,.int .i64 0,.bool false,.bool false] [(0,1),(1,1),(2,1),(3,1),(4,1)] [(1,.k (.bool true)),(2,.k (.int .i64 1))]),oS 2 24 5,oV 3 (.bool true)] .ret [2]
abbrev u159_30:=qS [oP 27 (.bld #[.bool false,.bool false,.int .i64 0,.bool false,.bool false] [(0,1),(1,1),(2,1),(3,1),(4,1)] []),oS 2 27 5,oV 3 (.bool true)] .ret [2]
abbrev u159_29:=qK u159_30 .skip (.t 25) [0,2,25]
abbrev u159_28:=qS [oK 26 4 .eql 19,oM 25 26] u159_29 [0,2,4]
abbrev u159_26:=qK u159_27 u159_28 (.t 22) [0,2,4,22]
abbrev u159_25:=qS [oK 23 4 .eql 18,oM 22 23] u159_26 [0,2,4]
abbrev u159_23:=qK u159_24 u159_25 (.t 19) [0,2,4,19]
abbrev u159_22:=qS [oK 20 4 .eql 4,oM 19 20] u159_23 [0,2,4]
abbrev u159_20:=qK u159_21 u159_22 (.t 16) [0,2,4,16]
abbrev u159_19:=qS [oK 17 4 .eql 3,oM 16 17] u159_20 [0,2,4]
abbrev u159_17:=qK u159_18 u159_19 (.t 13) [0,2,4,13]
abbrev u159_16:=qS [oK 14 4 .eql 2,oM 13 14] u159_17 [0,2,4]
abbrev u159_14:=qK u159_15 u159_16 (.t 10) [0,2,4,10]
abbrev u159_13:=qS [oK 11 4 .eql 9,oM 10 11] u159_14 [0,2,4]
abbrev u159_11:=qK u159_12 u159_13 (.t 5) [0,2,4,5]
abbrev u159_5:=qQ u159_6 u159_11 [0,2,4]
abbrev u159_4:=qJ u159_5 0 [0,2,4]
abbrev u159_3:=qS [oM 4 0] u159_4 [0,2]
abbrev u159_31:=qS [oP 28 (.bld #[.bool false,.bool false,.int .i64 0,.bool false,.bool false] [(0,1),(1,1),(2,1),(3,1),(4,1)] [(0,.k (.bool true))]),oM 29 0,oK 30 29 .geq 1,oM 31 30,gM 32 0 31,gK 33 32 31 .leq 19,oJ 34 31 33,oS 2 28 5,oM 3 34] .ret [0,2]
abbrev u159_2:=qQ u159_3 u159_31 [0,2]
abbrev u159_1:=qS [oW 2 (.agg #[.bool false,.bool false,.int .i64 0,.bool false,.bool false]),oV 3 (.bool false)] u159_2 [0]
def u159:IFn:=⟨35,u159_1,[.cell 2 5 true,.tmp 3]⟩
end
theorem isU159:A3 Tryz.prog 159 u159:=by unfold A3;kernel_rfl
section
abbrev u162_7:=qK .skip (.exit 0) (.t 7) [0,3,7]
abbrev u162_6:=qS [oM 4 3,oM 5 0,oP 6 (.lens (.t 5)),oB 7 4 6 .lss] u162_7 [0,3]
abbrev u162_11:=qS [oV 2 (.bool false)] .ret []
abbrev u162_10:=qK u162_11 .skip (.t 19) [0,3,19]
abbrev u162_9:=qS [oM 10 0,oM 11 3,oP 12 (.idx (.t 10) (.t 11)),oP 13 (.bin .lss (.t 12) (.k (.int .u8 32))),oM 14 13,hM 15 0 14,hM 16 3 14,oR 17 (.idx (.t 15) (.t 16)) 14,oR 18 (.bin .gtr (.t 17) (.k (.int .u8 126))) 14,oO 19 14 18] u162_10 [0,3]
abbrev u162_12:=qE [oM 8 3,oK 9 8 .add 1,oM 3 9] [0,3]
abbrev u162_8:=qB u162_9 u162_12 1 [0,3]
abbrev u162_5:=qQ u162_6 u162_8 [0,3]
abbrev u162_4:=qJ (.loop u162_5) 0 [0,3]
abbrev u162_3:=qS [oI 3 0] u162_4 [0]
abbrev u162_13:=qS [oM 20 0,oP 21 (.lens (.t 20)),oK 22 21 .leq 32,oM 2 22] .ret [0]
abbrev u162_2:=qQ u162_3 u162_13 [0]
abbrev u162_1:=qS [oV 2 (.bool false)] u162_2 [0]
def u162:IFn:=⟨23,u162_1,[.tmp 2]⟩
end
theorem isU162:A3 Tryz.prog 162 u162:=by unfold A3;kernel_rfl
section
abbrev u123_5:=qS [oV 4 (.bool false)] .ret []
abbrev u123_4:=qK u123_5 .skip (.t 16) [0,3,16]
abbrev u123_3:=qS [oM 5 0,oH 6 5,oK 7 6 .gtr 64,oM 8 7,hM 9 0 8,oR 10 (.len (.t 9)) 8,hK 11 10 8 .gtr 0,hM 12 11 8,gL 13 3 12,gK 14 13 12 .gtr 8,oR 15 (.pick (.t 12) (.t 14) (.k (.bool false))) 8,oO 16 8 15] u123_4 [0,3]
abbrev u123_6:=qS [oM 17 0,oP 18 (.mkf 149 [] [.t 3]),oC 19 148 [.t 17,.t 18],oY 20 19,oM 4 20] .ret [0,3]
abbrev u123_2:=qQ u123_3 u123_6 [0,3]
abbrev u123_1:=qS [oX 3 1,oV 4 (.bool false)] u123_2 [0,1]
def u123:IFn:=⟨21,u123_1,[.tmp 4]⟩
end
theorem isU123:A3 Tryz.prog 123 u123:=by unfold A3;kernel_rfl
section
abbrev u149_2:=qS [oD 4 2 7,oL 5 1,oC 6 150 [.t 4,.t 5],oY 7 6,oM 3 7] .ret [1,2]
abbrev u149_1:=qS [oX 2 0,oV 3 (.bool false)] u149_2 [0,1]
def u149:IFn:=⟨8,u149_1,[.tmp 3]⟩
end
theorem isU149:A3 Tryz.prog 149 u149:=by unfold A3;kernel_rfl
section
abbrev u150_6:=qS [oV 4 (.bool false)] .ret []
abbrev u150_5:=qK u150_6 .skip (.t 29) [1,2,5,29]
abbrev u150_4:=qS [oM 15 6,oY 16 15,oM 17 16,hF 18 2 3 17,hL 19 18 17,oR 20 (.len (.t 19)) 17,hF 21 5 2 17,hL 22 21 17,oR 23 (.bin .neq (.t 20) (.t 22)) 17,oO 24 17 23,oM 25 24,hF 26 2 3 25,hL 27 26 25,⟨some 28,.call 160 [.t 27,.f 161],some (25,false)⟩,oO 29 25 28] u150_5 [1,2,5,6]
abbrev u150_11:=qE [oF 38 2 1,oL 39 38,oC 40 121 [.t 39],oM 7 40] [1,2,5,8]
abbrev u150_10:=qK u150_11 .skip (.t 37) [1,2,5,7,8,37]
abbrev u150_9:=qS [oF 36 5 0,oL 37 36] u150_10 [1,2,5,7,8]
abbrev u150_15:=qE [oF 43 2 2,oL 44 43,oC 45 162 [.t 44],oM 8 45] [1,2,5,7]
abbrev u150_14:=qK u150_15 .skip (.t 42) [1,2,5,7,8,42]
abbrev u150_13:=qS [oF 41 5 1,oL 42 41] u150_14 [1,2,5,7,8]
abbrev u150_19:=qS [oV 4 (.bool false)] .ret []
abbrev u150_18:=qK u150_19 .skip (.t 73) [1,2,73]
abbrev u150_17:=qS [oM 46 7,oY 47 46,oM 48 47,hM 49 8 48,oR 50 (.un .not (.t 49)) 48,oO 51 48 50,oM 52 51,hF 53 5 3 52,hL 54 53 52,oR 55 (.un .not (.t 54)) 52,hM 56 55 52,gF 57 2 4 56,gL 58 57 56,oG 59 (.len (.t 58)) 56,gK 60 59 56 .gtr 0,oR 61 (.pick (.t 56) (.t 60) (.k (.bool false))) 52,oO 62 52 61,oM 63 62,hF 64 5 4 63,hL 65 64 63,oR 66 (.un .not (.t 65)) 63,hM 67 66 63,gF 68 2 5 67,gL 69 68 67,oG 70 (.len (.t 69)) 67,gK 71 70 67 .gtr 0,oR 72 (.pick (.t 67) (.t 71) (.k (.bool false))) 63,oO 73 63 72] u150_18 [1,2,5,7,8]
abbrev u150_20:=qS [oF 74 2 4,oL 75 74,oM 76 1,oK 77 76 .add 1,oC 78 123 [.t 75,.t 77],oM 79 78,gF 80 2 5 79,gL 81 80 79,gM 82 1 79,gK 83 82 79 .add 1,⟨some 84,.call 123 [.t 81,.t 83],some (79,true)⟩,oJ 85 79 84,oM 4 85] .ret [1,2]
abbrev u150_16:=qQ u150_17 u150_20 [1,2,5,7,8]
abbrev u150_12:=qQ u150_13 u150_16 [1,2,5,7,8]
abbrev u150_8:=qQ u150_9 u150_12 [1,2,5,7,8]
abbrev u150_7:=qD [oF 30 2 1,oL 31 30,oP 32 (.bin .eql (.t 31) (.k (.string ⟨#[]⟩))),oF 33 2 2,oL 34 33,oP 35 (.bin .eql (.t 34) (.k (.string ⟨#[]⟩))),oM 7 32,oM 8 35] u150_8 [(0,none),(1,none),(2,none),(3,none),(4,none),(5,none),(6,some [3,4,5]),(7,some [])] 8 [1,2,5]
abbrev u150_3:=qQ u150_4 u150_7 [1,2,5,6]
abbrev u150_2:=qS [oF 10 2 0,oL 11 10,oC 12 159 [.t 11],oM 9 12,oE 13 9 0,oE 14 9 1,oW 5 (.agg #[.bool false,.bool false,.int .i64 0,.bool false,.bool false]),oS 5 13 5,oM 6 14] u150_3 [1,2]
abbrev u150_1:=qS [oX 2 0,oV 4 (.bool false)] u150_2 [0,1]
def u150:IFn:=⟨86,u150_1,[.tmp 4]⟩
end
theorem isU150:A3 Tryz.prog 150 u150:=by unfold A3;kernel_rfl
section
abbrev u161_2:=qS [oD 3 1 5,oC 4 56 [.t 3],oY 5 4,oM 2 5] .ret [1]
abbrev u161_1:=qS [oX 1 0,oV 2 (.bool false)] u161_2 [0]
def u161:IFn:=⟨6,u161_1,[.tmp 2]⟩
end
theorem isU161:A3 Tryz.prog 161 u161:=by unfold A3;kernel_rfl
section
abbrev u81_8:=qE [oI 3 (-2147483647)] [1,4]
abbrev u81_12:=qE [oK 11 6 .eql 8,oM 9 11] [1,3,4,6]
abbrev u81_11:=qK .skip u81_12 (.t 9) [1,3,4,6,9]
abbrev u81_10:=qS [oK 10 6 .eql 7,oM 9 10] u81_11 [1,3,4,6]
abbrev u81_14:=qE [oI 4 0] [1,3]
abbrev u81_13:=qK u81_14 .skip (.t 9) [1,3,4,9]
abbrev u81_9:=qQ u81_10 u81_13 [1,3,4,6]
abbrev u81_7:=qK u81_8 u81_9 (.t 7) [1,3,4,6,7]
abbrev u81_6:=qS [oK 8 6 .eql 6,oM 7 8] u81_7 [1,3,4,6]
abbrev u81_5:=qJ u81_6 0 [1,3,4,6]
abbrev u81_4:=qS [oF 5 1 0,oL 6 5] u81_5 [1,3,4]
abbrev u81_15:=qS [oF 12 1 0,oL 13 12,oK 14 13 .geq 1,oM 15 14,gF 16 1 0 15,gL 17 16 15,gK 18 17 15 .leq 8,oJ 19 15 18,oM 20 19,gF 21 1 1 20,gL 22 21 20,⟨some 23,.call 121 [.t 22],some (20,true)⟩,oJ 24 20 23,oM 25 24,gF 26 1 2 25,gL 27 26 25,gM 28 3 25,oG 29 (.bin .geq (.t 27) (.t 28)) 25,oJ 30 25 29,oM 31 30,gF 32 1 2 31,gL 33 32 31,gM 34 4 31,oG 35 (.bin .leq (.t 33) (.t 34)) 31,oJ 36 31 35,oM 2 36] .ret [1,3,4]
abbrev u81_3:=qQ u81_4 u81_15 [1,3,4]
abbrev u81_2:=qS [oI 3 0,oI 4 2147483647] u81_3 [1]
abbrev u81_1:=qS [oX 1 0,oV 2 (.bool false)] u81_2 [0]
def u81:IFn:=⟨37,u81_1,[.tmp 2]⟩
end
theorem isU81:A3 Tryz.prog 81 u81:=by unfold A3;kernel_rfl
section
abbrev u84_5:=qS [oV 2 (.bool false)] .ret []
abbrev u84_4:=qK u84_5 .skip (.t 25) [1,25]
abbrev u84_3:=qS [oF 6 1 0,oL 7 6,oC 8 121 [.t 7],oY 9 8,oM 10 9,hF 11 1 1 10,hL 12 11 10,hK 13 12 10 .lss 0,oO 14 10 13,oM 15 14,hF 16 1 1 15,hL 17 16 15,hK 18 17 15 .gtr 2147483647,oO 19 15 18,oM 20 19,hF 21 1 2 20,hL 22 21 20,oR 23 (.len (.t 22)) 20,hK 24 23 20 .gtr 32,oO 25 20 24] u84_4 [1]
abbrev u84_17:=qE [oF 39 4 1,oL 40 39,oC 41 121 [.t 40],oM 5 41] [4,27,28,29]
abbrev u84_16:=qK u84_17 .skip (.t 38) [4,5,27,28,29,38]
abbrev u84_15:=qS [oF 36 4 0,oL 37 36,oK 38 37 .geq 3] u84_16 [4,5,27,28,29]
abbrev u84_20:=qS [oV 2 (.bool false)] .ret []
abbrev u84_19:=qK u84_20 .skip (.t 59) [27,28,29,59]
abbrev u84_18:=qS [oF 42 4 0,oL 43 42,oK 44 43 .lss 1,oM 45 44,hF 46 4 0 45,hL 47 46 45,hK 48 47 45 .gtr 6,oO 49 45 48,oM 50 49,hM 51 5 50,oR 52 (.un .not (.t 51)) 50,oO 53 50 52,oM 54 53,hF 55 4 2 54,hL 56 55 54,⟨some 57,.call 123 [.t 56,.k (.int .i64 1)],some (54,false)⟩,oR 58 (.un .not (.t 57)) 54,oO 59 54 58] u84_19 [4,5,27,28,29]
abbrev u84_14:=qQ u84_15 u84_18 [4,5,27,28,29]
abbrev u84_13:=qS [oF 33 4 1,oL 34 33,oP 35 (.bin .eql (.t 34) (.k (.string ⟨#[]⟩))),oM 5 35] u84_14 [4,27,28,29]
abbrev u84_12:=qS [oA 31 27 29 4,oD 32 31 4,oW 4 (.agg #[.int .i64 0,.string ⟨#[]⟩,.slice none 0 0,.int .i64 0]),oS 4 32 4] u84_13 [27,28,29]
abbrev u84_21:=qE [oK 60 29 .add 1,oM 29 60] [27,28,29]
abbrev u84_11:=qB u84_12 u84_21 1 [27,28,29]
abbrev u84_10:=qC .skip u84_11 (.exit 0) (.t 30) [27,28,29,30]
abbrev u84_9:=qS [oB 30 29 28 .lss] u84_10 [27,28,29]
abbrev u84_8:=qJ (.loop u84_9) 0 [27,28,29]
abbrev u84_7:=qS [oF 26 1 2,oL 27 26,oH 28 27,oI 29 0] u84_8 [1]
abbrev u84_22:=qS [oV 2 (.bool true)] .ret []
abbrev u84_6:=qQ u84_7 u84_22 [1]
abbrev u84_2:=qQ u84_3 u84_6 [1]
abbrev u84_1:=qS [oX 1 0,oV 2 (.bool false)] u84_2 [0]
def u84:IFn:=⟨61,u84_1,[.tmp 2]⟩
end
theorem isU84:A3 Tryz.prog 84 u84:=by unfold A3;kernel_rfl
section
abbrev u40_5:=qS [oV 2 (.bool false)] .ret []
abbrev u40_4:=qK u40_5 .skip (.t 12) [1,12]
abbrev u40_3:=qS [oF 3 1 0,oL 4 3,oH 5 4,oK 6 5 .gtr 128,oM 7 6,hF 8 1 1 7,hL 9 8 7,oR 10 (.len (.t 9)) 7,hK 11 10 7 .gtr 16,oO 12 7 11] u40_4 [1]
abbrev u40_6:=qS [oF 13 1 0,oL 14 13,oC 15 79 [.t 14,.f 80],oY 16 15,oM 17 16,gF 18 1 1 17,gL 19 18 17,⟨some 20,.call 82 [.t 19,.f 83],some (17,true)⟩,oG 21 (.un .not (.t 20)) 17,oJ 22 17 21,oM 2 22] .ret [1]
abbrev u40_2:=qQ u40_3 u40_6 [1]
abbrev u40_1:=qS [oX 1 0,oV 2 (.bool false)] u40_2 [0]
def u40:IFn:=⟨23,u40_1,[.tmp 2]⟩
end
theorem isU40:A3 Tryz.prog 40 u40:=by unfold A3;kernel_rfl
section
abbrev u80_2:=qS [oD 3 1 4,oC 4 81 [.t 3],oY 5 4,oM 2 5] .ret [1]
abbrev u80_1:=qS [oX 1 0,oV 2 (.bool false)] u80_2 [0]
def u80:IFn:=⟨6,u80_1,[.tmp 2]⟩
end
theorem isU80:A3 Tryz.prog 80 u80:=by unfold A3;kernel_rfl
section
abbrev u83_2:=qS [oD 3 1 4,oC 4 84 [.t 3],oY 5 4,oM 2 5] .ret [1]
abbrev u83_1:=qS [oX 1 0,oV 2 (.bool false)] u83_2 [0]
def u83:IFn:=⟨6,u83_1,[.tmp 2]⟩
end
theorem isU83:A3 Tryz.prog 83 u83:=by unfold A3;kernel_rfl
section
abbrev u45_2:=qS [oM 5 0,oM 6 1,oC 7 88 [.t 5,.t 6],oK 8 7 .geq 0,oM 4 8] .ret [0,1]
abbrev u45_1:=qS [oV 4 (.bool false)] u45_2 [0,1]
def u45:IFn:=⟨9,u45_1,[.tmp 4]⟩
end
theorem isU45:A3 Tryz.prog 45 u45:=by unfold A3;kernel_rfl
section
abbrev u88_11:=qS [oM 17 5,oM 4 17] .ret [5]
abbrev u88_10:=qK u88_11 .skip (.t 16) [0,1,5,7,8,16]
abbrev u88_9:=qS [oM 11 1,oM 12 0,oM 13 5,oA 14 12 13 4,oD 15 14 4,⟨some 16,.callv (.t 11) [.t 15],none⟩] u88_10 [0,1,5,7,8]
abbrev u88_8:=qS [oM 10 8,oM 5 10] u88_9 [0,1,7,8]
abbrev u88_12:=qE [oK 18 8 .add 1,oM 8 18] [0,1,7,8]
abbrev u88_7:=qB u88_8 u88_12 1 [0,1,7,8]
abbrev u88_6:=qC .skip u88_7 (.exit 0) (.t 9) [0,1,7,8,9]
abbrev u88_5:=qS [oB 9 8 7 .lss] u88_6 [0,1,7,8]
abbrev u88_4:=qJ (.loop u88_5) 0 [0,1,7,8]
abbrev u88_3:=qS [oM 6 0,oH 7 6,oI 8 0] u88_4 [0,1]
abbrev u88_13:=qS [oI 4 (-1)] .ret []
abbrev u88_2:=qQ u88_3 u88_13 [0,1]
abbrev u88_1:=qS [oI 4 0] u88_2 [0,1]
def u88:IFn:=⟨19,u88_1,[.tmp 4]⟩
end
theorem isU88:A3 Tryz.prog 88 u88:=by unfold A3;kernel_rfl
section
abbrev u79_2:=qS [oM 5 0,oM 6 1,oC 7 120 [.t 5,.t 6],oK 8 7 .geq 0,oM 4 8] .ret [0,1]
abbrev u79_1:=qS [oV 4 (.bool false)] u79_2 [0,1]
def u79:IFn:=⟨9,u79_1,[.tmp 4]⟩
end
theorem isU79:A3 Tryz.prog 79 u79:=by unfold A3;kernel_rfl
section
abbrev u120_11:=qS [oM 17 5,oM 4 17] .ret [5]
abbrev u120_10:=qK u120_11 .skip (.t 16) [0,1,5,7,8,16]
abbrev u120_9:=qS [oM 11 1,oM 12 0,oM 13 5,oA 14 12 13 4,oD 15 14 4,⟨some 16,.callv (.t 11) [.t 15],none⟩] u120_10 [0,1,5,7,8]
abbrev u120_8:=qS [oM 10 8,oM 5 10] u120_9 [0,1,7,8]
abbrev u120_12:=qE [oK 18 8 .add 1,oM 8 18] [0,1,7,8]
abbrev u120_7:=qB u120_8 u120_12 1 [0,1,7,8]
abbrev u120_6:=qC .skip u120_7 (.exit 0) (.t 9) [0,1,7,8,9]
abbrev u120_5:=qS [oB 9 8 7 .lss] u120_6 [0,1,7,8]
abbrev u120_4:=qJ (.loop u120_5) 0 [0,1,7,8]
abbrev u120_3:=qS [oM 6 0,oH 7 6,oI 8 0] u120_4 [0,1]
abbrev u120_13:=qS [oI 4 (-1)] .ret []
abbrev u120_2:=qQ u120_3 u120_13 [0,1]
abbrev u120_1:=qS [oI 4 0] u120_2 [0,1]
def u120:IFn:=⟨19,u120_1,[.tmp 4]⟩
end
theorem isU120:A3 Tryz.prog 120 u120:=by unfold A3;kernel_rfl
section
abbrev u82_2:=qS [oM 5 0,oM 6 1,oC 7 122 [.t 5,.t 6],oK 8 7 .geq 0,oM 4 8] .ret [0,1]
abbrev u82_1:=qS [oV 4 (.bool false)] u82_2 [0,1]
def u82:IFn:=⟨9,u82_1,[.tmp 4]⟩
end
theorem isU82:A3 Tryz.prog 82 u82:=by unfold A3;kernel_rfl
section
abbrev u122_11:=qS [oM 17 5,oM 4 17] .ret [5]
abbrev u122_10:=qK u122_11 .skip (.t 16) [0,1,5,7,8,16]
abbrev u122_9:=qS [oM 11 1,oM 12 0,oM 13 5,oA 14 12 13 4,oD 15 14 4,⟨some 16,.callv (.t 11) [.t 15],none⟩] u122_10 [0,1,5,7,8]
abbrev u122_8:=qS [oM 10 8,oM 5 10] u122_9 [0,1,7,8]
abbrev u122_12:=qE [oK 18 8 .add 1,oM 8 18] [0,1,7,8]
abbrev u122_7:=qB u122_8 u122_12 1 [0,1,7,8]
abbrev u122_6:=qC .skip u122_7 (.exit 0) (.t 9) [0,1,7,8,9]
abbrev u122_5:=qS [oB 9 8 7 .lss] u122_6 [0,1,7,8]
abbrev u122_4:=qJ (.loop u122_5) 0 [0,1,7,8]
abbrev u122_3:=qS [oM 6 0,oH 7 6,oI 8 0] u122_4 [0,1]
abbrev u122_13:=qS [oI 4 (-1)] .ret []
abbrev u122_2:=qQ u122_3 u122_13 [0,1]
abbrev u122_1:=qS [oI 4 0] u122_2 [0,1]
def u122:IFn:=⟨19,u122_1,[.tmp 4]⟩
end
theorem isU122:A3 Tryz.prog 122 u122:=by unfold A3;kernel_rfl
section
abbrev u148_2:=qS [oM 5 0,oM 6 1,oC 7 158 [.t 5,.t 6],oK 8 7 .geq 0,oM 4 8] .ret [0,1]
abbrev u148_1:=qS [oV 4 (.bool false)] u148_2 [0,1]
def u148:IFn:=⟨9,u148_1,[.tmp 4]⟩
end
theorem isU148:A3 Tryz.prog 148 u148:=by unfold A3;kernel_rfl
section
abbrev u158_11:=qS [oM 17 5,oM 4 17] .ret [5]
abbrev u158_10:=qK u158_11 .skip (.t 16) [0,1,5,7,8,16]
abbrev u158_9:=qS [oM 11 1,oM 12 0,oM 13 5,oA 14 12 13 7,oD 15 14 7,⟨some 16,.callv (.t 11) [.t 15],none⟩] u158_10 [0,1,5,7,8]
abbrev u158_8:=qS [oM 10 8,oM 5 10] u158_9 [0,1,7,8]
abbrev u158_12:=qE [oK 18 8 .add 1,oM 8 18] [0,1,7,8]
abbrev u158_7:=qB u158_8 u158_12 1 [0,1,7,8]
abbrev u158_6:=qC .skip u158_7 (.exit 0) (.t 9) [0,1,7,8,9]
abbrev u158_5:=qS [oB 9 8 7 .lss] u158_6 [0,1,7,8]
abbrev u158_4:=qJ (.loop u158_5) 0 [0,1,7,8]
abbrev u158_3:=qS [oM 6 0,oH 7 6,oI 8 0] u158_4 [0,1]
abbrev u158_13:=qS [oI 4 (-1)] .ret []
abbrev u158_2:=qQ u158_3 u158_13 [0,1]
abbrev u158_1:=qS [oI 4 0] u158_2 [0,1]
def u158:IFn:=⟨19,u158_1,[.tmp 4]⟩
end
theorem isU158:A3 Tryz.prog 158 u158:=by unfold A3;kernel_rfl
section
abbrev u160_2:=qS [oM 5 0,oM 6 1,oC 7 166 [.t 5,.t 6],oK 8 7 .geq 0,oM 4 8] .ret [0,1]
abbrev u160_1:=qS [oV 4 (.bool false)] u160_2 [0,1]
def u160:IFn:=⟨9,u160_1,[.tmp 4]⟩
end
theorem isU160:A3 Tryz.prog 160 u160:=by unfold A3;kernel_rfl
section
abbrev u166_11:=qS [oM 17 5,oM 4 17] .ret [5]
abbrev u166_10:=qK u166_11 .skip (.t 16) [0,1,5,7,8,16]
abbrev u166_9:=qS [oM 11 1,oM 12 0,oM 13 5,oA 14 12 13 5,oD 15 14 5,⟨some 16,.callv (.t 11) [.t 15],none⟩] u166_10 [0,1,5,7,8]
abbrev u166_8:=qS [oM 10 8,oM 5 10] u166_9 [0,1,7,8]
abbrev u166_12:=qE [oK 18 8 .add 1,oM 8 18] [0,1,7,8]
abbrev u166_7:=qB u166_8 u166_12 1 [0,1,7,8]
abbrev u166_6:=qC .skip u166_7 (.exit 0) (.t 9) [0,1,7,8,9]
abbrev u166_5:=qS [oB 9 8 7 .lss] u166_6 [0,1,7,8]
abbrev u166_4:=qJ (.loop u166_5) 0 [0,1,7,8]
abbrev u166_3:=qS [oM 6 0,oH 7 6,oI 8 0] u166_4 [0,1]
abbrev u166_13:=qS [oI 4 (-1)] .ret []
abbrev u166_2:=qQ u166_3 u166_13 [0,1]
abbrev u166_1:=qS [oI 4 0] u166_2 [0,1]
def u166:IFn:=⟨19,u166_1,[.tmp 4]⟩
end
theorem isU166:A3 Tryz.prog 166 u166:=by unfold A3;kernel_rfl
end Go.Proofs.YtnmkkggfgdfmeaaGreatDoor
namespace Go.Pb
variable [Go.Sym.Tab]
open Go.Sym
def hd0 (E:Int) (ts:List Tok):Tok:=ts.headD ⟨0,[],0,E⟩
section
variable {L:List Tok} {E:Int}
theorem A4a {k v:Int} {n:List UInt8} {a:List Ex} {p:Int} {o d:Nat} (h:msM (.mk k v n a p)=some (o,d)) :
  kOk k=true/\a.length=H8 k/\Z7 k n=true/\A0e k v=true/\(H8 k=0->o=1/\d=0)/\(H8 k≠0->∃ d',msL k 0 a=some (o,d')/\d=if H8 k=1 then d'+1 else d'):=by
 unfold msM at h;split at h
 ·cases h
 ·rename_i hc;have h1:kOk k=true:=by cases hz:kOk k with|true=>rfl|false=>exact absurd (.inl hz) hc
  have h2:a.length=H8 k:=Classical.byContradiction fun hz=>hc (.inr (.inl hz));have h3:Z7 k n=true:=by cases hz:Z7 k n with|true=>rfl|false=>exact absurd (.inr (.inr (.inl hz))) hc
  have h4:A0e k v=true:=by cases hz:A0e k v with|true=>rfl|false=>exact absurd (.inr (.inr (.inr hz))) hc
  refine ⟨h1,h2,h3,h4,?_,?_⟩
  ·intro h0;rw [if_pos h0] at h;cases h;exact ⟨rfl,rfl⟩
  ·intro h0;rw [if_neg h0] at h;split at h
   ·cases h
   ·rename_i o' d' hm;cases h;exact ⟨d',hm,rfl⟩
end
end Go.Pb
set_option maxHeartbeats 8000000
namespace Go.Proofs.YtnmkkggfgdfmeaaGreatDoor
open Go.Eng (IC IOper DReg IFn A3)
open Go.Sym Go.Pb
theorem c_IF_hd {g:Hd->Bool} {f:Nat} {a cs:List DV} (xs:List (Hd)) (hx:xs.length<=9223372036854775807) (na:DV.nlL a=true) (ncs:DV.nlL cs=true) (hf:∀ x∈xs,PC Tryz.prog f (a++[Hd.v x]++cs) (.bool (g x))) :
  PC Tryz.prog 88 [W8 xs,.func f a cs] (I64 (Q8 g xs 0)):=by
 refine PC.of A6 isU88 (Nat.le_of_ble_eq_true rfl) (by simp [DV.nlL,DV.nl,A2w,na,ncs]) rfl ?_;show IW Tryz.prog 19 u88_1 ⟨B4 _,_,_⟩ (rt [.tmp 4] _);repeat' ((with_reducible apply wr)<;>try simp only [go_sem,seval,List.length_map])
 refine C3 (fun k:Nat=>[(0,W8 xs),(1,.func f a cs),(7,I64 xs.length),(8,I64 k)]) (fun _=>nil) (fun k _=>k<=xs.length/\Q8 g xs 0=Q8 g (xs.drop k) k) (fun k=>xs.length-k) 0 (by simp [C1,tm,Tm.upd]) (Sub.nil _) (by simp) ?_;rintro k c ⟨hk,he⟩;by_cases hlt:k<xs.length
 ·have hd:decide ((k:Int)<xs.length)=true:=by simpa using hlt
  have hg:=List.getElem?_eq_getElem hlt;have hw:=w64 (n:=(k:Int)+1) (by omega) (by omega);have hst:=U0 (g:=g) hg;have hc:=hf xs[k] (List.getElem_mem hlt);repeat' ((with_reducible first|refine wr ?_|refine cpc hc ?_|refine wb2 ?_ ?_<;>(intro hb;try simp only [hb])|fail)<;>try simp only [go_sem,seval,hd,hg,hw])
  ·refine A4 ?_;rw [he,hst,hb];rfl
  ·exact ⟨k+1,rfl,Sub.refl _,inv ⟨by omega,by rw [he,hst,hb];rfl⟩,by omega⟩
 ·have hd:decide ((k:Int)<xs.length)=false:=by simpa using hlt
  repeat' ((with_reducible apply wr)<;>try simp only [go_sem,seval,hd])
  refine A4 ?_;rw [he,X7 (by omega)]
theorem c_CF_hd {g:Hd->Bool} {f:Nat} {a cs:List DV} (xs:List (Hd)) (hx:xs.length<=9223372036854775807) (na:DV.nlL a=true) (ncs:DV.nlL cs=true) (hf:∀ x∈xs,PC Tryz.prog f (a++[Hd.v x]++cs) (.bool (g x))) :
  PC Tryz.prog 45 [W8 xs,.func f a cs] (.bool (xs.any g)):=by
 refine PC.of A6 isU45 (Nat.le_of_ble_eq_true rfl) (by simp [DV.nlL,DV.nl,A2w,na,ncs]) rfl ?_;show IW Tryz.prog 9 u45_1 ⟨B4 _,_,_⟩ (rt [.tmp 4] _);have hc:=c_IF_hd xs hx na ncs hf;repeat' ((with_reducible first|apply wr|refine cpc hc ?_|fail)<;>try simp only [go_sem,seval])
 refine A4 ?_;rw [X8]
theorem c_IF_dc {g:Dc->Bool} {f:Nat} {a cs:List DV} (xs:List (Dc)) (hx:xs.length<=9223372036854775807) (na:DV.nlL a=true) (ncs:DV.nlL cs=true) (hf:∀ x∈xs,PC Tryz.prog f (a++[Dc.v x]++cs) (.bool (g x))) :
  PC Tryz.prog 120 [H4 xs,.func f a cs] (I64 (Q8 g xs 0)):=by
 refine PC.of A6 isU120 (Nat.le_of_ble_eq_true rfl) (by simp [DV.nlL,DV.nl,P6,na,ncs]) rfl ?_;show IW Tryz.prog 19 u120_1 ⟨B4 _,_,_⟩ (rt [.tmp 4] _);repeat' ((with_reducible apply wr)<;>try simp only [go_sem,seval,List.length_map])
 refine C3 (fun k:Nat=>[(0,H4 xs),(1,.func f a cs),(7,I64 xs.length),(8,I64 k)]) (fun _=>nil) (fun k _=>k<=xs.length/\Q8 g xs 0=Q8 g (xs.drop k) k) (fun k=>xs.length-k) 0 (by simp [C1,tm,Tm.upd]) (Sub.nil _) (by simp) ?_;rintro k c ⟨hk,he⟩;by_cases hlt:k<xs.length
 ·have hd:decide ((k:Int)<xs.length)=true:=by simpa using hlt
  have hg:=List.getElem?_eq_getElem hlt;have hw:=w64 (n:=(k:Int)+1) (by omega) (by omega);have hst:=U0 (g:=g) hg;have hc:=hf xs[k] (List.getElem_mem hlt);repeat' ((with_reducible first|refine wr ?_|refine cpc hc ?_|refine wb2 ?_ ?_<;>(intro hb;try simp only [hb])|fail)<;>try simp only [go_sem,seval,hd,hg,hw])
  ·refine A4 ?_;rw [he,hst,hb];rfl
  ·exact ⟨k+1,rfl,Sub.refl _,inv ⟨by omega,by rw [he,hst,hb];rfl⟩,by omega⟩
 ·have hd:decide ((k:Int)<xs.length)=false:=by simpa using hlt
  repeat' ((with_reducible apply wr)<;>try simp only [go_sem,seval,hd])
  refine A4 ?_;rw [he,X7 (by omega)]
theorem c_CF_dc {g:Dc->Bool} {f:Nat} {a cs:List DV} (xs:List (Dc)) (hx:xs.length<=9223372036854775807) (na:DV.nlL a=true) (ncs:DV.nlL cs=true) (hf:∀ x∈xs,PC Tryz.prog f (a++[Dc.v x]++cs) (.bool (g x))) :
  PC Tryz.prog 79 [H4 xs,.func f a cs] (.bool (xs.any g)):=by
 refine PC.of A6 isU79 (Nat.le_of_ble_eq_true rfl) (by simp [DV.nlL,DV.nl,P6,na,ncs]) rfl ?_;show IW Tryz.prog 9 u79_1 ⟨B4 _,_,_⟩ (rt [.tmp 4] _);have hc:=c_IF_dc xs hx na ncs hf;repeat' ((with_reducible first|apply wr|refine cpc hc ?_|fail)<;>try simp only [go_sem,seval])
 refine A4 ?_;rw [X8]
theorem c_IF_md {g:Md->Bool} {f:Nat} {a cs:List DV} (xs:List (Md)) (hx:xs.length<=9223372036854775807) (na:DV.nlL a=true) (ncs:DV.nlL cs=true) (hf:∀ x∈xs,PC Tryz.prog f (a++[Md.v x]++cs) (.bool (g x))) :
  PC Tryz.prog 122 [I5 xs,.func f a cs] (I64 (Q8 g xs 0)):=by
 refine PC.of A6 isU122 (Nat.le_of_ble_eq_true rfl) (by simp [DV.nlL,DV.nl,P5,na,ncs]) rfl ?_;show IW Tryz.prog 19 u122_1 ⟨B4 _,_,_⟩ (rt [.tmp 4] _);repeat' ((with_reducible apply wr)<;>try simp only [go_sem,seval,List.length_map])
 refine C3 (fun k:Nat=>[(0,I5 xs),(1,.func f a cs),(7,I64 xs.length),(8,I64 k)]) (fun _=>nil) (fun k _=>k<=xs.length/\Q8 g xs 0=Q8 g (xs.drop k) k) (fun k=>xs.length-k) 0 (by simp [C1,tm,Tm.upd]) (Sub.nil _) (by simp) ?_;rintro k c ⟨hk,he⟩;by_cases hlt:k<xs.length
 ·have hd:decide ((k:Int)<xs.length)=true:=by simpa using hlt
  have hg:=List.getElem?_eq_getElem hlt;have hw:=w64 (n:=(k:Int)+1) (by omega) (by omega);have hst:=U0 (g:=g) hg;have hc:=hf xs[k] (List.getElem_mem hlt);repeat' ((with_reducible first|refine wr ?_|refine cpc hc ?_|refine wb2 ?_ ?_<;>(intro hb;try simp only [hb])|fail)<;>try simp only [go_sem,seval,hd,hg,hw])
  ·refine A4 ?_;rw [he,hst,hb];rfl
  ·exact ⟨k+1,rfl,Sub.refl _,inv ⟨by omega,by rw [he,hst,hb];rfl⟩,by omega⟩
 ·have hd:decide ((k:Int)<xs.length)=false:=by simpa using hlt
  repeat' ((with_reducible apply wr)<;>try simp only [go_sem,seval,hd])
  refine A4 ?_;rw [he,X7 (by omega)]
theorem c_CF_md {g:Md->Bool} {f:Nat} {a cs:List DV} (xs:List (Md)) (hx:xs.length<=9223372036854775807) (na:DV.nlL a=true) (ncs:DV.nlL cs=true) (hf:∀ x∈xs,PC Tryz.prog f (a++[Md.v x]++cs) (.bool (g x))) :
  PC Tryz.prog 82 [I5 xs,.func f a cs] (.bool (xs.any g)):=by
 refine PC.of A6 isU82 (Nat.le_of_ble_eq_true rfl) (by simp [DV.nlL,DV.nl,P5,na,ncs]) rfl ?_;show IW Tryz.prog 9 u82_1 ⟨B4 _,_,_⟩ (rt [.tmp 4] _);have hc:=c_IF_md xs hx na ncs hf;repeat' ((with_reducible first|apply wr|refine cpc hc ?_|fail)<;>try simp only [go_sem,seval])
 refine A4 ?_;rw [X8]
theorem c_IF_st {g:Pb.St->Bool} {f:Nat} {a cs:List DV} (xs:List (Pb.St)) (hx:xs.length<=9223372036854775807) (na:DV.nlL a=true) (ncs:DV.nlL cs=true) (hf:∀ x∈xs,PC Tryz.prog f (a++[Pb.St.v x]++cs) (.bool (g x))) :
  PC Tryz.prog 158 [F0 xs,.func f a cs] (I64 (Q8 g xs 0)):=by
 refine PC.of A6 isU158 (Nat.le_of_ble_eq_true rfl) (by simp [DV.nlL,DV.nl,Y9,na,ncs]) rfl ?_;show IW Tryz.prog 19 u158_1 ⟨B4 _,_,_⟩ (rt [.tmp 4] _);repeat' ((with_reducible apply wr)<;>try simp only [go_sem,seval,List.length_map])
 refine C3 (fun k:Nat=>[(0,F0 xs),(1,.func f a cs),(7,I64 xs.length),(8,I64 k)]) (fun _=>nil) (fun k _=>k<=xs.length/\Q8 g xs 0=Q8 g (xs.drop k) k) (fun k=>xs.length-k) 0 (by simp [C1,tm,Tm.upd]) (Sub.nil _) (by simp) ?_;rintro k c ⟨hk,he⟩;by_cases hlt:k<xs.length
 ·have hd:decide ((k:Int)<xs.length)=true:=by simpa using hlt
  have hg:=List.getElem?_eq_getElem hlt;have hw:=w64 (n:=(k:Int)+1) (by omega) (by omega);have hst:=U0 (g:=g) hg;have hc:=hf xs[k] (List.getElem_mem hlt);rw [Pb.St.v_w] at hc;repeat' ((with_reducible first|refine wr ?_|refine cpc hc ?_|refine wb2 ?_ ?_<;>(intro hb;try simp only [hb])|fail)<;>try simp only [go_sem,seval,hd,hg,hw,Pb.St.v_w])
  ·refine A4 ?_;rw [he,hst,hb];rfl
  ·exact ⟨k+1,rfl,Sub.refl _,inv ⟨by omega,by rw [he,hst,hb];rfl⟩,by omega⟩
 ·have hd:decide ((k:Int)<xs.length)=false:=by simpa using hlt
  repeat' ((with_reducible apply wr)<;>try simp only [go_sem,seval,hd])
  refine A4 ?_;rw [he,X7 (by omega)]
theorem c_CF_st {g:Pb.St->Bool} {f:Nat} {a cs:List DV} (xs:List (Pb.St)) (hx:xs.length<=9223372036854775807) (na:DV.nlL a=true) (ncs:DV.nlL cs=true) (hf:∀ x∈xs,PC Tryz.prog f (a++[Pb.St.v x]++cs) (.bool (g x))) :
  PC Tryz.prog 148 [F0 xs,.func f a cs] (.bool (xs.any g)):=by
 refine PC.of A6 isU148 (Nat.le_of_ble_eq_true rfl) (by simp [DV.nlL,DV.nl,Y9,na,ncs]) rfl ?_;show IW Tryz.prog 9 u148_1 ⟨B4 _,_,_⟩ (rt [.tmp 4] _);have hc:=c_IF_st xs hx na ncs hf;repeat' ((with_reducible first|apply wr|refine cpc hc ?_|fail)<;>try simp only [go_sem,seval])
 refine A4 ?_;rw [X8]
theorem c_IF_ex {g:Ex->Bool} {f:Nat} {a cs:List DV} (xs:List (Ex)) (hx:xs.length<=9223372036854775807) (na:DV.nlL a=true) (ncs:DV.nlL cs=true) (hf:∀ x∈xs,PC Tryz.prog f (a++[Ex.v x]++cs) (.bool (g x))) :
  PC Tryz.prog 166 [J7 xs,.func f a cs] (I64 (Q8 g xs 0)):=by
 refine PC.of A6 isU166 (Nat.le_of_ble_eq_true rfl) (by simp [DV.nlL,DV.nl,A2x,na,ncs]) rfl ?_;show IW Tryz.prog 19 u166_1 ⟨B4 _,_,_⟩ (rt [.tmp 4] _);repeat' ((with_reducible apply wr)<;>try simp only [go_sem,seval,List.length_map])
 refine C3 (fun k:Nat=>[(0,J7 xs),(1,.func f a cs),(7,I64 xs.length),(8,I64 k)]) (fun _=>nil) (fun k _=>k<=xs.length/\Q8 g xs 0=Q8 g (xs.drop k) k) (fun k=>xs.length-k) 0 (by simp [C1,tm,Tm.upd]) (Sub.nil _) (by simp) ?_;rintro k c ⟨hk,he⟩;by_cases hlt:k<xs.length
 ·have hd:decide ((k:Int)<xs.length)=true:=by simpa using hlt
  have hg:=List.getElem?_eq_getElem hlt;have hw:=w64 (n:=(k:Int)+1) (by omega) (by omega);have hst:=U0 (g:=g) hg;have hc:=hf xs[k] (List.getElem_mem hlt);rw [Ex.v_w] at hc;repeat' ((with_reducible first|refine wr ?_|refine cpc hc ?_|refine wb2 ?_ ?_<;>(intro hb;try simp only [hb])|fail)<;>try simp only [go_sem,seval,hd,hg,hw,Ex.v_w])
  ·refine A4 ?_;rw [he,hst,hb];rfl
  ·exact ⟨k+1,rfl,Sub.refl _,inv ⟨by omega,by rw [he,hst,hb];rfl⟩,by omega⟩
 ·have hd:decide ((k:Int)<xs.length)=false:=by simpa using hlt
  repeat' ((with_reducible apply wr)<;>try simp only [go_sem,seval,hd])
  refine A4 ?_;rw [he,X7 (by omega)]
theorem c_CF_ex {g:Ex->Bool} {f:Nat} {a cs:List DV} (xs:List (Ex)) (hx:xs.length<=9223372036854775807) (na:DV.nlL a=true) (ncs:DV.nlL cs=true) (hf:∀ x∈xs,PC Tryz.prog f (a++[Ex.v x]++cs) (.bool (g x))) :
  PC Tryz.prog 160 [J7 xs,.func f a cs] (.bool (xs.any g)):=by
 refine PC.of A6 isU160 (Nat.le_of_ble_eq_true rfl) (by simp [DV.nlL,DV.nl,A2x,na,ncs]) rfl ?_;show IW Tryz.prog 9 u160_1 ⟨B4 _,_,_⟩ (rt [.tmp 4] _);have hc:=c_IF_ex xs hx na ncs hf;repeat' ((with_reducible first|apply wr|refine cpc hc ?_|fail)<;>try simp only [go_sem,seval])
 refine A4 ?_;rw [X8]
end Go.Proofs.YtnmkkggfgdfmeaaGreatDoor
namespace Go.Pb
variable [Go.Sym.Tab]
open Go.Sym
mutual
theorem ms_le:∀ (e:Ex) (o d:Nat),msM e=some (o,d)->o<=e.sz/\d+1<=2 * e.sz
 | .mk k v n a p,o,d,h=>by
  have hs:(Ex.mk k v n a p).sz=1+n.length+Ex.szs a:=by rw [Ex.sz]
  obtain ⟨h1,h2,h3,h4,h5,h6⟩:=A4a h;by_cases hc:H8 k=0
  ·obtain ⟨rfl,rfl⟩:=h5 hc;omega
  ·obtain ⟨d',hl,hd⟩:=h6 hc;have:=msL_le k 0 a o d' hl;rw [hd];split<;>omega
theorem msL_le:∀ (k:Int) (i:Nat) (l:List Ex) (o d:Nat),msL k i l=some (o,d)->o<=Ex.szs l/\d<=2 * Ex.szs l
 | k,i,[],o,d,h=>by simp [msL] at h;omega
 | k,i,e :: l,o,d,h=>by
  rw [msL] at h;have hs:Ex.szs (e :: l)=e.sz+Ex.szs l:=by rw [Ex.szs]
  have hp:=e.sz_pos;cases he:msM e with
  | none=>rw [he] at h;cases h
  | some q =>
   obtain ⟨o1,d1⟩:=q;have h1:=ms_le e o1 d1 he;rw [he] at h;dsimp only at h;cases hl:msL k (i+1) l with
   | none=>rw [hl] at h;cases h
   | some q2 =>
    obtain ⟨o2,d2⟩:=q2;have h2:=msL_le k (i+1) l o2 d2 hl;rw [hl] at h;dsimp only at h;have h3:=Option.some.inj h;have h4:o1+o2=o:=congrArg Prod.fst h3;have h5:max (if Z4 k e.kind i=true then d1+1 else d1) d2=d:=congrArg Prod.snd h3;rw [hs];split at h5<;>omega
end
def msV:Option (Nat × Nat)->DV
 | none=>.tup [I64 0,I64 0,.bool false]
 | some (o,d)=>.tup [I64 o,I64 d,.bool true]
theorem msV_nl (q:Option (Nat × Nat)):(msV q).nl=true:=by cases q<;>rfl
theorem msL_drop {k:Int} {a:List Ex} {i:Nat} {x:Ex} (h:a[i]? = some x):msL k i (a.drop i)=match msM x with
  | none=>none
  | some (o,d)=>match msL k (i+1) (a.drop (i+1)) with
   | none=>none
   | some (o2,d2)=>some (o+o2,max (if Z4 k x.kind i=true then d+1 else d) d2):=by
 have hlt:=(List.getElem?_eq_some_iff.1 h).1;rw [List.drop_eq_getElem_cons hlt,(List.getElem?_eq_some_iff.1 h).2,msL];try rfl
end Go.Pb
namespace Go.Proofs.YtnmkkggfgdfmeaaGreatDoor
open Go.Eng (IC IOper DReg IFn A3)
open Go.Sym Go.Pb
theorem pc_bool {H:Hp} {a b:Bool} (h:a=b):∃ H2,GL H [.bool a] H2 [.bool b]:=⟨H,by rw [h];exact GL.refl _ _⟩
theorem sub_upd2 {b1 b2 b3:Blk} {cc:Nat} (u:Unit) (h:1<=cc):Sym.Sub (Sym.nil.upd 0 b1) (((Sym.nil.upd 0 b1).upd cc b2).upd cc b3):=by
 intro j b hj;simp only [Hp.upd,Sym.nil] at hj ⊢;split at hj
 ·rename_i h0;rw [if_neg (by omega),if_neg (by omega),if_pos h0];exact hj
 ·cases hj
theorem c_levS (k:Int):PC Tryz.prog 127 [I64 k] (I64 (E4 k)):=by
 refine PC.of A6 isU127 (Nat.le_of_ble_eq_true rfl) (by simp [DV.nlL,DV.nl]) (by simp [DV.nlL,DV.nl]) ?_;show IW Tryz.prog 37 u127_1 ⟨B4 _,_,_⟩ (rt [.tmp 2] _);repeat' ((with_reducible first|refine wr ?_|refine wb2 ?_ ?_<;>(intro hb;try simp only [hb])|fail)<;>try simp only [go_sem,seval])
 all_goals refine A4 (congrArg I64 ?_)
 all_goals simp_all [E4]
 all_goals omega
theorem c_namedS (k:Int):PC Tryz.prog 128 [I64 k] (.bool (namB k)):=by
 refine PC.of A6 isU128 (Nat.le_of_ble_eq_true rfl) (by simp [DV.nlL,DV.nl]) (by simp [DV.nlL,DV.nl]) ?_;show IW Tryz.prog 13 u128_1 ⟨B4 _,_,_⟩ (rt [.tmp 2] _);repeat' ((with_reducible first|refine wr ?_|refine wb2 ?_ ?_<;>(intro hb;try simp only [hb])|fail)<;>try simp only [go_sem,seval])
 all_goals refine A4 (congrArg DV.bool ?_)
 all_goals (cases h5:k == 5<;>cases h6:k == 6<;>cases h7:k == 7<;>simp_all [namB])
theorem c_wrapped (e x:Ex) (i:Nat) (h:e.args[i]? = some x) (hi:i<=1):PC Tryz.prog 129 [e.v,I64 i] (.bool (Z4 e.kind x.kind i)):=by
 refine PC.of A6 isU129 (Nat.le_of_ble_eq_true rfl) (by simp [DV.nlL,DV.nl,Ex.nl]) rfl ?_;rw [Ex.v_w];show IW Tryz.prog 33 u129_1 ⟨B4 _,_,_⟩ (rt [.tmp 4] _);have h1:=c_levS e.kind;have h2:=c_levS x.kind;repeat' ((with_reducible first|refine wr ?_|refine cpc h1 ?_|refine cpc h2 ?_|refine wb2 ?_ ?_<;>(intro hb;try simp only [hb])|fail)<;>try simp only [go_sem,seval,h,Ex.v_w])
 all_goals refine pc_bool ?_
 all_goals unfold Z4
 all_goals (cases hi1:i == 1<;>cases h3:E4 e.kind == 3<;>simp_all)
 all_goals omega
theorem c_measure:∀ (m:Nat) (e:Ex),e.sz<m->e.sz<=100000000->PC Tryz.prog 95 [e.v] (msV (msM e)):=by
 intro m
 induction m with
 | zero=>intro e h;omega
 | succ m ih =>
 intro e hm hB;have hnl:=e.sz_name;have hx:∀ x∈e.args,PC Tryz.prog 95 [x.v] (msV (msM x)):=fun x hx=>ih x (by have:=Ex.sz_arg hx;omega) (by have:=Ex.sz_arg hx;omega);have hwr:∀ (x:Ex) (i:Nat),e.args[i]? = some x->i<=1->PC Tryz.prog 129 [e.w,I64 i] (.bool (Z4 e.kind x.kind i)):=fun x i h hi=>by have:=c_wrapped e x i h hi;rwa [Ex.v_w] at this
 refine PC.of A6 isU95 (Nat.le_of_ble_eq_true rfl) (by simp [DV.nlL,DV.nl,Ex.nl]) (msV_nl _) ?_;rw [Ex.v_w];obtain ⟨R,hR⟩:∃ R,R=msV (msM e):=⟨_,rfl⟩;rw [<- hR];have hle:=msL_le e.kind 0 e.args;have hal:Ex.szs e.args<e.sz:=by cases e with|mk k v n a p=>rw [Ex.sz];show Ex.szs a<_;omega
 have hargs:∀ x∈e.args,x.sz<=Ex.szs e.args:=fun x hx=>Ex.szs_mem hx;cases e with|mk k v n a p =>
 rw [msM] at hR;dsimp only [Ex.w,Ex.kind,Ex.value,Ex.name,Ex.args,Ex.pos] at hx hwr hle hal hargs hnl ⊢;have hl:=c_levS k;have hnk:=c_namedS k;have hin:=c_IsName n (by omega);have none0:kOk k=false\/a.length≠H8 k\/Z7 k n=false\/A0e k v=false->R=.tup [I64 0,I64 0,.bool false]:=fun h=>by rw [hR,if_pos h];rfl
 have ci:((H8 k:Nat):Int)<=2:=by unfold H8;(repeat' split)<;>decide
 have kA:∀ nm vl:Bool,Z7 k n=nm->A0e k v=vl->kOk k=true->IW Tryz.prog 113 u95_21 ⟨tm [(1,.ptr 0 0),(2,I64 0),(3,I64 0),(5,I64 (H8 k)),(7,.bool nm),(8,.bool vl)],Sym.nil.upd 0 ⟨0,true,[I64 k,I64 v,.str n,J7 a,I64 p]⟩,1⟩ (rt [.tmp 2,.tmp 3,.tmp 4] fun v H' x => ∃ H2,GL H' [v] H2 [R]):=by
  intro nm vl hnm hvl hkk;by_cases hlen:a.length=H8 k
  ·have d0:((a.length:Int) != (H8 k:Int))=false:=by simp [hlen]
   cases nm with
   | false =>
    repeat' ((with_reducible apply wr)<;>try simp only [go_sem,seval,d0])
    exact A4 (none0 (.inr (.inr (.inl hnm)))).symm
   | true =>
    cases vl with
    | false =>
     repeat' ((with_reducible apply wr)<;>try simp only [go_sem,seval,d0])
     exact A4 (none0 (.inr (.inr (.inr hvl)))).symm
    | true =>
     rw [if_neg (by simp [hkk,hnm,hvl,hlen])] at hR;by_cases hc0:H8 k=0
     ·have d1:((H8 k:Int) == 0)=true:=by simp [hc0]
      rw [if_pos hc0] at hR;repeat' ((with_reducible apply wr)<;>try simp only [go_sem,seval,d0,d1])
      exact A4 hR.symm
     ·have d1:((H8 k:Int) == 0)=false:=by simp [hc0]
      rw [if_neg hc0] at hR;repeat' ((with_reducible apply wr)<;>try simp only [go_sem,seval,d0,d1])
      have hl2:a.length<=2:=by omega
      refine C3 (fun q:Nat × Nat × Nat=>[(1,.ptr 0 0),(5,I64 (H8 k)),(80,J7 a),(81,I64 a.length),(82,I64 q.1),(2,I64 q.2.1),(3,I64 q.2.2)]) (fun _=>Sym.nil.upd 0 ⟨0,true,[I64 k,I64 v,.str n,J7 a,I64 p]⟩)
       (fun q cc=>1<=cc/\q.1<=a.length/\q.2.1<=q.1 * 1000000000/\q.2.2<=1000000000/\msL k 0 a=(match msL k q.1 (a.drop q.1) with
        | none=>none
        | some (o2,d2)=>some (q.2.1+o2,max q.2.2 d2))) (fun q=>a.length-q.1) (0,0,0) (by simp [C1,tm,Tm.upd]) (Sub.refl _)
       ⟨Nat.le_refl _,Nat.zero_le _,Nat.zero_le _,Nat.zero_le _,by
        rw [List.drop_zero];cases msL k 0 a with
        | none=>rfl
        | some q=>obtain ⟨o2,d2⟩:=q;simp⟩ ?_
      rintro ⟨i,o,d⟩ cc ⟨h1c,hk,ho,hd3,he⟩;dsimp only at hk ho hd3 he ⊢;by_cases hlt:i<a.length
      ·have hd:decide ((i:Int)<a.length)=true:=by simpa using hlt
       have hg:=List.getElem?_eq_getElem hlt;have hw:=w64 (n:=(i:Int)+1) (by omega) (by omega);rw [msL_drop hg] at he;have hmx:=hx _ (List.getElem_mem hlt);have hax:=hargs _ (List.getElem_mem hlt);have hwx:=hwr _ i hg (by omega);have hms:=ms_le a[i];generalize a[i]=x at hg he hmx hax hwx hms;rw [Ex.v_w] at hmx;have hwx:PC Tryz.prog 129 [DV.agg [I64 k,I64 v,DV.str n,J7 a,I64 p],I64 i] (.bool (Z4 k x.kind i)):=hwx;have ne0:=M8 0 cc (by omega);cases hq:msM x with
       | none =>
        rw [hq] at he hmx;dsimp only [msV] at he hmx;rw [he] at hR;repeat' ((with_reducible first|apply wr|refine cpc hmx ?_|refine cpc hwx ?_|fail)<;>try simp only [go_sem,seval,hd,hg,hw,Ex.v_w,ne0])
        exact A4 hR.symm
       | some qq =>
        obtain ⟨o1,d1'⟩:=qq;rw [hq] at he hmx;dsimp only [msV] at he hmx;have:=hms o1 d1' hq;have w1:=w64 (n:=(o:Int)+(o1:Int)) (by omega) (by omega);have w2:=w64 (n:=(d1':Int)+1) (by omega) (by omega);cases hwb:Z4 k x.kind i with
        | true =>
         rw [hwb] at he;repeat' ((with_reducible first|apply wr|refine cpc hmx ?_|refine cpc hwx ?_|fail)<;>try simp only [go_sem,seval,hd,hg,hw,Ex.v_w,ne0,hwb,w1,w2])
         all_goals (refine ⟨(i+1,o+o1,max d (d1'+1)),⟨by simp,by simp,?_⟩,?_,inv ⟨by omega,by simp only;omega,by simp only;omega,by simp only;omega,?_⟩,by simp only;omega⟩)
         all_goals first
          | (refine congrArg I64 ?_;dsimp only;split<;>omega)
          | exact sub_upd2 () h1c
          | (rw [he];dsimp only;cases msL k (i+1) (a.drop (i+1)) with
           | none=>rfl
           | some q=>obtain ⟨o2,d2⟩:=q;simp [Nat.add_assoc,Nat.max_assoc])
        | false =>
         rw [hwb] at he;repeat' ((with_reducible first|apply wr|refine cpc hmx ?_|refine cpc hwx ?_|fail)<;>try simp only [go_sem,seval,hd,hg,hw,Ex.v_w,ne0,hwb,w1,w2])
         all_goals (refine ⟨(i+1,o+o1,max d (d1')),⟨by simp,by simp,?_⟩,?_,inv ⟨by omega,by simp only;omega,by simp only;omega,by simp only;omega,?_⟩,by simp only;omega⟩)
         all_goals first
          | (refine congrArg I64 ?_;dsimp only;split<;>omega)
          | exact sub_upd2 () h1c
          | (rw [he];dsimp only;cases msL k (i+1) (a.drop (i+1)) with
           | none=>rfl
           | some q=>obtain ⟨o2,d2⟩:=q;simp [Nat.add_assoc,Nat.max_assoc])
      ·have hd:decide ((i:Int)<a.length)=false:=by simpa using hlt
       rw [List.drop_of_length_le (by omega)] at he;have w1:=w64 (n:=(d:Int)+1) (by omega) (by omega);by_cases hc1:H8 k=1
       ·have e1:((H8 k:Int) == 1)=true:=by simp [hc1]
        rw [he,hc1] at hR;repeat' ((with_reducible apply wr)<;>try simp only [go_sem,seval,hd,e1,w1])
        refine A4 ?_;rw [hR];simp [msV,msL]
       ·have e1:((H8 k:Int) == 1)=false:=by simp;omega
        rw [he] at hR;simp only [if_neg hc1] at hR;repeat' ((with_reducible apply wr)<;>try simp only [go_sem,seval,hd,e1,w1])
        refine A4 ?_;rw [hR];simp [msV,msL]
  ·have d0:((a.length:Int) != (H8 k:Int))=true:=by simp;omega
   repeat' ((with_reducible apply wr)<;>try simp only [go_sem,seval,d0])
   exact A4 (none0 (.inr (.inl hlen))).symm
 have kB:∀ nm:Bool,Z7 k n=nm->kOk k=true->IW Tryz.prog 113 u95_20 ⟨tm [(1,.ptr 0 0),(2,I64 0),(3,I64 0),(5,I64 (H8 k)),(7,.bool nm)],Sym.nil.upd 0 ⟨0,true,[I64 k,I64 v,.str n,J7 a,I64 p]⟩,1⟩ (rt [.tmp 2,.tmp 3,.tmp 4] fun v H' x => ∃ H2,GL H' [v] H2 [R]):=by
  intro nm hnm hkk;repeat' ((with_reducible first|refine G1 (p:=IW _ _ u95_21 _ _) ?_|refine wr ?_|refine wb2 ?_ ?_<;>(intro hb;try simp only [hb])|fail)<;>try simp only [go_sem,seval])
  all_goals refine IW.stage (L:=[(1,.ptr 0 0),(2,I64 0),(3,I64 0),(5,I64 (H8 k)),(7,.bool nm),(8,.bool (A0e k v))]) ?_ (kA nm _ hnm rfl hkk)
  all_goals simp_all [C1,tm,Tm.upd,A0e]
  all_goals omega
 have kC:kOk k=true->IW Tryz.prog 113 u95_15 ⟨tm [(1,.ptr 0 0),(2,I64 0),(3,I64 0),(5,I64 (H8 k))],Sym.nil.upd 0 ⟨0,true,[I64 k,I64 v,.str n,J7 a,I64 p]⟩,1⟩ (rt [.tmp 2,.tmp 3,.tmp 4] fun v H' x => ∃ H2,GL H' [v] H2 [R]):=by
  intro hkk;repeat' ((with_reducible first|refine G1 (p:=IW _ _ u95_20 _ _) ?_|refine wr ?_|refine cpc hnk ?_|refine cpc hin ?_|refine wb2 ?_ ?_<;>(intro hb;try simp only [hb])|fail)<;>try simp only [go_sem,seval])
  all_goals refine IW.stage (L:=[(1,.ptr 0 0),(2,I64 0),(3,I64 0),(5,I64 (H8 k)),(7,.bool (Z7 k n))]) ?_ (kB _ rfl hkk)
  all_goals simp_all [C1,tm,Tm.upd,Z7]
 show IW Tryz.prog 113 u95_1 ⟨B4 _,_,_⟩ (rt [.tmp 2,.tmp 3,.tmp 4] _);by_cases l6:E4 k=6
 ·have m6:(E4 k == 6)=true:=by simpa using l6
  repeat' ((with_reducible first|refine G1 (p:=IW _ _ u95_15 _ _) ?_|refine wr ?_|refine cpc hl ?_|fail)<;>try simp only [go_sem,seval,m6])
  refine IW.stage ?_ (kC (by simp [kOk];left;omega));simp [C1,tm,Tm.upd,H8,l6]
 have m6:(E4 k == 6)=false:=by simpa using l6
 by_cases l5:E4 k<6
 ·have m5:decide (E4 k<6)=true:=by simpa using l5
  repeat' ((with_reducible first|refine G1 (p:=IW _ _ u95_15 _ _) ?_|refine wr ?_|refine cpc hl ?_|fail)<;>try simp only [go_sem,seval,m6,m5])
  refine IW.stage ?_ (kC (by simp [kOk];left;omega));simp [C1,tm,Tm.upd,H8,l6,l5]
 have m5:decide (E4 k<6)=false:=by simpa using l5
 repeat' ((with_reducible first|refine G1 (p:=IW _ _ u95_15 _ _) ?_|refine wr ?_|refine cpc hl ?_|refine wb2 ?_ ?_<;>(intro hb;try simp only [hb])|fail)<;>try simp only [go_sem,seval,m6,m5])
 all_goals first
  | (refine IW.stage ?_ (kC (by simp_all [kOk]<;>omega));simp [C1,tm,Tm.upd,H8,l6,l5];done)
  | (refine A4 (none0 (.inl ?_)).symm;simp_all [kOk]<;>omega)
theorem c_ValidExpr (e:Ex) (hB:e.sz<=100000000):PC Tryz.prog 56 [e.v] (.bool (A2i e)):=by
 refine PC.of A6 isU56 (Nat.le_of_ble_eq_true rfl) (by simp [DV.nlL,DV.nl]) (by simp [DV.nlL,DV.nl]) ?_;show IW Tryz.prog 21 u56_1 ⟨B4 _,_,_⟩ (rt [.tmp 2] _);have hm:=c_measure _ e (Nat.lt_succ_self _) hB;unfold A2i;rw [Ex.v_w] at hm ⊢;cases hq:msM e with
 | none =>
  rw [hq] at hm;dsimp only [msV] at hm;repeat' ((with_reducible first|apply wr|refine cpc hm ?_|fail)<;>try simp only [go_sem,seval])
  all_goals exact A4 rfl
 | some q =>
  obtain ⟨o,d⟩:=q;rw [hq] at hm;dsimp only [msV] at hm;repeat' ((with_reducible first|refine wr ?_|refine cpc hm ?_|refine wb2 ?_ ?_<;>(intro hb;try simp only [hb])|fail)<;>try simp only [go_sem,seval])
  all_goals (refine A4 (congrArg DV.bool ?_);by_cases h1:o<=32<;>by_cases h2:d<=16<;>simp_all<;>omega)
end Go.Proofs.YtnmkkggfgdfmeaaGreatDoor
namespace Go.Pb
open Go.Sym
def Shp.v (s:Shp):DV:=.agg [.bool s.name,.bool s.text,I64 s.args,.bool s.thn,.bool s.els]
end Go.Pb
namespace Go.Proofs.YtnmkkggfgdfmeaaGreatDoor
open Go.Eng (IC IOper DReg IFn A3)
open Go.Sym Go.Pb
def kndB (k:Int):Bool:=decide (1<=k) && decide (k<=19)
theorem c_shapeOf (k:Int):PC Tryz.prog 159 [I64 k] (.tup [(T5 k).v,.bool (kndB k)]):=by
 refine PC.of A6 isU159 (Nat.le_of_ble_eq_true rfl) (by simp [DV.nlL,DV.nl]) rfl ?_;show IW Tryz.prog 35 u159_1 ⟨B4 _,_,_⟩ (rt [.cell 2 5 true,.tmp 3] _);repeat' ((with_reducible first|refine wr ?_|refine wb2 ?_ ?_<;>(intro hb;try simp only [hb])|fail)<;>try simp only [go_sem,seval])
 all_goals refine A4 ?_
 all_goals simp_all [T5,kndB,Shp.v,tm,Tm.upd]
 all_goals omega
theorem c_isText (s:List UInt8) (hs:s.length<=1000000000):PC Tryz.prog 162 [.str s] (.bool (W1 s)):=by
 refine PC.of A6 isU162 (Nat.le_of_ble_eq_true rfl) (by simp [DV.nlL,DV.nl]) (by simp [DV.nlL,DV.nl]) ?_;show IW Tryz.prog 23 u162_1 ⟨B4 _,_,_⟩ (rt [.tmp 2] _);repeat' ((with_reducible apply wr)<;>try simp only [go_sem,seval])
 refine C3 (fun k:Nat=>[(0,.str s),(3,I64 k)]) (fun _=>Sym.nil) (fun k _=>k<=s.length/\(s.take k).all txB=true) (fun k=>s.length-k) 0 (by simp [C1,tm,Tm.upd]) (Sub.refl _) ⟨Nat.zero_le _,rfl⟩ ?_;rintro k cc ⟨hk,he⟩;by_cases hlt:k<s.length
 ·have hd:decide ((k:Int)<s.length)=true:=by simpa using hlt
  have hg:=List.getElem?_eq_getElem hlt;have hw:=w64 (n:=(k:Int)+1) (by omega) (by omega);generalize s[k]=x at hg;have hx:txB x=(decide (32<=x.toNat) && decide (x.toNat<=126)):=rfl;repeat' ((with_reducible first|refine wr ?_|refine wb2 ?_ ?_<;>(intro hb;try simp only [hb])|fail)<;>try simp only [go_sem,seval,hd,hg,hw])
  ·refine A4 (congrArg DV.bool ?_);have:=A4t txB s k _ hg (by simp_all<;>omega);simp [W1,this]
  ·refine A4 (congrArg DV.bool ?_);have:=A4t txB s k _ hg (by simp_all<;>omega);simp [W1,this]
  ·exact ⟨k+1,rfl,Sub.refl _,inv ⟨by omega,by rw [A1y txB s k _ hg,he];simp_all<;>omega⟩,by omega⟩
 have hd:decide ((k:Int)<s.length)=false:=by simpa using hlt
 have hall:=all_done txB s k (by omega) he;repeat' ((with_reducible apply wr)<;>try simp only [go_sem,seval,hd])
 refine A4 (congrArg DV.bool ?_);simp [W1,hall];omega
theorem c_validDecl (d:Dc) (hB:d.name.length<=1000000000):PC Tryz.prog 81 [d.v] (.bool (A1h d)):=by
 refine PC.of A6 isU81 (Nat.le_of_ble_eq_true rfl) (by simp [DV.nlL,DV.nl]) (by simp [DV.nlL,DV.nl]) ?_;show IW Tryz.prog 37 u81_1 ⟨B4 _,_,_⟩ (rt [.tmp 2] _);have hn:=c_IsName d.name hB;repeat' ((with_reducible first|refine wr ?_|refine cpc hn ?_|refine wb2 ?_ ?_<;>(intro hb;try simp only [hb])|fail)<;>try simp only [go_sem,seval])
 all_goals (refine A4 (congrArg DV.bool ?_);simp_all [A1h]<;>omega)
theorem c_vS1 (e:Ex) (hB:e.sz<=100000000):PC Tryz.prog 161 [e.v] (.bool (!A2i e)):=by
 refine PC.of A6 isU161 (Nat.le_of_ble_eq_true rfl) (by simp [DV.nlL,DV.nl]) (by simp [DV.nlL,DV.nl]) ?_;show IW Tryz.prog 6 u161_1 ⟨B4 _,_,_⟩ (rt [.tmp 2] _);have h:=c_ValidExpr e hB;rw [Ex.v_w] at h ⊢;repeat' ((with_reducible first|apply wr|refine cpc h ?_|fail)<;>try simp only [go_sem,seval])
 exact A4 rfl
theorem vlSt_e (d:Nat) (s:Pb.St):U6 d s=(kndB s.kind && (s.args.length == (T5 s.kind).args && s.args.all A2i) &&
   ((if (T5 s.kind).name=true then F5 s.name else s.name == []) && (if (T5 s.kind).text=true then W1 s.text else s.text == [])) &&
   (((T5 s.kind).thn || s.thn.isEmpty) && ((T5 s.kind).els || s.els.isEmpty)) && (Q2 s.thn (d+1) && Q2 s.els (d+1))):=by
 cases s with|mk k n t a x y p=>rw [U6];rfl
theorem A7s {α : Type} (g : α -> Bool) (l:List α):l.any (fun x => !g x) = !l.all g:=by
 induction l with
 | nil=>rfl
 | cons x l ih=>rw [List.any_cons,List.all_cons,ih,Bool.not_and]
theorem c_vSt (s:Pb.St) (d:Nat) (hd:d<=1000000000) (hB:s.sz<=100000000) (hX:PC Tryz.prog 123 [F0 s.thn,I64 (d+1:Nat)] (.bool (Q2 s.thn (d+1)))) (hY:PC Tryz.prog 123 [F0 s.els,I64 (d+1:Nat)] (.bool (Q2 s.els (d+1)))) :
  PC Tryz.prog 150 [s.v,I64 d] (.bool (U6 d s)):=by
 rw [vlSt_e];have hsa:Ex.szs s.args<s.sz:=by cases s with|mk k n t a x y p=>rw [Pb.St.sz];show Ex.szs a<_;omega
 have hal:=Ex.szs_len s.args;have hxl:=Pb.St.szs_len s.thn;have hyl:=Pb.St.szs_len s.els;have hxs:=s.sz_thn;have hys:=s.sz_els;have hnl:=s.sz_name;have htl:=s.sz_text;have hn:=c_IsName s.name (by omega);have ht:=c_isText s.text (by omega);have hsh:=c_shapeOf s.kind;have hca:=c_CF_ex (f:=161) (a:=[]) (cs:=[]) (g:=fun e => !A2i e) s.args (by omega) rfl rfl (fun x hx=>c_vS1 x (by have:=Ex.szs_mem hx;omega));rw [A7s] at hca;have hw:=w64 (n:=(d:Int)+1) (by omega) (by omega);refine PC.of A6 isU150 (Nat.le_of_ble_eq_true rfl) (by rw [Pb.St.v_w];simp [DV.nlL,DV.nl,A2x,Y9]) rfl ?_;cases s with|mk k n t a x y p =>
 dsimp only [Pb.St.kind,Pb.St.name,Pb.St.text,Pb.St.args,Pb.St.thn,Pb.St.els,Pb.St.pos] at *;have hX:PC Tryz.prog 123 [F0 x,I64 ((d:Int)+1)] (.bool (Q2 x (d+1))):=hX;have hY:PC Tryz.prog 123 [F0 y,I64 ((d:Int)+1)] (.bool (Q2 y (d+1))):=hY;have ev:(Pb.St.mk k n t a x y p).v=.agg [I64 k,.str n,.str t,J7 a,F0 x,F0 y,I64 p]:=Pb.St.v_w _;rw [ev];show IW Tryz.prog 86 u150_1 ⟨B4 _,_,_⟩ (rt [.tmp 4] _);generalize Q2 x (d+1)=bx at *;generalize Q2 y (d+1)=bY at *;generalize kndB k=kb at *;obtain ⟨nb,tb,ar,xb,yb,hs⟩:∃ nb tb ar xb yb,T5 k=⟨nb,tb,ar,xb,yb⟩:=⟨_,_,_,_,_,rfl⟩;simp only [hs,Shp.v] at hsh ⊢;have kA:∀ (cc:Nat) (nm tx:Bool),IW Tryz.prog 86 u150_16 ⟨tm [(1,I64 d),(2,.ptr 0 0),(5,.ptr 1 0),(7,.bool nm),(8,.bool tx)],(Sym.nil.upd 0 ⟨0,true,[I64 k,.str n,.str t,J7 a,F0 x,F0 y,I64 p]⟩).upd 1 ⟨0,true,[.bool nb,.bool tb,I64 ar,.bool xb,.bool yb]⟩,cc⟩ (rt [.tmp 4] fun v H' c => ∃ H2,GL H' [v] H2 [.bool ((nm && tx) && ((xb || x.isEmpty) && (yb || y.isEmpty)) && (bx && bY))]):=by
  intro cc nm tx;have ex:x.isEmpty = !decide ((x.length:Int)>0):=by cases x<;>simp
  have ey:y.isEmpty = !decide ((y.length:Int)>0):=by cases y<;>simp
  rw [ex,ey];cases nm with
  | false =>
   repeat' ((with_reducible apply wr)<;>try simp only [go_sem,seval])
   exact A4 (by simp)
  | true =>
  cases tx with
  | false =>
   repeat' ((with_reducible apply wr)<;>try simp only [go_sem,seval])
   exact A4 (by simp)
  | true =>
  generalize hlx:decide ((x.length:Int)>0)=lx at *;generalize hly:decide ((y.length:Int)>0)=ly at *;cases bx<;>cases bY<;>cases xb<;>cases lx<;>cases yb<;>cases ly;all_goals (repeat' ((with_reducible first|apply wr|refine cpc hX ?_|refine cpc hY ?_|fail)<;>try simp only [go_sem,seval,hlx,hly,hw,List.length_map]))
  all_goals exact A4 rfl
 have kB:∀ cc:Nat,IW Tryz.prog 86 u150_8 ⟨tm [(1,I64 d),(2,.ptr 0 0),(5,.ptr 1 0),(7,.bool (n == [])),(8,.bool (t == []))],(Sym.nil.upd 0 ⟨0,true,[I64 k,.str n,.str t,J7 a,F0 x,F0 y,I64 p]⟩).upd 1 ⟨0,true,[.bool nb,.bool tb,I64 ar,.bool xb,.bool yb]⟩,cc⟩ (rt [.tmp 4] fun v H' c => ∃ H2,GL H' [v] H2 [.bool (((if nb=true then F5 n else n == []) && (if tb=true then W1 t else t == [])) && ((xb || x.isEmpty) && (yb || y.isEmpty)) && (bx && bY))]):=by
  intro cc;cases nb<;>cases tb;all_goals (repeat' ((with_reducible first|refine G1 (p:=IW _ _ u150_16 _ _) ?_|refine wr ?_|refine cpc hn ?_|refine cpc ht ?_|fail)<;>try simp only [go_sem,seval]))
  all_goals (refine IW.stage ?_ (kA _ _ _);simp [C1,tm,Tm.upd])
 cases kb with
 | false =>
  repeat' ((with_reducible first|apply wr|refine cpc hsh ?_|fail)<;>try simp only [go_sem,seval])
  exact A4 (by simp)
 | true =>
 by_cases hal2:a.length=ar
 ·have d0:((a.length:Int) != (ar:Int))=false:=by simp [hal2]
  cases hall:a.all A2i with
  | false =>
   rw [hall] at hca;repeat' ((with_reducible first|apply wr|refine cpc hsh ?_|refine cpc hca ?_|fail)<;>try simp only [go_sem,seval,d0,List.length_map])
   exact A4 (by simp)
  | true =>
   rw [hall] at hca;have e1:(a.length == ar)=true:=by simpa using hal2
   rw [e1];simp only [Bool.true_and];repeat' ((with_reducible first|refine G1 (p:=IW _ _ u150_8 _ _) ?_|refine wr ?_|refine cpc hsh ?_|refine cpc hca ?_|fail)<;>try simp only [go_sem,seval,d0,List.length_map,A1])
   refine IW.stage (L:=[(1,I64 d),(2,.ptr 0 0),(5,.ptr 1 0),(7,.bool (n == [])),(8,.bool (t == []))]) ?_ (kB _);simp [C1,tm,Tm.upd]
 ·have d0:((a.length:Int) != (ar:Int))=true:=by simp;omega
  repeat' ((with_reducible first|apply wr|refine cpc hsh ?_|fail)<;>try simp only [go_sem,seval,d0,List.length_map])
  exact A4 (by simp;omega)
theorem c_vB1 (s:Pb.St) (d:Nat) (h:PC Tryz.prog 150 [s.v,I64 d] (.bool (U6 d s))):PC Tryz.prog 149 [s.v,.fptr [I64 d]] (.bool (!U6 d s)):=by
 rw [Pb.St.v_w] at h ⊢;refine PC.of A6 isU149 (Nat.le_of_ble_eq_true rfl) (by simp [DV.nlL,DV.nl]) (by simp [DV.nlL,DV.nl]) ?_;show IW Tryz.prog 8 u149_1 ⟨B4 _,_,_⟩ (rt [.tmp 3] _);repeat' ((with_reducible first|apply wr|refine cpc h ?_|fail)<;>try simp only [go_sem,seval])
 exact A4 rfl
theorem A5j (d:Nat):∀ l:List Pb.St,G4 d l=l.all (U6 d)
 | []=>by rw [G4];rfl
 | s :: l=>by rw [G4,A5j d l];rfl
theorem c_validBlock:∀ (m:Nat) (l:List Pb.St) (d:Nat),Pb.St.szs l<m->Pb.St.szs l<=100000000->d+Pb.St.szs l<=1000000000->PC Tryz.prog 123 [F0 l,I64 d] (.bool (Q2 l d)):=by
 intro m
 induction m with
 | zero=>intro l d h;omega
 | succ m ih =>
 intro l d hm hB hd;have hl:=Pb.St.szs_len l;have hcf:=c_CF_st (f:=149) (a:=[]) (cs:=[.fptr [I64 d]]) (g:=fun s => !U6 d s) l (by omega) rfl rfl (fun s hs=>by
  have h1:=Pb.St.szs_mem hs;have h2:=s.sz_thn;have h3:=s.sz_els;exact c_vB1 s d (c_vSt s d (by omega) (by omega) (ih _ _ (by omega) (by omega) (by omega)) (ih _ _ (by omega) (by omega) (by omega))))
 rw [A7s, <- A5j] at hcf;refine PC.of A6 isU123 (Nat.le_of_ble_eq_true rfl) (by simp [DV.nlL,DV.nl,Y9]) rfl ?_;show IW Tryz.prog 21 u123_1 ⟨B4 _,_,_⟩ (rt [.tmp 4] _);have el:l.isEmpty = !decide ((l.length:Int)>0):=by cases l<;>simp
 have e64:decide (l.length<=64) = !decide ((l.length:Int)>64):=by rw [<- decide_not];exact decide_eq_decide.2 (by omega)
 have e8:decide (d<=8) = !decide ((d:Int)>8):=by rw [<- decide_not];exact decide_eq_decide.2 (by omega)
 unfold Q2;rw [el,e64,e8];repeat' ((first|(with_reducible first|refine wr ?_)|(with_reducible refine wb2 ?_ ?_<;>(intro hb;try simp only [hb]))|(refine AC.call (hcf.lend rfl (GL.one (id:=0) (b:=⟨0,true,[I64 d]⟩) rfl rfl (.cons _ _ _ _ (.same _) (.cons _ _ _ _ (.func _ _ _ _ _ .nil (.cons _ _ _ _ (.ptr 0 _ (Nat.zero_le _) rfl) .nil)) .nil)))) ?_<;>rintro v H' c' ⟨rfl,rfl,rfl⟩ hcc)|fail)<;>try simp only [go_sem,seval,List.length_map])
 all_goals (refine A4 (congrArg DV.bool ?_);simp_all)
theorem c_validHd (h:Hd) (hB:Pb.St.szs h.body<=100000000):PC Tryz.prog 123 [F0 h.body,I64 1] (.bool (Q2 h.body 1)) :=
 c_validBlock _ h.body 1 (Nat.lt_succ_self _) hB (by omega)
theorem hd_w (h:Hd):h.v=.agg [I64 h.trig,.str h.name,F0 h.body,I64 h.pos]:=rfl
theorem c_validMode (d:Md) (hB:d.sz<=100000000):PC Tryz.prog 84 [d.v] (.bool (Z5 d)):=by
 have hsz:d.sz=1+d.name.length+(d.hds.map Hd.sz).sum:=rfl;have hhl:d.hds.length<=(d.hds.map Hd.sz).sum:=P3 fun x _=>by show 1<=1+_+_;omega
 have hn:=c_IsName d.name (by omega);refine PC.of A6 isU84 (Nat.le_of_ble_eq_true rfl) (by simp [Md.v,DV.nlL,DV.nl,A2w]) rfl ?_;have ev:d.v=.agg [.str d.name,I64 d.prio,W8 d.hds,I64 d.pos]:=rfl;rw [ev];show IW Tryz.prog 61 u84_1 ⟨B4 _,_,_⟩ (rt [.tmp 2] _);cases hnm:F5 d.name with
 | false =>
  rw [hnm] at hn;repeat' ((with_reducible first|apply wr|refine cpc hn ?_|fail)<;>try simp only [go_sem,seval])
  exact A4 (by simp [Z5,hnm])
 | true =>
 rw [hnm] at hn;by_cases p0:d.prio<0
 ·have q0:decide (d.prio<0)=true:=by simpa using p0
  repeat' ((with_reducible first|apply wr|refine cpc hn ?_|fail)<;>try simp only [go_sem,seval,q0])
  exact A4 (by simp [Z5,hnm];omega)
 have q0:decide (d.prio<0)=false:=by simpa using p0
 by_cases p1:d.prio>2147483647
 ·have q1:decide (d.prio>2147483647)=true:=by simpa using p1
  repeat' ((with_reducible first|apply wr|refine cpc hn ?_|fail)<;>try simp only [go_sem,seval,q0,q1])
  exact A4 (by simp [Z5,hnm];omega)
 have q1:decide (d.prio>2147483647)=false:=by simpa using p1
 by_cases p2:d.hds.length>32
 ·have q2:decide ((d.hds.length:Int)>32)=true:=by simp;omega
  repeat' ((with_reducible first|apply wr|refine cpc hn ?_|fail)<;>try simp only [go_sem,seval,q0,q1,q2,List.length_map])
  exact A4 (by simp [Z5,hnm];omega)
 have q2:decide ((d.hds.length:Int)>32)=false:=by simp;omega
 have er:Z5 d=d.hds.all A3l:=by
  unfold Z5;rw [hnm,show decide (0<=d.prio)=true by simp;omega,show decide (d.prio<=2147483647)=true by simp;omega,show decide (d.hds.length<=32)=true by simp;omega];rfl
 rw [er];repeat' ((with_reducible first|apply wr|refine cpc hn ?_|fail)<;>try simp only [go_sem,seval,q0,q1,q2,List.length_map])
 refine C3 (fun k:Nat=>[(27,W8 d.hds),(28,I64 d.hds.length),(29,I64 k)]) (fun _=>Sym.nil) (fun k _=>k<=d.hds.length/\(d.hds.take k).all A3l=true) (fun k=>d.hds.length-k) 0 (by simp [C1,tm,Tm.upd]) (Sub.nil _) ⟨Nat.zero_le _,rfl⟩ ?_;rintro k cc ⟨hk,he⟩;by_cases hlt:k<d.hds.length
 ·have hd:decide ((k:Int)<d.hds.length)=true:=by simpa using hlt
  have hg:=List.getElem?_eq_getElem hlt;have hw:=w64 (n:=(k:Int)+1) (by omega) (by omega);have hs:d.hds[k].sz<=(d.hds.map Hd.sz).sum:=P2 (List.getElem_mem hlt);generalize d.hds[k]=h at hg hs;have hhs:h.sz=1+h.name.length+Pb.St.szs h.body:=rfl;have hn2:=c_IsName h.name (by omega);have hb2:=c_validHd h (by omega);have hf:=A4t A3l d.hds k _ hg;have ht:=A1y A3l d.hds k _ hg;have eh:A3l h=(decide (1<=h.trig) && decide (h.trig<=6) && (if 3<=h.trig then F5 h.name else h.name == []) && Q2 h.body 1):=rfl;by_cases t3:3<=h.trig
  ·have u3:decide (h.trig≥3)=true:=by simpa using t3
   rw [if_pos t3] at eh;repeat' ((with_reducible first|refine wr ?_|refine cpc hn2 ?_|refine cpc hb2 ?_|refine wb2 ?_ ?_<;>(intro hb;try simp only [hb])|fail)<;>try simp only [go_sem,seval,hd,hg,hw,u3,hd_w,A0,A1])
   all_goals first
    | (refine A4 (congrArg DV.bool (hf ?_).symm);rw [eh];clear hf ht eh er;simp_all<;>omega)
    | (refine ⟨k+1,rfl,Sub.nil _,inv ⟨by omega,?_⟩,by omega⟩;rw [ht,he,eh];clear hf ht eh er;simp_all<;>omega)
  ·have u3:decide (h.trig≥3)=false:=by simpa using t3
   rw [if_neg t3] at eh;repeat' ((with_reducible first|refine wr ?_|refine cpc hn2 ?_|refine cpc hb2 ?_|refine wb2 ?_ ?_<;>(intro hb;try simp only [hb])|fail)<;>try simp only [go_sem,seval,hd,hg,hw,u3,hd_w,A0,A1])
   all_goals first
    | (refine A4 (congrArg DV.bool (hf ?_).symm);rw [eh];clear hf ht eh er;simp_all<;>omega)
    | (refine ⟨k+1,rfl,Sub.nil _,inv ⟨by omega,?_⟩,by omega⟩;rw [ht,he,eh];clear hf ht eh er;simp_all<;>omega)
 have hd:decide ((k:Int)<d.hds.length)=false:=by simpa using hlt
 have hall:=all_done A3l d.hds k (by omega) he;repeat' ((with_reducible apply wr)<;>try simp only [go_sem,seval,hd])
 exact A4 (by rw [hall])
theorem c_V1 (d:Dc) (hB:d.name.length<=1000000000):PC Tryz.prog 80 [d.v] (.bool (!A1h d)):=by
 have h:=c_validDecl d hB;have ev:d.v=.agg [I64 d.kind,.str d.name,I64 d.value,I64 d.pos]:=rfl;rw [ev] at h ⊢;refine PC.of A6 isU80 (Nat.le_of_ble_eq_true rfl) (by simp [DV.nlL,DV.nl]) (by simp [DV.nlL,DV.nl]) ?_;show IW Tryz.prog 6 u80_1 ⟨B4 _,_,_⟩ (rt [.tmp 2] _);repeat' ((with_reducible first|apply wr|refine cpc h ?_|fail)<;>try simp only [go_sem,seval])
 exact A4 rfl
theorem c_V2 (d:Md) (hB:d.sz<=100000000):PC Tryz.prog 83 [d.v] (.bool (!Z5 d)):=by
 have h:=c_validMode d hB;have ev:d.v=.agg [.str d.name,I64 d.prio,W8 d.hds,I64 d.pos]:=rfl;rw [ev] at h ⊢;refine PC.of A6 isU83 (Nat.le_of_ble_eq_true rfl) (by simp [DV.nlL,DV.nl]) (by simp [DV.nlL,DV.nl]) ?_;show IW Tryz.prog 6 u83_1 ⟨B4 _,_,_⟩ (rt [.tmp 2] _);repeat' ((with_reducible first|apply wr|refine cpc h ?_|fail)<;>try simp only [go_sem,seval])
 exact A4 rfl
theorem c_Valid (r:Ru) (hB:r.sz<=100000000):PC Tryz.prog 40 [r.v] (.bool (T4 r)):=by
 obtain ⟨D,M⟩:=r;have hDs:(D.map Dc.sz).sum+(M.map Md.sz).sum<=100000000:=hB;have hDl:D.length<=(D.map Dc.sz).sum:=P3 fun x _=>by show 1<=1+_;omega
 have hMl:M.length<=(M.map Md.sz).sum:=P3 fun x _=>by show 1<=1+_+_;omega
 have h1:=c_CF_dc (f:=80) (a:=[]) (cs:=[]) (g:=fun e => !A1h e) D (by omega) rfl rfl (fun x hx=>c_V1 x (by
  have:x.sz<=(D.map Dc.sz).sum:=P2 hx;have e:x.sz=1+x.name.length:=rfl;omega))
 have h2:=c_CF_md (f:=83) (a:=[]) (cs:=[]) (g:=fun e => !Z5 e) M (by omega) rfl rfl (fun x hx=>c_V2 x (by
  have:x.sz<=(M.map Md.sz).sum:=P2 hx;omega))
 rw [A7s] at h1 h2;refine PC.of A6 isU40 (Nat.le_of_ble_eq_true rfl) (by simp [Ru.v,DV.nlL,DV.nl,P6,P5]) rfl ?_;dsimp only [Ru.v];show IW Tryz.prog 23 u40_1 ⟨B4 _,_,_⟩ (rt [.tmp 2] _);unfold T4;dsimp only;have e1:decide (D.length<=128) = !decide ((D.length:Int)>128):=by rw [<- decide_not];exact decide_eq_decide.2 (by omega)
 have e2:decide (M.length<=16) = !decide ((M.length:Int)>16):=by rw [<- decide_not];exact decide_eq_decide.2 (by omega)
 rw [e1,e2];generalize D.all A1h=bD at *;generalize M.all Z5=bM at *;repeat' ((with_reducible first|refine wr ?_|refine cpc h1 ?_|refine cpc h2 ?_|refine wb2 ?_ ?_<;>(intro hb;try simp only [hb])|fail)<;>try simp only [go_sem,seval,List.length_map])
 all_goals (refine A4 (congrArg DV.bool ?_);simp_all)
end Go.Proofs.YtnmkkggfgdfmeaaGreatDoor
end

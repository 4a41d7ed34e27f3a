/-
  HELPERS of the claim: part 6 of its texts.
-/
import Derived.Shelf.Strings.Fields
import Derived.Test.YtnmkkggfgdfmeaaGreatDoorProg
import Derived.KernelRfl
import Derived.Lib.Join
import Derived.Test.YtnmkkggfgdfmeaaGreatDoorChye
noncomputable section
set_option linter.unusedVariables false
namespace Go.Proofs
open Go.Shelf
def Tryz.lays157_ren:Go.Shelf.Ren:=⟨fun | 157=>165 | 229=>167 | 199=>168 | 261=>169 | 311=>170 | 312=>171|n=>n,fun | 9=>9 | 31=>36 | 3=>3 | 5=>5 | 4=>4 | 119=>175 | 0=>0 | 40=>177 | 152=>178 | 21=>21 | 154=>180 | 51=>181 | 141=>183 | 196=>187 | 193=>184 | 198=>190 | 49=>188 | 194=>185 | 201=>193 | 226=>195 | 46=>196 | 227=>197|n=>n,fun | 0=>0 | 6=>1|n=>n⟩
theorem Tryz.lays157:Go.Proofs.Lays.n157 Tryz.prog Tryz.lays157_ren:={
 mixed:=by kernel_rfl
 f157:=Tryz.func165.trans (congrArg some (by kernel_rfl))
 f199:=Tryz.func168.trans (congrArg some (by kernel_rfl))
 f229:=Tryz.func167.trans (congrArg some (by kernel_rfl))
 f261:=Tryz.func169.trans (congrArg some (by kernel_rfl))
 f311:=Tryz.func170.trans (congrArg some (by kernel_rfl))
 f312:=Tryz.func171.trans (congrArg some (by kernel_rfl))
 t0:=Tryz.underlying0
 a0:=Tryz.isAgg0
 z0:=Tryz.sizeOf0
 v0:=Tryz.zeroValue0
 t3:=Tryz.underlying3
 a3:=Tryz.isAgg3
 z3:=Tryz.sizeOf3
 v3:=Tryz.zeroValue3
 t4:=Tryz.underlying4
 a4:=Tryz.isAgg4
 z4:=Tryz.sizeOf4
 v4:=Tryz.zeroValue4
 t5:=Tryz.underlying5
 a5:=Tryz.isAgg5
 z5:=Tryz.sizeOf5
 v5:=Tryz.zeroValue5
 t9:=Tryz.underlying9
 a9:=Tryz.isAgg9
 z9:=Tryz.sizeOf9
 v9:=Tryz.zeroValue9
 t21:=Tryz.underlying21
 a21:=Tryz.isAgg21
 z21:=Tryz.sizeOf21
 v21:=Tryz.zeroValue21
 t31:=Tryz.underlying36
 a31:=Tryz.isAgg36
 z31:=Tryz.sizeOf36
 v31:=Tryz.zeroValue36
 t40:=Tryz.underlying177
 a40:=Tryz.isAgg177
 z40:=Tryz.sizeOf177
 v40:=Tryz.zeroValue177
 t46:=Tryz.underlying196
 a46:=Tryz.isAgg196
 z46:=Tryz.sizeOf196
 v46:=Tryz.zeroValue196
 t49:=Tryz.underlying188
 a49:=Tryz.isAgg188
 z49:=Tryz.sizeOf188
 v49:=Tryz.zeroValue188
 t51:=Tryz.underlying181
 a51:=Tryz.isAgg181
 z51:=Tryz.sizeOf181
 v51:=Tryz.zeroValue181
 t119:=Tryz.underlying175
 a119:=Tryz.isAgg175
 z119:=Tryz.sizeOf175
 t141:=Tryz.underlying183
 a141:=Tryz.isAgg183
 z141:=Tryz.sizeOf183
 v141:=Tryz.zeroValue183
 t152:=Tryz.underlying178
 a152:=Tryz.isAgg178
 z152:=Tryz.sizeOf178
 v152:=Tryz.zeroValue178
 t154:=Tryz.underlying180
 a154:=Tryz.isAgg180
 z154:=Tryz.sizeOf180
 v154:=Tryz.zeroValue180
 t193:=Tryz.underlying184
 a193:=Tryz.isAgg184
 z193:=Tryz.sizeOf184
 v193:=Tryz.zeroValue184
 t194:=Tryz.underlying185
 a194:=Tryz.isAgg185
 z194:=Tryz.sizeOf185
 v194:=Tryz.zeroValue185
 t196:=Tryz.underlying187
 a196:=Tryz.isAgg187
 z196:=Tryz.sizeOf187
 v196:=Tryz.zeroValue187
 t198:=Tryz.underlying190
 a198:=Tryz.isAgg190
 z198:=Tryz.sizeOf190
 v198:=Tryz.zeroValue190
 t201:=Tryz.underlying193
 a201:=Tryz.isAgg193
 z201:=Tryz.sizeOf193
 v201:=Tryz.zeroValue193
 t226:=Tryz.underlying195
 a226:=Tryz.isAgg195
 z226:=Tryz.sizeOf195
 v226:=Tryz.zeroValue195
 t227:=Tryz.underlying197
 a227:=Tryz.isAgg197
 z227:=Tryz.sizeOf197
 v227:=Tryz.zeroValue197
 g0:=by kernel_rfl
 g6:=by kernel_rfl }
open Go.RowKit Go.Lib in
theorem Tryz.strings_Fields (s : ByteArray) (w : World) (hs : s.size < 4294967281) (hascii : ∀ (j : Nat) b, s.data.toList[j]? = some b → b.toNat < 128) (htab : Lib.TabIs Tryz.prog w "strings.asciiSpace" .u8 Lib.asciiSpaceTab) :
  Calls Tryz.prog 165 #[.string s] w fun e w' =>
   e=.returned (.slice (some ⟨w.heap.size,0,none⟩) (Lib.fields s.data.toList).length (Lib.fields s.data.toList).length)/\w'=w.alloc (.cells ((Lib.fields s.data.toList).map fun l=>Value.string ⟨l.toArray⟩).toArray 9):=Any.strings_Fields Tryz.lays157 (by kernel_rfl) (by kernel_rfl) s w hs hascii htab
end Go.Proofs
set_option maxHeartbeats 4000000
set_option maxRecDepth 100000
set_option linter.unusedSimpArgs false
namespace Go.Proofs.YtnmkkggfgdfmeaaGreatDoor
open Go.Eng (IC IOper DReg IFn A6 I2)
open Go.Sym Go.Pb Go.RowKit
theorem arg1 {ρ : Ren} {x:DV} {u:Value} {vs:Array Value} (hA:F3 ρ [x] vs) (h:∀ y,VRel ρ x y->y=u):vs = #[u]:=by
 obtain ⟨y,h1,h2⟩:=hA.get (i:=0) rfl;have hs:vs.size=1:=hA.1.symm;obtain rfl:=h y h2;cases vs with|mk l=>match l,hs,h1 with
  | [a],_,h1=>simp at h1;subst h1;rfl
def wlit:List UInt8:=w8 [115,119,105,116,99,104,32,99,111,105,108,32,108,97,109,112,32,115,111,117,110,100,32,115,104,111,119,32,118,97,114,32,116,105,109,101,114,32,101,118,101,110,116,32,109,111,100,101,32,111,110,32,115,116,97,114,116,32,115,116,111,112,32,99,108,111,115,101,32,111,112,101,110,32,105,102,32,101,108,115,101,32,114,101,112,101,97,116,32,115,99,111,114,101,32,102,105,114,101,32,104,111,108,100,32,114,101,108,101,97,115,101,32,108,105,103,104,116,32,98,108,105,110,107,32,98,101,103,105,110,32,101,110,100,32,112,111,115,116,32,112,108,97,121,32,114,117,110,32,104,97,108,116,32,116,101,120,116,32,99,111,110,115,117,109,101,32,99,108,111,115,101,100,32,97,99,116,105,118,101,32,108,101,102,116,32,112,108,97,121,101,114,32,98,97,108,108,32,116,114,117,101,32,102,97,108,115,101]
theorem wlit_f:Lib.fields wlit=E6:=by kernel_rfl
theorem wlit_a:wlit.all (fun b=>decide (b.toNat<128))=true:=by kernel_rfl
theorem c_Fields:PC Tryz.prog 165 [.str wlit] (.lst (E6.map DV.str)):=by
 refine PC.of_callsF (by kernel_rfl) rfl (M7 _) fun ρ w vs hf hA=>?_;rw [arg1 hA (fun y h=>h.str_inv)];obtain ⟨r,hr,rfl⟩ := ρ.tab _ (List.mem_cons_of_mem _ List.mem_cons_self);obtain ⟨e,fr,hb⟩:=hf _ _ hr;have ht : Lib.TabIs Tryz.prog w "strings.asciiSpace" .u8 Lib.asciiSpaceTab := by
  unfold Lib.TabIs World.var?;rw [show Tryz.prog.globalNamed "strings.asciiSpace" = some 0 by kernel_rfl]
  show (match w.heap[0]? with|some (.cells cs _ _)=>some cs|_=>none)=_;have hb':w.heap[0]? = _:=hb;rw [hb']
 refine (Tryz.strings_Fields _ w (by decide) ?_ ht).mono ?_
 ·intro j b hj;have:=List.all_eq_true.1 wlit_a b (List.mem_of_getElem? hj);simpa using this
 ·rintro e w' ⟨rfl,rfl⟩;have hl:Lib.fields (⟨wlit.toArray⟩:ByteArray).data.toList=E6:=wlit_f;rw [hl];refine ⟨_,w.heap.size,_,9,_,rfl,Nat.le_refl _,(by show (w.heap.push _)[w.heap.size]? = _;rw [Array.getElem?_push_size]),fun ρ' hρ => VRel.strs hρ rfl (Nat.le_refl _) (by decide),Below.alloc (Below.refl _ _) (Nat.le_refl _) _⟩
open Go.Eng (IC IOper DReg IFn A6)
open Go.Sym Go.Pb
theorem c_Fields':PC Tryz.prog 165 [.str [115,119,105,116,99,104,32,99,111,105,108,32,108,97,109,112,32,115,111,117,110,100,32,115,104,111,119,32,118,97,114,32,116,105,109,101,114,32,101,118,101,110,116,32,109,111,100,101,32,111,110,32,115,116,97,114,116,32,115,116,111,112,32,99,108,111,115,101,32,111,112,101,110,32,105,102,32,101,108,115,101,32,114,101,112,101,97,116,32,115,99,111,114,101,32,102,105,114,101,32,104,111,108,100,32,114,101,108,101,97,115,101,32,108,105,103,104,116,32,98,108,105,110,107,32,98,101,103,105,110,32,101,110,100,32,112,111,115,116,32,112,108,97,121,32,114,117,110,32,104,97,108,116,32,116,101,120,116,32,99,111,110,115,117,109,101,32,99,108,111,115,101,100,32,97,99,116,105,118,101,32,108,101,102,116,32,112,108,97,121,101,114,32,98,97,108,108,32,116,114,117,101,32,102,97,108,115,101]] (.lst (E6.map DV.str)):=c_Fields
theorem words_new:∀ k:Nat,k<38->(E6.take k).contains (E6.getD k [])=false:=by decide +kernel
theorem c_words:PC Tryz.prog 157 [] (.mp .s (E6.map DV.str) (E6.map fun _=>DV.bool true)):=by
 refine PC.of A9 isU157 (Nat.le_of_ble_eq_true rfl) rfl (by simp only [DV.nl];rw [M7,K9 (fun _=>rfl)];rfl) ?_;show IW Tryz.prog 15 u157_1 ⟨B6 _,_,_⟩ (rt [.tmp 0] _);have hf:=c_Fields';repeat' ((with_reducible first|apply wr|refine cpc hf ?_|fail)<;>try simp only [go_sem,seval])
 clear hf;refine C2 (fun k:Nat=>[(1,.mid 0),(5,.lst (E6.map DV.str)),(6,I64 E6.length),(7,I64 k)]) (fun k=>Sym.nil.upd 0 ⟨0,true,[.mpc .s ((E6.take k).map DV.str) ((E6.take k).map fun _=>DV.bool true)]⟩) (fun k _=>k<=E6.length) (fun k=>E6.length-k) 0 (by simp [C1,tm,Tm.upd]) (Sub.refl _) (by simp) ?_;rintro k c hk;have hlen:E6.length=38:=rfl;by_cases hlt:k<E6.length
 ·have hd:decide ((k:Int)<E6.length)=true:=by simpa using hlt
  have hg:=List.getElem?_eq_getElem hlt;have hw:IntKind.i64.wrap ((k:Int)+1)=((k+1:Nat):Int):=by rw [w64 (by omega) (by omega)];omega
  have hn:(E6.take k).contains E6[k]=false:=by
   have:=words_new k (by omega)
   rwa [List.getD_eq_getElem?_getD,hg,Option.getD_some] at this
  have hm:=A6s hn 0;have e1:E6.take (k+1)=E6.take k++[E6[k]]:=by rw [List.take_add_one,hg];rfl
  repeat' ((with_reducible apply wr)<;>try simp only [go_sem,seval,hd,hg,hw,hm])
  refine ⟨k+1,rfl,?_,inv hlt,by omega⟩;rw [e1,List.map_append,List.map_append];intro j b hj;by_cases e:j=0
  ·subst e;rw [A0] at hj ⊢;exact hj
  ·rw [A2 e] at hj;cases hj
 ·have hd:decide ((k:Int)<E6.length)=false:=by simpa using hlt
  repeat' ((with_reducible apply wr)<;>try simp only [go_sem,seval,hd])
  rw [List.take_of_length_le (by omega)];exact pc_map A0
abbrev A3w:DV:=.mp .s (E6.map DV.str) (E6.map fun _=>DV.bool true)
theorem lk_res (w:List UInt8):lkV (.bool false) false (E6.map fun _=>DV.bool true) (E7 (.str w) (E6.map DV.str) 0)=some (.bool (G8 w)):=by
 cases h:G8 w with
 | false=>rw [A6s h 0];rfl
 | true =>
  obtain ⟨j,hj⟩:=mfind_some h 0;have hlt:=(A6t hj).2;rw [List.length_map] at hlt;rw [hj,l_some,List.getElem?_map,List.getElem?_eq_getElem (by omega)];rfl
theorem c_IsWord (s:List UInt8):PC Tryz.prog 147 [.str s] (.bool (G8 s)):=by
 refine PC.of A9 isU147 (Nat.le_of_ble_eq_true rfl) (by simp [DV.nlL,DV.nl]) (by simp [DV.nlL,DV.nl]) ?_;show IW Tryz.prog 6 u147_1 ⟨B6 _,_,_⟩ (rt [.tmp 2] _);have hw:=c_words;have hlk:=lk_res s;repeat' ((with_reducible first|apply wr|refine cpc hw ?_|fail)<;>try simp only [go_sem,seval,hlk])
 exact A8 rfl
theorem c_IsName (s:List UInt8) (hs:s.length<=1000000000):PC Tryz.prog 121 [.str s] (.bool (D6 s)):=by
 refine PC.of A9 isU121 (Nat.le_of_ble_eq_true rfl) (by simp [DV.nlL,DV.nl]) (by simp [DV.nlL,DV.nl]) ?_;show IW Tryz.prog 28 u121_1 ⟨B6 _,_,_⟩ (rt [.tmp 2] _);have hw:=c_IsWord s;have hsp:=c_spanPt s (by omega);cases s with
 | nil =>
  repeat' ((with_reducible apply wr)<;>try simp only [go_sem,seval])
  exact A8 rfl
 | cons c r =>
  have hx:idxR (DV.str (c :: r)) (.int .i64 0)=some (.int .u8 (c.toNat:Int)):=rfl;have hlt:=c_letter c;have hd1:decide (((r.length+1:Nat):Int)≥1)=true:=by simp;omega
  repeat' ((with_reducible first|refine wr ?_|refine cpc hw ?_|refine cpc hsp ?_|refine cpc hlt ?_|refine wb2 ?_ ?_<;>(intro hb;try simp only [hb])|fail)<;>try simp only [go_sem,seval,hx,hd1])
  all_goals (refine A8 (congrArg DV.bool ?_);simp_all [D6]<;>omega)
end Go.Proofs.YtnmkkggfgdfmeaaGreatDoor
set_option linter.unusedSectionVars false
namespace Go.Pb
variable [Go.Sym.Tab]
open Go.Sym
def okN (kind:Int) (text:List UInt8) (value:Int) (i n:Nat):DV:=.tup [.agg [I64 kind,.str text,I64 value,I64 i],I64 ((i+n:Nat):Int),I64 0]
def S6 (e:Int) (i:Nat):DV:=.tup [.agg [I64 0,.str [],I64 0,I64 0],I64 i,I64 e]
def nxR (x:Nx) (i:Nat):DV:=if x.err=0 then okN x.kind x.text x.value i x.n else S6 x.err i
theorem nxR_nl (x:Nx) (i:Nat):(nxR x i).nl=true:=by unfold nxR;split<;>rfl
theorem A6o {k:Int} {t:List UInt8} {v:Int} {n i:Nat}:nxR ⟨k,t,v,n,0⟩ i=okN k t v i n:=if_pos rfl
theorem A2v {e:Int} {i:Nat} (h:e≠0):nxR (nxE e) i=S6 e i:=if_neg h
def B0j (s:List UInt8):Bool:=decide (2147483647<Z4 s)
def smV (s:List UInt8):Nat:=if 2147483647<Z4 s then 0 else Z4 s
theorem smV_le (s:List UInt8):smV s<=2147483647:=by unfold smV;split<;>omega
theorem smV_f {s:List UInt8} (h:¬ 2147483647<Z4 s):smV s=Z4 s:=if_neg h
theorem smV_t {s:List UInt8} (h:2147483647<Z4 s):smV s=0:=if_pos h
theorem A6j {p:UInt8->Bool} {s:List UInt8} {i j:Nat} {c:UInt8} (h:s[i+j]? = some c) (hj:j<=D7 p (s.drop i)):(p c=true->j+1<=D7 p (s.drop i))/\(p c=false->D7 p (s.drop i)=j) :=
 A5n (by rw [List.getElem?_drop];exact h) hj
theorem A3p {p:UInt8->Bool} {s:List UInt8} {i j:Nat} (h:s.length<=i+j) (hj:j<=D7 p (s.drop i)):D7 p (s.drop i)=j :=
 spnM_end (by rw [List.length_drop];omega) hj
theorem slx_take {s:List UInt8} {i n:Nat} (h:i+n<=s.length):slsR s (some (.int .i64 (i:Int))) (some (.int .i64 ((i+n:Nat):Int)))=some (.str ((s.drop i).take n)):=by
 have b1:∀ k:Nat,boundOf s.length (some (.int .i64 (k:Int)))=some k:=fun k=>by simp [boundOf]
 have b2:∀ k:Nat,boundOf 0 (some (.int .i64 (k:Int)))=some k:=fun k=>by simp [boundOf]
 simp only [slsR,b1,b2];rw [if_pos ⟨h,by omega⟩,show i+n-i=n by omega]
theorem nxR_shape (x:Nx) (i:Nat):∃ (k:Int) (t:List UInt8) (v p n e:Int),nxR x i=.tup [.agg [I64 k,.str t,I64 v,I64 p],I64 n,I64 e]:=by
 unfold nxR;split
 ·exact ⟨_,_,_,_,_,_,rfl⟩
 ·exact ⟨_,_,_,_,_,_,rfl⟩
def box4:Blk:=⟨0,true,[I64 0,.str [],I64 0,I64 0]⟩
def quR (i:Nat):Option (List UInt8 × Nat)->DV
 | none=>S6 48 i
 | some x=>if 32<x.1.length then S6 9 i else .tup [.agg [I64 4,.str x.1,I64 0,I64 i],I64 (x.2:Int),I64 0]
theorem quR_nl (i:Nat) (q:Option (List UInt8 × Nat)):(quR i q).nl=true:=by
 cases q with
 | none=>rfl
 | some x=>simp only [quR];split<;>rfl
theorem quR_next {s:List UInt8} {i:Nat} {c:UInt8} (h:s[i]? = some c) (h1:ltB c=false) (h2:dgB c=false) (h3:c.toNat=34):quR i (quA [] (i+1) (quM (s.drop (i+1))))=nxR (C6 (s.drop i)) i:=by
 rw [L1 h,C6,if_neg (by rw [h1];simp),if_neg (by rw [h2];simp),if_pos h3];cases hq:quM (s.drop (i+1)) with
 | none=>rfl
 | some x =>
  simp only [quA,Option.map_some,List.nil_append,quR];split
  ·rw [A2v (by decide)]
  ·rw [A6o,okN];have:x.2+(i+1)=i+(x.2+1):=by omega
   rw [this]
theorem A5j {X:Hp} {o:Option Nat} {c:Nat} {b b2 b3 b3':Blk} (hX:∀ j q,X j=some q->j<c) (ho:∀ i,o=some i->X i=none) (h:b3=b3') :
  Sub (C4 X (some (c+1)) b3) ((I0 ((C4 X o b).upd c b2) o).upd (c+1) b3'):=by
 subst h;intro j q hj;simp only [C4] at hj;by_cases e:j=c+1
 ·subst e;rw [A0] at hj ⊢;exact hj
 ·rw [A2 e] at hj ⊢;have h1:=hX j q hj;have h2:∀ i,o=some i->¬ j=i:=fun i hi e2=>by rw [e2,ho i hi] at hj;cases hj
  rw [F1 h2,A2 (by omega),C9 h2];exact hj
theorem A5h {b:Blk} {c j:Nat} {q:Blk} (hc:1<=c) (h:(Sym.nil.upd 0 b) j=some q):j<c:=by
 by_cases e:j=0
 ·omega
 ·rw [A2 e] at h;cases h
theorem A5g {b:Blk} {i:Nat} (h:¬ i=0):(Sym.nil.upd 0 b) i=none:=by rw [A2 h];rfl
def O6:List (List UInt8):=[[60,61],[62,61],[61,61],[33,61],[38,38],[124,124],[123],[125],[40],[41],[59],[44],[61],[43],[45],[42],[47],[37],[33],[60],[62]]
theorem sgn_len2:∀ k:Nat,k<6->∃ a b,O6.getD k []=[a,b]/\A9c a b=true:=by
 intro k hk;have:∀ k:Nat,k<6->(match O6.getD k [] with | [a,b]=>A9c a b|_=>false)=true:=by decide
 have:=this k hk;split at this
 ·rename_i a b e;exact ⟨a,b,e,this⟩
 ·cases this
theorem sgn_len1:∀ k:Nat,6<=k->k<21->∃ a,O6.getD k []=[a]/\oneB a=true:=by
 intro k h6 hk;have:∀ k:Nat,k<21->6<=k->(match O6.getD k [] with | [a]=>oneB a|_=>false)=true:=by decide
 have:=this k hk h6;split at this
 ·rename_i a e;exact ⟨a,e,this⟩
 ·cases this
theorem two_in {c d:UInt8} (h:A9c c d=true):∃ k,k<6/\O6.getD k []=[c,d]:=by
 rw [two_iff] at h;simp only [Bool.or_eq_true,beq_iff_eq] at h;rcases h with ((((h|h)|h)|h)|h)|h
 ·exact ⟨0,by omega,h.symm⟩
 ·exact ⟨1,by omega,h.symm⟩
 ·exact ⟨2,by omega,h.symm⟩
 ·exact ⟨3,by omega,h.symm⟩
 ·exact ⟨4,by omega,h.symm⟩
 ·exact ⟨5,by omega,h.symm⟩
theorem one_in {c:UInt8} (h:oneB c=true):∃ k,6<=k/\k<21/\O6.getD k []=[c]:=by
 have key:∀ n:Nat,n<256->oneB (UInt8.ofNat n)=true->∃ k,k<21/\6<=k/\O6.getD k []=[UInt8.ofNat n]:=by decide +kernel
 obtain ⟨k,h1,h2,h3⟩:=key c.toNat c.toNat_lt (by rw [UInt8.ofNat_toNat];exact h);rw [UInt8.ofNat_toNat] at h3;exact ⟨k,h2,h1,h3⟩
def A4a (l s:List UInt8):Bool:=decide (l.length<=s.length) && (s.take l.length == l)
theorem sgn_found {s:List UInt8} {k:Nat} (hk:k<21) (hno:∀ j,j<k->A4a (O6.getD j []) s=false) (h:A4a (O6.getD k []) s=true):M5 s=(O6.getD k []).length/\(O6.getD k [])=s.take (O6.getD k []).length:=by
 simp only [A4a,Bool.and_eq_true,decide_eq_true_eq,beq_iff_eq] at h;refine ⟨?_,h.2.symm⟩;by_cases h6:k<6
 ·obtain ⟨a,b,e,ht⟩:=sgn_len2 k h6;rw [e] at h ⊢
  match s,h with
  | [],h=>simp at h
  | [x],h=>simp at h
  | x :: y :: r,h =>
   simp at h;obtain ⟨rfl,rfl⟩:=h;simp [M5,ht]
 ·obtain ⟨a,e,ho⟩:=sgn_len1 k (by omega) hk;rw [e] at h ⊢
  match s,h with
  | [],h=>simp at h
  | [x],h =>
   simp at h;subst h;simp [M5,ho]
  | x :: y :: r,h =>
   simp at h;subst h;have h2:A9c x y=false:=by
    cases ht:A9c x y with
    | false=>rfl
    | true =>
     obtain ⟨j,hj,e2⟩:=two_in ht;have:=hno j (by omega);rw [e2] at this;simp [A4a] at this
   simp [M5,h2,ho]
theorem sgn_none {s:List UInt8} (hno:∀ j,j<21->A4a (O6.getD j []) s=false):M5 s=0:=by
 have h1:∀ x r,s=x :: r->oneB x=false:=by
  intro x r e;cases ho:oneB x with
  | false=>rfl
  | true =>
   obtain ⟨j, -,hj,e2⟩:=one_in ho;have:=hno j hj;rw [e2,e] at this;simp [A4a] at this
 match s,hno,h1 with
 | [],_,_=>rfl
 | [x],_,h1=>simp [M5,h1 x [] rfl]
 | x :: y :: r,hno,h1 =>
  have h2:A9c x y=false:=by
   cases ht:A9c x y with
   | false=>rfl
   | true =>
    obtain ⟨j,hj,e2⟩:=two_in ht;have:=hno j (by omega);rw [e2] at this;simp [A4a] at this
  simp [M5,h2,h1 x _ rfl]
end Go.Pb
namespace Go.Proofs.YtnmkkggfgdfmeaaGreatDoor
open Go.Eng (IC IOper DReg IFn A6)
open Go.Sym Go.Pb
theorem c_wordsR:PC Tryz.prog 154 [] (.lst (E6.map DV.str)):=by
 refine PC.of A9 isU154 (Nat.le_of_ble_eq_true rfl) rfl (M7 _) ?_;show IW Tryz.prog 2 u154_1 ⟨B6 _,_,_⟩ (rt [.tmp 0] _);repeat' ((with_reducible apply wr)<;>try simp only [go_sem,seval])
 exact L7 (xs:=E6.map DV.str) (u:=1) A0 rfl rfl (J5 _) ⟨[],rfl⟩
theorem c_signsR:PC Tryz.prog 113 [] (.lst (O6.map DV.str)):=by
 refine PC.of A9 isU113 (Nat.le_of_ble_eq_true rfl) rfl (M7 _) ?_;show IW Tryz.prog 2 u113_1 ⟨B6 _,_,_⟩ (rt [.tmp 0] _);repeat' ((with_reducible apply wr)<;>try simp only [go_sem,seval])
 exact L7 (xs:=O6.map DV.str) (u:=1) A0 rfl rfl (J5 _) ⟨[],rfl⟩
theorem c_IsWordR (s:List UInt8):PC Tryz.prog 140 [.str s] (.bool (G8 s)):=by
 refine PC.of A9 isU140 (Nat.le_of_ble_eq_true rfl) (by simp [DV.nlL,DV.nl]) (by simp [DV.nlL,DV.nl]) ?_;show IW Tryz.prog 18 u140_1 ⟨B6 _,_,_⟩ (rt [.tmp 2] _);have hw:=c_wordsR;repeat' ((with_reducible first|apply wr|refine cpc hw ?_|fail)<;>try simp only [go_sem,seval])
 refine C2 (fun k:Nat=>[(0,.str s),(3,.lst (E6.map DV.str)),(4,I64 k)]) (fun _=>nil) (fun k _=>k<=E6.length/\(E6.take k).contains s=false) (fun k=>E6.length-k) 0 (by simp [C1,tm,Tm.upd]) (Sub.nil _) (by simp) ?_;rintro k c ⟨hk,he⟩;have hlen:E6.length=38:=rfl;by_cases hlt:k<E6.length
 ·have hd:decide ((k:Int)<E6.length)=true:=by simpa using hlt
  have hg:=List.getElem?_eq_getElem hlt;have hw:IntKind.i64.wrap ((k:Int)+1)=((k+1:Nat):Int):=by rw [w64 (by omega) (by omega)];omega
  repeat' ((with_reducible first|refine wr ?_|refine wb2 ?_ ?_<;>(intro hb;try simp only [hb])|fail)<;>try simp only [go_sem,seval,hd,hg,hw])
  ·refine A8 (congrArg DV.bool ?_);have:s=E6[k]:=(beq_iff_eq.1 hb).symm;unfold G8;rw [List.contains_iff_mem.2 (by rw [this];exact List.getElem_mem hlt)]
  ·refine ⟨k+1,rfl,Sub.refl _,inv ⟨hlt,?_⟩,by omega⟩;rw [List.take_add_one,hg,List.contains_append,he];have:¬ s=E6[k]:=fun e=>by rw [e] at hb;simp at hb
   simpa using this
 ·have hd:decide ((k:Int)<E6.length)=false:=by simpa using hlt
  repeat' ((with_reducible apply wr)<;>try simp only [go_sem,seval,hd])
  refine A8 (congrArg DV.bool ?_);rw [List.take_of_length_le (by omega)] at he;exact he.symm
theorem c_skipR (s:List UInt8) (hs:s.length<=1000000000) (i:Nat) (hi:i<=s.length):PC Tryz.prog 70 [.str s,I64 i] (I64 ((i+skM false (s.drop i):Nat):Int)):=by
 refine PC.of A9 isU70 (Nat.le_of_ble_eq_true rfl) (by simp [DV.nlL,DV.nl]) (by simp [DV.nlL,DV.nl]) ?_;show IW Tryz.prog 45 u70_1 ⟨B6 _,_,_⟩ (rt [.tmp 4] _);repeat' ((with_reducible apply wr)<;>try simp only [go_sem,seval])
 refine C2 (fun k:Nat=>[(0,.str s),(1,I64 k)]) (fun _=>nil) (fun k _=>k<=s.length/\i+skM false (s.drop i)=k+skM false (s.drop k)) (fun k=>s.length-k) i (by simp [C1,tm,Tm.upd]) (Sub.nil _) ⟨hi,rfl⟩ ?_;rintro k c ⟨hk,he⟩;by_cases hlt:k<s.length
 ·have hd:decide ((k:Int)<s.length)=true:=by simpa using hlt
  have hg:=List.getElem?_eq_getElem hlt;have hw:=w64 (n:=(k:Int)+1) (by omega) (by omega);have hsep:A4w s[k]=true->∃ b,DV.int IntKind.i64 ((k:Int)+1)=I64 ((b:Nat):Int)/\Sym.Sub Sym.nil Sym.nil/\Keep (fun k _=>k<=s.length/\i+skM false (s.drop i)=k+skM false (s.drop k)) b c/\s.length-b<s.length-k :=
   fun h=>⟨k+1,rfl,Sub.refl _,inv ⟨by omega,by rw [he,sk_sep hg h];omega⟩,by omega⟩
  repeat' ((with_reducible first|refine wr ?_|refine wb2 ?_ ?_<;>(intro hb;try simp only [hb])|fail)<;>try simp only [go_sem,seval,hd,hg,hw])
  ·have h35:=bq_t (b:=35) hb;have h1:=sk_cmt1 hg h35;have h2:=sk_cmt hg h35;refine C2 (fun j:Nat=>[(0,.str s),(1,I64 ((k+j:Nat):Int))]) (fun _=>nil) (fun j _=>k+j<=s.length/\j<=D7 (fun c=>decide (c.toNat≠10)) (s.drop k)) (fun j=>s.length-(k+j)) 0 (by simp [C1,tm,Tm.upd]) (Sub.nil _) (by simp;omega) ?_;rintro j c ⟨hkj,hej⟩;have hend:D7 (fun c=>decide (c.toNat≠10)) (s.drop k)=j->∃ b,I64 ((k+j:Nat):Int)=I64 ((b:Nat):Int)/\Sym.Sub Sym.nil Sym.nil/\Keep (fun k _=>k<=s.length/\i+skM false (s.drop i)=k+skM false (s.drop k)) b c/\s.length-b<s.length-k:=by
    intro e;rw [e] at h1 h2;exact ⟨k+j,rfl,Sub.refl _,inv ⟨hkj,by rw [he,h2];omega⟩,by omega⟩
   by_cases hlt2:k+j<s.length
   ·have hd2:decide (((k+j:Nat):Int)<s.length)=true:=by simp;omega
    have hg2:=List.getElem?_eq_getElem hlt2;have hw2:IntKind.i64.wrap (((k+j:Nat):Int)+1)=((k+(j+1):Nat):Int):=by rw [w64 (by omega) (by omega)];omega
    have hst:=A6j hg2 hej;repeat' ((with_reducible first|refine wr ?_|refine wb2 ?_ ?_<;>(intro hb;try simp only [hb])|fail)<;>try simp only [go_sem,seval,hd2,hg2,hw2])
    ·exact ⟨j+1,rfl,Sub.refl _,inv ⟨hlt2,hst.1 (by simpa using bn_t (b:=10) hb)⟩,by omega⟩
    ·exact hend (hst.2 (by simpa using bn_f (b:=10) hb))
   ·have hd2:decide (((k+j:Nat):Int)<s.length)=false:=by simp;omega
    repeat' ((with_reducible apply wr)<;>try simp only [go_sem,seval,hd2])
    exact hend (A3p (by omega) hej)
  ·exact hsep (by simp [A4w,bq_t (b:=9) hb])
  ·exact hsep (by simp [A4w,bq_t (b:=10) hb])
  ·exact hsep (by simp [A4w,bq_t (b:=13) hb])
  ·exact hsep (by simp [A4w,bq_t (b:=32) hb])
  ·refine A8 ?_;have h9:=A5b (a:=s[k].toNat) (b:=9) (by assumption);have h10:=A5b (a:=s[k].toNat) (b:=10) (by assumption);have h13:=A5b (a:=s[k].toNat) (b:=13) (by assumption);have h32:=A5b (a:=s[k].toNat) (b:=32) (by assumption);have h35:=A5b (a:=s[k].toNat) (b:=35) (by assumption);rw [he,sk_stop hg (by simp [A4w,h9,h10,h13,h32]) h35];simp
 ·have hd:decide ((k:Int)<s.length)=false:=by simpa using hlt
  repeat' ((with_reducible apply wr)<;>try simp only [go_sem,seval,hd])
  refine A8 ?_;rw [he,sk_end (by omega)];simp
theorem c_wordR (s:List UInt8) (hs:s.length<=1000000000) (i:Nat) (hi:i<s.length) (hl:ltB s[i]=true):PC Tryz.prog 109 [.str s,I64 i] (nxR (C6 (s.drop i)) i):=by
 have hM:C6 (s.drop i)=if 12<D7 ptB (s.drop i) then nxE 9 else ⟨if G8 ((s.drop i).take (D7 ptB (s.drop i)))=true then 2 else 1,(s.drop i).take (D7 ptB (s.drop i)),0,D7 ptB (s.drop i),0⟩:=by
  rw [L1 (List.getElem?_eq_getElem hi),C6,if_pos hl]
 rw [hM];have hle:=V9 ptB (s.drop i);rw [List.length_drop] at hle;refine PC.of A9 isU109 (Nat.le_of_ble_eq_true rfl) rfl (nxR_nl _ _) ?_;show IW Tryz.prog 52 u109_1 ⟨B6 _,_,_⟩ (rt [.cell 4 4 true,.tmp 5,.tmp 6] _);repeat' ((with_reducible apply wr)<;>try simp only [go_sem,seval])
 refine C2 (fun j:Nat=>[(0,.str s),(1,I64 i),(4,.ptr 0 0),(7,I64 ((i+j:Nat):Int))]) (fun _=>Sym.nil.upd 0 ⟨0,true,[I64 0,.str [],I64 0,I64 0]⟩) (fun j cc=>1<=cc/\i+j<=s.length/\j<=D7 ptB (s.drop i)) (fun j=>s.length-(i+j)) 0 (by simp [C1,tm,Tm.upd]) (Sub.refl _) (by simp;omega) ?_;rintro j c ⟨h1c,hk,he⟩;have hw2:IntKind.i64.wrap (((i+j:Nat):Int)-i)=(j:Int):=by rw [w64 (by omega) (by omega)];omega
 have hsx:=slx_take hk;have hiw:=c_IsWordR ((s.drop i).take j);have hR9:D7 ptB (s.drop i)=j->12<j->S6 9 i=nxR (if 12<D7 ptB (s.drop i) then nxE 9 else ⟨if G8 ((s.drop i).take (D7 ptB (s.drop i)))=true then 2 else 1,(s.drop i).take (D7 ptB (s.drop i)),0,D7 ptB (s.drop i),0⟩) i:=by
  intro e h;rw [e,if_pos h,A2v (by decide)]
 have hRw:D7 ptB (s.drop i)=j->¬ 12<j->G8 ((s.drop i).take j)=true->okN 2 ((s.drop i).take j) 0 i j=nxR (if 12<D7 ptB (s.drop i) then nxE 9 else ⟨if G8 ((s.drop i).take (D7 ptB (s.drop i)))=true then 2 else 1,(s.drop i).take (D7 ptB (s.drop i)),0,D7 ptB (s.drop i),0⟩) i:=by
  intro e h h2;rw [e,if_neg h,A6o,if_pos h2]
 have hRn:D7 ptB (s.drop i)=j->¬ 12<j->G8 ((s.drop i).take j)=false->okN 1 ((s.drop i).take j) 0 i j=nxR (if 12<D7 ptB (s.drop i) then nxE 9 else ⟨if G8 ((s.drop i).take (D7 ptB (s.drop i)))=true then 2 else 1,(s.drop i).take (D7 ptB (s.drop i)),0,D7 ptB (s.drop i),0⟩) i:=by
  intro e h h2;rw [e,if_neg h,A6o,if_neg (by rw [h2];simp)]
 by_cases hlt:i+j<s.length
 ·have hd:decide (((i+j:Nat):Int)<s.length)=true:=by simp;omega
  have hg:=List.getElem?_eq_getElem hlt;have hw:IntKind.i64.wrap (((i+j:Nat):Int)+1)=((i+(j+1):Nat):Int):=by rw [w64 (by omega) (by omega)];omega
  have h1:=c_letterR s[i+j];have h2:=c_digitR s[i+j];have hst:=A6j hg he;have hlp:ptB s[i+j]=true->∃ b,DV.int IntKind.i64 ((i+(j+1):Nat):Int)=I64 ((i+b:Nat):Int)/\Sym.Sub (Sym.nil.upd 0 ⟨0,true,[I64 0,.str [],I64 0,I64 0]⟩) (Sym.nil.upd 0 ⟨0,true,[I64 0,.str [],I64 0,I64 0]⟩) /\
    Keep (fun j cc=>1<=cc/\i+j<=s.length/\j<=D7 ptB (s.drop i)) b c/\s.length-(i+b)<s.length-(i+j) :=
   fun h=>⟨j+1,rfl,Sub.refl _,inv ⟨h1c,hlt,hst.1 h⟩,by omega⟩
  have ne0:=M2 c 0 (by omega);repeat' ((with_reducible first|refine wr ?_|refine cpc h1 ?_|refine cpc h2 ?_|refine cpc hiw ?_|refine wb2 ?_ ?_<;>(intro hb;try simp only [hb])|fail)<;>try simp only [go_sem,seval,hd,hg,hw,hw2,hsx,ne0])
  ·exact hlp (by simp [ptB,hb])
  ·exact hlp (by simp [ptB,hb])
  ·exact hlp (by simp [ptB,bq_t (b:=95) hb])
  ·have hj:=hst.2 (by simp only [ptB];rw [‹ltB s[i+j]=false›, ‹dgB s[i+j]=false›];simpa using A5b (a:=s[i+j].toNat) (b:=95) (by assumption));rw [E5 (v:=S6 9 i) rfl];exact A8 (hR9 hj (gt_t hb))
  ·have hj:=hst.2 (by simp only [ptB];rw [‹ltB s[i+j]=false›, ‹dgB s[i+j]=false›];simpa using A5b (a:=s[i+j].toNat) (b:=95) (by assumption));rw [E5 (v:=okN 2 ((s.drop i).take j) 0 i j) rfl];exact A8 (hRw hj (A7q (a:=j) (b:=12) (by assumption)) hb)
  ·have hj:=hst.2 (by simp only [ptB];rw [‹ltB s[i+j]=false›, ‹dgB s[i+j]=false›];simpa using A5b (a:=s[i+j].toNat) (b:=95) (by assumption));rw [E5 (v:=okN 1 ((s.drop i).take j) 0 i j) rfl];exact A8 (hRn hj (A7q (a:=j) (b:=12) (by assumption)) hb)
 ·have hd:decide (((i+j:Nat):Int)<s.length)=false:=by simp;omega
  have hj:=A3p (p:=ptB) (s:=s) (by omega) he;have ne0:=M2 c 0 (by omega);repeat' ((with_reducible first|refine wr ?_|refine cpc hiw ?_|refine wb2 ?_ ?_<;>(intro hb;try simp only [hb])|fail)<;>try simp only [go_sem,seval,hd,hw2,hsx,ne0])
  ·rw [E5 (v:=S6 9 i) rfl];exact A8 (hR9 hj (gt_t hb))
  ·rw [E5 (v:=okN 2 ((s.drop i).take j) 0 i j) rfl];exact A8 (hRw hj (A7q (a:=j) (b:=12) (by assumption)) hb)
  ·rw [E5 (v:=okN 1 ((s.drop i).take j) 0 i j) rfl];exact A8 (hRn hj (A7q (a:=j) (b:=12) (by assumption)) hb)
theorem c_numberR (s:List UInt8) (hs:s.length<=1000000000) (i:Nat) (hi:i<s.length) (hl:ltB s[i]=false) (hg0:dgB s[i]=true):PC Tryz.prog 111 [.str s,I64 i] (nxR (C6 (s.drop i)) i):=by
 have hM:C6 (s.drop i)=if 1<D7 dgB (s.drop i)/\s[i].toNat=48 then nxE 47
   else if 2147483647<Z4 ((s.drop i).take (D7 dgB (s.drop i))) then nxE 5
   else ⟨3,[],(Z4 ((s.drop i).take (D7 dgB (s.drop i))):Int),D7 dgB (s.drop i),0⟩:=by
  have hdr:=L1 (List.getElem?_eq_getElem hi);have:∀ r,s.drop i=s[i] :: r->C6 (s.drop i)=if 1<D7 dgB (s.drop i)/\s[i].toNat=48 then nxE 47
   else if 2147483647<Z4 ((s.drop i).take (D7 dgB (s.drop i))) then nxE 5
   else ⟨3,[],(Z4 ((s.drop i).take (D7 dgB (s.drop i))):Int),D7 dgB (s.drop i),0⟩:=by
   intro r e;rw [e,C6,if_neg (by rw [hl];simp),if_pos hg0]
  exact this _ hdr
 have hle:=V9 dgB (s.drop i);rw [List.length_drop] at hle;obtain ⟨D,hD⟩:∃ D,D=s.drop i:=⟨_,rfl⟩;refine PC.of A9 isU111 (Nat.le_of_ble_eq_true rfl) rfl (nxR_nl _ _) ?_;show IW Tryz.prog 58 u111_1 ⟨B6 _,_,_⟩ (rt [.cell 4 4 true,.tmp 5,.tmp 6] _);repeat' ((with_reducible apply wr)<;>try simp only [go_sem,seval])
 refine C2 (fun j:Nat=>[(0,.str s),(1,I64 i),(4,.ptr 0 0),(7,I64 ((i+j:Nat):Int)),(8,I64 (smV (D.take j))),(9,.bool (B0j (D.take j)))]) (fun _=>Sym.nil.upd 0 ⟨0,true,[I64 0,.str [],I64 0,I64 0]⟩) (fun j _=>i+j<=s.length/\j<=D7 dgB (s.drop i)) (fun j=>s.length-(i+j)) 0 (by simp [C1,tm,Tm.upd,smV,B0j,Z4]) (Sub.refl _) (by simp;omega) ?_;rintro j c ⟨hk,he⟩;have hw2:IntKind.i64.wrap (((i+j:Nat):Int)-i)=(j:Int):=by rw [w64 (by omega) (by omega)];omega
 have hgi:=List.getElem?_eq_getElem hi;have hRz:D7 dgB (s.drop i)=j->1<j->s[i].toNat=48->S6 47 i=nxR (C6 (s.drop i)) i:=by
  intro e h h2;rw [hM,e,if_pos ⟨h,h2⟩,A2v (by decide)]
 have hRb:D7 dgB (s.drop i)=j->¬ (1<j/\s[i].toNat=48)->B0j (D.take j)=true->S6 5 i=nxR (C6 (s.drop i)) i:=by
  intro e h h2;rw [hM,e,if_neg h, <- hD,if_pos (of_decide_eq_true h2),A2v (by decide)]
 have hRk:D7 dgB (s.drop i)=j->¬ (1<j/\s[i].toNat=48)->B0j (D.take j)=false->okN 3 [] (smV (D.take j)) i j=nxR (C6 (s.drop i)) i:=by
  intro e h h2;have h3:=of_decide_eq_false h2;rw [hM,e,if_neg h, <- hD,if_neg h3,A6o,smV_f h3]
 by_cases hlt:i+j<s.length
 ·have hd:decide (((i+j:Nat):Int)<s.length)=true:=by simp;omega
  have hg:=List.getElem?_eq_getElem hlt;have hw:IntKind.i64.wrap (((i+j:Nat):Int)+1)=((i+(j+1):Nat):Int):=by rw [w64 (by omega) (by omega)];omega
  have h2:=c_digitR s[i+j];have hst:=A6j hg he;by_cases hdg:dgB s[i+j]=true
  ·rw [hdg] at h2;have hgD:D[j]? = some s[i+j]:=by rw [hD,List.getElem?_drop];exact hg
   have hn:=numV_step hgD;have hdd:48<=s[i+j].toNat/\s[i+j].toNat<=57:=by simpa [dgB] using hdg
   obtain ⟨z,hz⟩:∃ z:Nat,z=s[i+j].toNat-48:=⟨_,rfl⟩;rw [<- hz] at hn;have w1:IntKind.i64.wrap (10 * (smV (D.take j):Int))=((10 * smV (D.take j):Nat):Int):=by have:=smV_le (D.take j);rw [w64 (by omega) (by omega)];omega
   have w2:IntKind.u8.wrap ((s[i+j].toNat:Int)-48)=(z:Int):=by rw [wu8 (by omega) (by omega)];omega
   have w3:IntKind.i64.wrap (z:Int)=(z:Int):=w64 (by omega) (by omega);have w4:IntKind.i64.wrap (((10 * smV (D.take j):Nat):Int)+z)=((10 * smV (D.take j)+z:Nat):Int):=by have:=smV_le (D.take j);rw [w64 (by omega) (by omega)];omega
   by_cases hbg:2147483647<Z4 (D.take j)
   ·have hb1:B0j (D.take j)=true:=decide_eq_true hbg;have e1:B0j (D.take (j+1))=true:=decide_eq_true (by omega);have e2:smV (D.take (j+1))=0:=smV_t (by omega);rw [hb1];repeat' ((with_reducible first|apply wr|refine cpc h2 ?_|fail)<;>try simp only [go_sem,seval,hd,hg,hw,w1,w2,w3,w4])
    exact ⟨j+1,⟨rfl,by rw [e2];rfl,by rw [e1]⟩,Sub.refl _,inv ⟨hlt,hst.1 hdg⟩,by omega⟩
   ·have hb1:B0j (D.take j)=false:=decide_eq_false hbg;have hs1:=smV_f hbg;rw [hb1];by_cases hbn:2147483647<Z4 (D.take (j+1))
    ·have e1:B0j (D.take (j+1))=true:=decide_eq_true hbn;have e2:smV (D.take (j+1))=0:=smV_t hbn;have hd5:decide (((10 * smV (D.take j)+z:Nat):Int)>2147483647)=true:=by simp only [decide_eq_true_eq];omega
     repeat' ((with_reducible first|apply wr|refine cpc h2 ?_|fail)<;>try simp only [go_sem,seval,hd,hg,hw,w1,w2,w3,w4,hd5])
     exact ⟨j+1,⟨rfl,by rw [e2];rfl,by rw [e1]⟩,Sub.refl _,inv ⟨hlt,hst.1 hdg⟩,by omega⟩
    ·have e1:B0j (D.take (j+1))=false:=decide_eq_false hbn;have e2:smV (D.take (j+1))=10 * smV (D.take j)+z:=by rw [smV_f hbn,hn,hs1]
     have hd5:decide (((10 * smV (D.take j)+z:Nat):Int)>2147483647)=false:=by simp only [decide_eq_false_iff_not];omega
     repeat' ((with_reducible first|apply wr|refine cpc h2 ?_|fail)<;>try simp only [go_sem,seval,hd,hg,hw,w1,w2,w3,w4,hd5])
     exact ⟨j+1,⟨rfl,by rw [e2],by rw [e1]⟩,Sub.refl _,inv ⟨hlt,hst.1 hdg⟩,by omega⟩
  ·have hdg0:dgB s[i+j]=false:=by simpa using hdg
   rw [hdg0] at h2;have hj:=hst.2 hdg0;repeat' ((with_reducible first|refine wr ?_|refine cpc h2 ?_|refine wb2 ?_ ?_<;>(intro hb;try simp only [hb])|fail)<;>try simp only [go_sem,seval,hd,hg,hw2,hgi])
   ·rw [E5 (v:=S6 47 i) rfl];exact A8 (hRz hj (gt_t hb) (bq_t (b:=48) (by assumption)))
   ·rw [E5 (v:=S6 5 i) rfl];exact A8 (hRb hj (fun h=>A7q (a:=j) (b:=1) (by assumption) h.1) hb)
   ·rw [E5 (v:=okN 3 [] (smV (D.take j)) i j) rfl];exact A8 (hRk hj (fun h=>A7q (a:=j) (b:=1) (by assumption) h.1) hb)
   ·rw [E5 (v:=S6 5 i) rfl];exact A8 (hRb hj (fun h=>A5b (b:=48) (by assumption) h.2) hb)
   ·rw [E5 (v:=okN 3 [] (smV (D.take j)) i j) rfl];exact A8 (hRk hj (fun h=>A5b (b:=48) (by assumption) h.2) hb)
 ·have hd:decide (((i+j:Nat):Int)<s.length)=false:=by simp;omega
  have hj:=A3p (p:=dgB) (s:=s) (by omega) he;repeat' ((with_reducible first|refine wr ?_|refine wb2 ?_ ?_<;>(intro hb;try simp only [hb])|fail)<;>try simp only [go_sem,seval,hd,hw2,hgi])
  ·rw [E5 (v:=S6 47 i) rfl];exact A8 (hRz hj (gt_t hb) (bq_t (b:=48) (by assumption)))
  ·rw [E5 (v:=S6 5 i) rfl];exact A8 (hRb hj (fun h=>A7q (a:=j) (b:=1) (by assumption) h.1) hb)
  ·rw [E5 (v:=okN 3 [] (smV (D.take j)) i j) rfl];exact A8 (hRk hj (fun h=>A7q (a:=j) (b:=1) (by assumption) h.1) hb)
  ·rw [E5 (v:=S6 5 i) rfl];exact A8 (hRb hj (fun h=>A5b (b:=48) (by assumption) h.2) hb)
  ·rw [E5 (v:=okN 3 [] (smV (D.take j)) i j) rfl];exact A8 (hRk hj (fun h=>A5b (b:=48) (by assumption) h.2) hb)
theorem c_quotedR (s:List UInt8) (hs:s.length<=100000) (i:Nat) (hi:i<s.length):PC Tryz.prog 112 [.str s,I64 i] (quR i (quA [] (i+1) (quM (s.drop (i+1))))):=by
 refine PC.of A9 isU112 (Nat.le_of_ble_eq_true rfl) rfl (quR_nl _ _) ?_;show IW Tryz.prog 76 u112_1 ⟨B6 _,_,_⟩ (rt [.cell 4 4 true,.tmp 5,.tmp 6] _);have hw0:IntKind.i64.wrap ((i:Int)+1)=((i+1:Nat):Int):=by rw [w64 (by omega) (by omega)];omega
 repeat' ((with_reducible apply wr)<;>try simp only [go_sem,seval,hw0])
 refine C2 (fun q:Nat × Option Nat × List UInt8=>[(0,.str s),(1,I64 i),(4,.ptr 0 0),(7,B5 q.2.1 q.2.2.length),(8,I64 q.1)]) (fun q=>C4 (Sym.nil.upd 0 box4) q.2.1 ⟨1,true,bytesC q.2.2⟩)
  (fun q c=>1<=c/\i+1<=q.1/\q.2.2.length<=q.1/\q.1<=s.length+1/\(q.2.1=none->q.2.2=[])/\(∀ i,q.2.1=some i->1<=i/\i<c)/\quA [] (i+1) (quM (s.drop (i+1)))=quA q.2.2 q.1 (quM (s.drop q.1))) (fun q=>s.length+1-q.1) (i+1,none,[])
  (by simp [C1,tm,Tm.upd,B5]) (Sub.refl _) ⟨by simp,by simp,by simp,by simp only;omega,fun _=>rfl,(fun i hi=>by cases hi),rfl⟩ ?_
 rintro ⟨k,o,acc⟩ c ⟨h1c,h1,hal,hk,hno,ho,he⟩;simp only at h1 hal hk hno ho he;simp only;rw [he];have hH0:C4 (Sym.nil.upd 0 box4) o ⟨1,true,bytesC acc⟩ 0=some ⟨0,true,[I64 0,.str [],I64 0,I64 0]⟩:=by rw [C9 (fun i hi=>by have:=ho i hi;omega),A0];rfl
 have hlt0:=A3x (o:=o) (n:=acc.length) (fun e=>by rw [hno e];rfl);by_cases hlt:k<s.length
 ·have hd:decide ((k:Int)<s.length)=true:=by simpa using hlt
  have hg:=List.getElem?_eq_getElem hlt;have hw:IntKind.i64.wrap ((k:Int)+1)=((k+1:Nat):Int):=by rw [w64 (by omega) (by omega)];omega
  have hw2:IntKind.i64.wrap (((k+1:Nat):Int)+1)=((k+2:Nat):Int):=by rw [w64 (by omega) (by omega)];omega
  have hcv:=r_cvtodo (H:=C4 (Sym.nil.upd 0 box4) o ⟨1,true,bytesC acc⟩) (u:=1) hno (fun i hi=>by subst hi;exact A0);have hc0:∀ n:Nat,((s[k].toNat:Int) == (n:Int))=true->s[k].toNat=n:=fun n h=>by have:=beq_iff_eq.1 h;omega
  have hc1:∀ n:Nat,((s[k].toNat:Int) == (n:Int))=false->s[k].toNat≠n:=fun n h h2=>by rw [h2] at h;simp at h
  by_cases hlt2:k+1<s.length
  ·have hd2:decide (((k+1:Nat):Int)≥s.length)=false:=by simp;omega
   have hg2:=List.getElem?_eq_getElem hlt2;have hc2:∀ n:Nat,((s[k+1].toNat:Int) == (n:Int))=true->s[k+1].toNat=n:=fun n h=>by have:=beq_iff_eq.1 h;omega
   have hc3:∀ n:Nat,((s[k+1].toNat:Int) == (n:Int))=false->s[k+1].toNat≠n:=fun n h h2=>by rw [h2] at h;simp at h
   have ne0:=R8 c (c+1) 0 (by omega);have hap:=r_apbyte (X:=Sym.nil.upd 0 box4) hno (fun i hi=>(ho i hi).2) (by omega);repeat' ((with_reducible first|refine wr ?_|refine wb2 ?_ ?_<;>(intro hb;try simp only [hb])|fail)<;>try simp only [go_sem,seval,hd,hg,hw,hcv,hlt0,hd2,hg2,hw2,ne0,hap,hH0])
   ·rw [E5 (v:=S6 9 i) rfl];refine A8 ?_;rw [A2t hg (hc0 34 (by assumption)),quR,if_pos (gt_t hb)]
   ·rw [E5 (v:=.tup [.agg [I64 4,.str acc,I64 0,I64 i],I64 ((k+1:Nat):Int),I64 0]) rfl];refine A8 ?_;rw [A2t hg (hc0 34 (by assumption)),quR,if_neg (A7q hb)]
   ·rw [E5 (v:=S6 48 i) rfl];refine A8 ?_;rw [A9k hg (hc1 34 (by assumption)) (.inl (by have:=of_decide_eq_true hb;omega))];rfl
   ·rw [E5 (v:=S6 48 i) rfl];refine A8 ?_;rw [A9k hg (hc1 34 (by assumption)) (.inr (by have:=of_decide_eq_true hb;omega))];rfl
   ·rw [E5 (v:=S6 48 i) rfl];refine A8 ?_;rw [qu_esc0 hg (hc0 92 (by assumption)) (fun d hd=>by
     rw [hg2] at hd;cases hd;exact ⟨bn_t (b:=34) (by assumption),bn_t (b:=92) hb⟩)];rfl
   ·have hq:=qu_esc (acc:=acc) hg (hc0 92 (by assumption)) hg2 (.inr (bn_f (b:=92) hb));exact ⟨(k+2,some (c+1),acc++[s[k+1]]),⟨by simp only [List.length_append,List.length_singleton];rfl,rfl⟩,A5j (fun j q=>A5h h1c) (fun i hi=>A5g (by have:=ho i hi;omega)) rfl,inv ⟨by omega,by simp only;omega,by simp;omega,by simp only;omega,(fun h=>by cases h),(fun i hi=>by cases hi;omega),hq⟩,by simp only;omega⟩
   ·have hq:=qu_esc (acc:=acc) hg (hc0 92 (by assumption)) hg2 (.inl (bn_f (b:=34) hb));exact ⟨(k+2,some (c+1),acc++[s[k+1]]),⟨by simp only [List.length_append,List.length_singleton];rfl,rfl⟩,A5j (fun j q=>A5h h1c) (fun i hi=>A5g (by have:=ho i hi;omega)) rfl,inv ⟨by omega,by simp only;omega,by simp;omega,by simp only;omega,(fun h=>by cases h),(fun i hi=>by cases hi;omega),hq⟩,by simp only;omega⟩
   ·have hq:=qu_char (acc:=acc) hg (hc1 34 (by assumption)) (by have:=of_decide_eq_false (by assumption:decide (((s[k].toNat:Int))<32)=false);omega) (by have:=of_decide_eq_false (by assumption:decide (((s[k].toNat:Int))>126)=false);omega) (hc1 92 (by assumption));exact ⟨(k+1,some (c+1),acc++[s[k]]),⟨by simp only [List.length_append,List.length_singleton];rfl,rfl⟩,A5j (fun j q=>A5h h1c) (fun i hi=>A5g (by have:=ho i hi;omega)) rfl,inv ⟨by omega,by simp only;omega,by simp;omega,by simp only;omega,(fun h=>by cases h),(fun i hi=>by cases hi;omega),hq⟩,by simp only;omega⟩
  ·have hd2:decide (((k+1:Nat):Int)≥s.length)=true:=by simp;omega
   have ne0:=R8 c (c+1) 0 (by omega);have hap:=r_apbyte (X:=Sym.nil.upd 0 box4) hno (fun i hi=>(ho i hi).2) (by omega);repeat' ((with_reducible first|refine wr ?_|refine wb2 ?_ ?_<;>(intro hb;try simp only [hb])|fail)<;>try simp only [go_sem,seval,hd,hg,hw,hcv,hlt0,hd2,ne0,hap,hH0])
   ·rw [E5 (v:=S6 9 i) rfl];refine A8 ?_;rw [A2t hg (hc0 34 (by assumption)),quR,if_pos (gt_t hb)]
   ·rw [E5 (v:=.tup [.agg [I64 4,.str acc,I64 0,I64 i],I64 ((k+1:Nat):Int),I64 0]) rfl];refine A8 ?_;rw [A2t hg (hc0 34 (by assumption)),quR,if_neg (A7q hb)]
   ·rw [E5 (v:=S6 48 i) rfl];refine A8 ?_;rw [A9k hg (hc1 34 (by assumption)) (.inl (by have:=of_decide_eq_true hb;omega))];rfl
   ·rw [E5 (v:=S6 48 i) rfl];refine A8 ?_;rw [A9k hg (hc1 34 (by assumption)) (.inr (by have:=of_decide_eq_true hb;omega))];rfl
   ·rw [E5 (v:=S6 48 i) rfl];refine A8 ?_;rw [qu_esc0 hg (hc0 92 (by assumption)) (fun d hd=>by rw [List.getElem?_eq_none (by omega)] at hd;cases hd)];rfl
   ·have hq:=qu_char (acc:=acc) hg (hc1 34 (by assumption)) (by have:=of_decide_eq_false (by assumption:decide (((s[k].toNat:Int))<32)=false);omega) (by have:=of_decide_eq_false (by assumption:decide (((s[k].toNat:Int))>126)=false);omega) (hc1 92 (by assumption));exact ⟨(k+1,some (c+1),acc++[s[k]]),⟨by simp only [List.length_append,List.length_singleton];rfl,rfl⟩,A5j (fun j q=>A5h h1c) (fun i hi=>A5g (by have:=ho i hi;omega)) rfl,inv ⟨by omega,by simp only;omega,by simp;omega,by simp only;omega,(fun h=>by cases h),(fun i hi=>by cases hi;omega),hq⟩,by simp only;omega⟩
 ·have hd:decide ((k:Int)<s.length)=false:=by simpa using hlt
  have ne0:=M2 c 0 (by omega);repeat' ((with_reducible apply wr)<;>try simp only [go_sem,seval,hd,ne0,hH0])
  rw [E5 (v:=S6 48 i) rfl];refine A8 ?_;rw [qu_end (by omega)];rfl
theorem c_oneR (s:List UInt8) (hs:s.length<=100000) (i:Nat) (hi:i<s.length):PC Tryz.prog 71 [.str s,I64 i] (nxR (C6 (s.drop i)) i):=by
 refine PC.of A9 isU71 (Nat.le_of_ble_eq_true rfl) rfl (nxR_nl _ _) ?_;show IW Tryz.prog 83 u71_1 ⟨B6 _,_,_⟩ (rt [.cell 4 4 true,.tmp 5,.tmp 6] _);have hg:=List.getElem?_eq_getElem hi;have hlt:=c_letterR s[i];have hdg:=c_digitR s[i];obtain ⟨k,t,v,p,n,e,hsh⟩:=nxR_shape (C6 (s.drop i)) i;by_cases hl:ltB s[i]=true
 ·have hw:=c_wordR s (by omega) i hi hl;rw [hsh] at hw ⊢;repeat' ((with_reducible first|apply wr|refine cpc hlt ?_|refine cpc hw ?_|fail)<;>try simp only [go_sem,seval,hl,hg])
  rw [E5 (v:=.tup [.agg [I64 k,.str t,I64 v,I64 p],I64 n,I64 e]) rfl];exact A8 rfl
 have hl0:ltB s[i]=false:=by simpa using hl
 by_cases hd:dgB s[i]=true
 ·have hw:=c_numberR s (by omega) i hi hl0 hd;rw [hsh] at hw ⊢;repeat' ((with_reducible first|apply wr|refine cpc hlt ?_|refine cpc hdg ?_|refine cpc hw ?_|fail)<;>try simp only [go_sem,seval,hl0,hd,hg])
  rw [E5 (v:=.tup [.agg [I64 k,.str t,I64 v,I64 p],I64 n,I64 e]) rfl];exact A8 rfl
 have hd0:dgB s[i]=false:=by simpa using hd
 by_cases hq:s[i].toNat=34
 ·have hw:=c_quotedR s hs i hi;rw [quR_next hg hl0 hd0 hq,hsh] at hw;rw [hsh];have hb34:((s[i].toNat:Int) == 34)=true:=by rw [hq];rfl
  repeat' ((with_reducible first|apply wr|refine cpc hlt ?_|refine cpc hdg ?_|refine cpc hw ?_|fail)<;>try simp only [go_sem,seval,hl0,hd0,hg,hb34])
  rw [E5 (v:=.tup [.agg [I64 k,.str t,I64 v,I64 p],I64 n,I64 e]) rfl];exact A8 rfl
 clear hsh;have hb34:((s[i].toNat:Int) == 34)=false:=by simpa using (fun h=>hq (by omega))
 have hM:C6 (s.drop i)=if M5 (s.drop i)=0 then nxE 47 else ⟨5,(s.drop i).take (M5 (s.drop i)),0,M5 (s.drop i),0⟩:=by
  have hdr:=L1 hg;have:∀ r,s.drop i=s[i] :: r->C6 (s.drop i)=if M5 (s.drop i)=0 then nxE 47 else ⟨5,(s.drop i).take (M5 (s.drop i)),0,M5 (s.drop i),0⟩:=by
   intro r e;rw [e,C6,if_neg hl,if_neg hd,if_neg hq]
  exact this _ hdr
 rw [hM];have hsg:=c_signsR;repeat' ((with_reducible first|apply wr|refine cpc hlt ?_|refine cpc hdg ?_|refine cpc hsg ?_|fail)<;>try simp only [go_sem,seval,hl0,hd0,hg,hb34])
 have hlen:O6.length=21:=rfl;refine C2 (fun k:Nat=>[(0,.str s),(1,I64 i),(4,.ptr 0 0),(8,.lst (O6.map DV.str)),(9,I64 k)]) (fun _=>Sym.nil.upd 0 ⟨0,true,[I64 0,.str [],I64 0,I64 0]⟩) (fun k _=>k<=O6.length/\∀ j,j<k->A4a (O6.getD j []) (s.drop i)=false) (fun k=>O6.length-k) 0 (by simp [C1,tm,Tm.upd]) (Sub.refl _) (by simp) ?_;rintro k c ⟨hk,he⟩;by_cases hkl:k<O6.length
 ·have hd:decide ((k:Int)<O6.length)=true:=by simpa using hkl
  have hgk:=List.getElem?_eq_getElem hkl;have hget:O6.getD k []=O6[k]:=by rw [List.getD_eq_getElem?_getD,hgk];rfl
  have hw:IntKind.i64.wrap ((k:Int)+1)=((k+1:Nat):Int):=by rw [w64 (by omega) (by omega)];omega
  obtain ⟨L,hL⟩:∃ L,L=O6[k]:=⟨_,rfl⟩;rw [<- hL] at hgk hget;have hLl:1<=L.length/\L.length<=2:=by
   have:∀ x∈O6,1<=x.length/\x.length<=2:=by decide
   rw [hL];exact this _ (List.getElem_mem hkl)
  have hw1:IntKind.i64.wrap ((s.length:Int)-i)=((s.length-i:Nat):Int):=by rw [w64 (by omega) (by omega)];omega
  have hw2:IntKind.i64.wrap ((i:Int)+L.length)=((i+L.length:Nat):Int):=by rw [w64 (by omega) (by omega)];omega
  have hnext:A4a L (s.drop i)=false->Keep (fun k _=>k<=O6.length/\∀ j,j<k->A4a (O6.getD j []) (s.drop i)=false) (k+1) c:=fun h=>inv ⟨hkl,fun j hj=>by
   by_cases e:j=k
   ·rw [e,hget];exact h
   ·exact he j (by omega)⟩
  by_cases hln:L.length<=s.length-i
  ·have hd2:decide (((s.length-i:Nat):Int)≥L.length)=true:=by simp only [decide_eq_true_eq];omega
   have hsx:=slx_take (s:=s) (i:=i) (n:=L.length) (by omega);have hpr:A4a L (s.drop i)=((s.drop i).take L.length == L):=by
    unfold A4a;rw [decide_eq_true (by rw [List.length_drop];exact hln),Bool.true_and]
   repeat' ((with_reducible first|refine wr ?_|refine wb2 ?_ ?_<;>(intro hb;try simp only [hb])|fail)<;>try simp only [go_sem,seval,hd,hgk,hw,hw1,hw2,hd2,hsx])
   ·have hp:=hpr.trans hb;have:=sgn_found (s:=s.drop i) (k:=k) (by omega) he (by rw [hget];exact hp);rw [hget] at this;rw [E5 (v:=okN 5 L 0 i L.length) rfl];refine A8 ?_;rw [this.1,if_neg (by omega),A6o, <- this.2]
   ·exact ⟨k+1,rfl,Sub.refl _,hnext (hpr.trans hb),by omega⟩
  ·have hd2:decide (((s.length-i:Nat):Int)≥L.length)=false:=by simp only [decide_eq_false_iff_not];omega
   repeat' ((with_reducible apply wr)<;>try simp only [go_sem,seval,hd,hgk,hw,hw1,hd2])
   exact ⟨k+1,rfl,Sub.refl _,hnext (by unfold A4a;rw [decide_eq_false (by rw [List.length_drop];exact hln),Bool.false_and]),by omega⟩
 ·have hd:decide ((k:Int)<O6.length)=false:=by simpa using hkl
  repeat' ((with_reducible apply wr)<;>try simp only [go_sem,seval,hd])
  rw [E5 (v:=S6 47 i) rfl];refine A8 ?_;rw [if_pos (sgn_none fun j hj=>he j (by omega)),A2v (by decide)]
theorem c_ScanR (s:List UInt8) (hs:s.length<=1000000000):PC Tryz.prog 36 [.str s] (scanV (C8 s)):=by
 refine PC.of A9 isU36 (Nat.le_of_ble_eq_true rfl) rfl (scanV_nl _) ?_;show IW Tryz.prog 39 u36_1 ⟨B6 _,_,_⟩ (rt [.tmp 2,.tmp 3,.tmp 4] _);have hsk:=c_skipR s hs 0 (by omega);rw [List.drop_zero,Nat.zero_add] at hsk;by_cases h20:20000<s.length
 ·have hd0:decide ((s.length:Int)>20000)=true:=by simp;omega
  have hM:C8 s=([],0,9):=if_pos h20;rw [hM];repeat' ((with_reducible apply wr)<;>try simp only [go_sem,seval,hd0])
  exact scan_nil
 have hd0:decide ((s.length:Int)>20000)=false:=by simp;omega
 have hM:C8 s=O7 (s.length+1) s (skM false s) []:=if_neg h20;rw [hM];have hle0:=Z0 false s;repeat' ((with_reducible first|apply wr|refine cpc hsk ?_|fail)<;>try simp only [go_sem,seval,hd0])
 refine C2 (fun q:Nat × Nat × Option Nat × List Tok=>[(0,.str s),(5,B5 q.2.2.1 q.2.2.2.length),(6,I64 q.2.1)]) (fun q=>C4 Sym.nil q.2.2.1 ⟨4,true,A5 (q.2.2.2.map Tok.v)⟩)
  (fun q c=>q.2.1<=s.length/\s.length<q.1+q.2.1/\q.2.2.2.length<=q.2.1/\(q.2.2.1=none->q.2.2.2=[])/\(∀ i,q.2.2.1=some i->i<c)/\O7 (s.length+1) s (skM false s) []=O7 q.1 s q.2.1 q.2.2.2) (fun q=>q.1) (s.length+1,skM false s,none,[])
  (by simp [C1,tm,Tm.upd,B5]) (Sub.nil _) ⟨by simp only;omega,by simp only;omega,by simp,fun _=>rfl,(fun i hi=>by cases hi),rfl⟩ ?_
 rintro ⟨f,at_,o,acc⟩ c ⟨h1,hf,hal,hno,ho,he⟩;simp only at h1 hf hal hno ho he;simp only;rw [he];by_cases hlt:at_<s.length
 ·have hd:decide ((at_:Int)<s.length)=true:=by simpa using hlt
  have hnx:=c_oneR s (by omega) at_ hlt;obtain ⟨f,rfl⟩:∃ g,f=g+1:=⟨f-1,by omega⟩;by_cases hz:(C6 (s.drop at_)).err=0
  ·have hn:=A9s hz;rw [List.length_drop] at hn;have hst:O7 (f+1) s at_ acc=O7 f s (at_+(C6 (s.drop at_)).n+skM false (s.drop (at_+(C6 (s.drop at_)).n))) (acc++[⟨(C6 (s.drop at_)).kind,(C6 (s.drop at_)).text,(C6 (s.drop at_)).value,(at_:Int)⟩]):=by
    rw [O7,if_neg (by omega),if_neg (by simpa using hz)]
   rw [hst];obtain ⟨x,hx⟩:∃ x,x=C6 (s.drop at_):=⟨_,rfl⟩;rw [<- hx] at hnx hz hn ⊢;rw [nxR,if_pos hz,okN] at hnx;have hsk2:=c_skipR s hs (at_+x.n) (by omega);have hkl:=Z0 false (s.drop (at_+x.n));rw [List.length_drop] at hkl;obtain ⟨z,hzz⟩:∃ z,z=skM false (s.drop (at_+x.n)):=⟨_,rfl⟩;rw [<- hzz] at hsk2 hkl ⊢;have ne0:=R8 c (c+1) (c+2) (by omega);repeat' ((with_reducible first|apply wr|refine cpc hnx ?_|refine cpc hsk2 ?_|fail)<;>try simp only [go_sem,seval,hd,ne0])
   refine F5 (F2 (cs:=A5 (acc.map Tok.v)) (fun e=>by rw [hno e];exact ⟨rfl,rfl⟩) (fun i hi=>?_) (by rw [B8 (u:=4) (E3 _)];simp) (by omega) (by omega) (by omega)) ?_
   ·have:=ho i hi;rw [A2 (by omega),A2 (by omega),A2 (by omega)];exact A0n hi
   simp only [go_sem,seval,ne0];repeat' ((with_reducible first|apply wr|refine cpc hnx ?_|refine cpc hsk2 ?_|fail)<;>try simp only [go_sem,seval,hd,ne0])
   exact ⟨(f,at_+x.n+z,some (c+1+1),acc++[⟨x.kind,x.text,x.value,(at_:Int)⟩]),⟨by simp only [List.length_append,List.length_singleton];rfl,rfl⟩,
    Y7 (by simp only [List.map_append,C3];rfl),inv ⟨by simp only;omega,by simp only;omega,by simp only [List.length_append,List.length_singleton];omega,(fun h=>by cases h),(fun i hi=>by cases hi;omega),rfl⟩,by simp only;omega⟩
  ·have hst:O7 (f+1) s at_ acc=([],(at_:Int),(C6 (s.drop at_)).err):=by
    rw [O7,if_neg (by omega),if_pos hz]
   rw [hst];obtain ⟨x,hx⟩:∃ x,x=C6 (s.drop at_):=⟨_,rfl⟩;rw [<- hx] at hnx hz ⊢;rw [nxR,if_neg hz,S6] at hnx;have hz':(x.err != 0)=true:=by simpa using hz
   have ne0:=M2 c (c+1) (by omega);repeat' ((with_reducible first|apply wr|refine cpc hnx ?_|fail)<;>try simp only [go_sem,seval,hd,hz',ne0])
   exact scan_nil
 ·have hd:decide ((at_:Int)<s.length)=false:=by simpa using hlt
  repeat' ((with_reducible apply wr)<;>try simp only [go_sem,seval,hd])
  have hM2:O7 f s at_ acc=(acc,0,0):=by
   cases f with
   | zero=>rfl
   | succ f=>rw [O7,if_pos (by omega)]
  rw [hM2];exact pc_todo3 (fun e=>by rw [hno e];rfl) (by simp) (E3 acc)
theorem c_IsNameR (s:List UInt8) (hs:s.length<=1000000000):PC Tryz.prog 152 [.str s] (.bool (D6 s)):=by
 refine PC.of A9 isU152 (Nat.le_of_ble_eq_true rfl) (by simp [DV.nlL,DV.nl]) (by simp [DV.nlL,DV.nl]) ?_;show IW Tryz.prog 46 u152_1 ⟨B6 _,_,_⟩ (rt [.tmp 2] _);have hw:=c_IsWordR s;cases s with
 | nil =>
  repeat' ((with_reducible apply wr)<;>try simp only [go_sem,seval])
  exact A8 rfl
 | cons c r =>
  have hx:idxR (DV.str (c :: r)) (.int .i64 0)=some (.int .u8 (c.toNat:Int)):=rfl;have hlt:=c_letterR c;have hd1:decide (((r.length+1:Nat):Int)<1)=false:=by simp;omega
  have hN:D6 (c :: r)=(decide ((r.length+1)<=12) && ltB c && decide (D7 ptB (c :: r)=r.length+1) && !G8 (c :: r)):=by
   simp [D6]
  rw [hN];have hN2:∀ b:Bool,decide (((r.length+1:Nat):Int)>12)=b->decide ((r.length+1)<=12) = !b:=by
   intro b hb;subst hb;rw [Bool.eq_iff_iff];simp;omega
  obtain ⟨dd,hdd⟩:∃ dd,dd=decide ((r.length+1)<=12):=⟨_,rfl⟩;rw [<- hdd] at hN2 ⊢;obtain ⟨ee,hee⟩:∃ ee,ee=decide (D7 ptB (c :: r)=r.length+1):=⟨_,rfl⟩;rw [<- hee];obtain ⟨ff,hff⟩:∃ ff,ff=G8 (c :: r):=⟨_,rfl⟩;rw [<- hff] at hw ⊢;repeat' ((with_reducible first|refine wr ?_|refine cpc hw ?_|refine cpc hlt ?_|refine wb2 ?_ ?_<;>(intro hb;try simp only [hb])|fail)<;>try simp only [go_sem,seval,hx,hd1])
  ·refine A8 (congrArg DV.bool ?_);rw [hN2 _ hb];rfl
  ·refine A8 (congrArg DV.bool ?_);have:ltB c=false:=by simpa using hb
   rw [this];simp
  ·refine A8 (congrArg DV.bool ?_);simp
  ·have hN3:=hN2 _ (by assumption);have hl:ltB c=true:=by simpa using (by assumption:(!ltB c)=false)
   rw [hN3,hl];refine C2 (fun k:Nat=>[(0,.str (c :: r)),(3,I64 k)]) (fun _=>nil) (fun k _=>k<=(c :: r).length/\k<=D7 ptB (c :: r)) (fun k=>(c :: r).length-k) 0 (by simp [C1,tm,Tm.upd]) (Sub.nil _) (by simp) ?_;rintro k cc ⟨hk,he⟩;have hsl:=V9 ptB (c :: r);have hS:(c :: r).length=r.length+1:=rfl;by_cases hlt2:k<(c :: r).length
   ·have hd:decide ((k:Int)<((r.length+1:Nat):Int))=true:=by simp only [decide_eq_true_eq];omega
    have hg:=List.getElem?_eq_getElem hlt2;have hw:IntKind.i64.wrap ((k:Int)+1)=((k+1:Nat):Int):=by rw [w64 (by omega) (by omega)];omega
    have hst:=A5n hg he;obtain ⟨x,hxx⟩:∃ x,x=(c :: r)[k]:=⟨_,rfl⟩;rw [<- hxx] at hg hst;have h1:=c_letterR x;have h2:=c_digitR x;obtain ⟨L,hL⟩:∃ L,L=c :: r:=⟨_,rfl⟩;have hd3:decide ((k:Int)<(L.length:Int))=true:=by rw [hL];exact hd
    rw [<- hL] at hg hst hk he hsl hee ⊢;by_cases hp:ptB x=true
    ·have hgo:∃ b,DV.int IntKind.i64 ((k+1:Nat):Int)=I64 ((b:Nat):Int)/\Sym.Sub Sym.nil Sym.nil/\Keep (fun k _=>k<=L.length/\k<=D7 ptB L) b cc/\L.length-b<L.length-k :=
      ⟨k+1,rfl,Sub.refl _,inv ⟨by rw [hL];exact hlt2,hst.1 hp⟩,by rw [hL];omega⟩
     simp only [ptB,Bool.or_eq_true,decide_eq_true_eq] at hp;repeat' ((with_reducible first|refine wr ?_|refine cpc h1 ?_|refine cpc h2 ?_|refine wb2 ?_ ?_<;>(intro hb;try simp only [hb])|fail)<;>try simp only [go_sem,seval,hd3,hg,hw])
     ·exfalso;have p1:ltB x=false:=by simpa using (by assumption:(!ltB x)=true)
      have p2:dgB x=false:=by simpa using (by assumption:(!dgB x)=true)
      have p3:=bn_t (b:=95) hb;rw [p1,p2] at hp;rcases hp with (hp|hp)|hp
      ·cases hp
      ·cases hp
      ·exact p3 hp
     ·exact hgo
     ·exact hgo
     ·exact hgo
    ·have hp':ptB x=false:=by simpa using hp
     have hj:=hst.2 hp';simp only [ptB,Bool.or_eq_false_iff,decide_eq_false_iff_not] at hp';obtain ⟨⟨q1,q2⟩,q3⟩:=hp';have q4:((x.toNat:Int) != 95)=true:=by simp;omega
     repeat' ((with_reducible first|apply wr|refine cpc h1 ?_|refine cpc h2 ?_|fail)<;>try simp only [go_sem,seval,hd3,hg,hw,q1,q2,q4])
     refine A8 (congrArg DV.bool ?_);rw [hee,hj,decide_eq_false];have:L.length=r.length+1:=by rw [hL];rfl
     have:k<L.length:=by rw [hL];exact hlt2
     omega
   ·have hd:decide ((k:Int)<((r.length+1:Nat):Int))=false:=by simp only [decide_eq_false_iff_not];omega
    repeat' ((with_reducible apply wr)<;>try simp only [go_sem,seval,hd])
    refine A8 (congrArg DV.bool ?_);rw [hee,decide_eq_true (by omega)]
end Go.Proofs.YtnmkkggfgdfmeaaGreatDoor
namespace Go.Pb
variable [Go.Sym.Tab]
open Go.Sym
def T0:Tok:=⟨0,[],0,0⟩
theorem eqa4s {g:Bool} {a b d a' b' d':Int} {s t:List UInt8}:eqaR g [0,2,0,0] (.agg [I64 a,.str s,I64 b,I64 d]) (.agg [I64 a',.str t,I64 b',I64 d'])=some (.bool (g != (a == a' && (s == t && (b == b' && d == d'))))):=by
 simp only [eqaR,P5,A4k,if_true];cases h1:a == a'<;>cases h2:s == t<;>cases h3:b == b'<;>cases h4:d == d'<;>simp
theorem A8c:∀ (f:Nat) (s:List UInt8) (k:Nat) (acc:List Tok),acc.length<=k->k<=s.length->(O7 f s k acc).1.length<=s.length
 | 0,s,k,acc,h1,h2=>by simp only [O7];omega
 | f+1,s,k,acc,h1,h2=>by
  rw [O7];split
  ·simp only;omega
  ·split
   ·simp
   ·rename_i h3 h4;have h4:(C6 (s.drop k)).err=0:=by simpa using h4
    have hn:=A9s h4;rw [List.length_drop] at hn;have hk:=Z0 false (s.drop (k+(C6 (s.drop k)).n));rw [List.length_drop] at hk;exact A8c f s _ _ (by rw [List.length_append,List.length_singleton];omega) (by omega)
theorem scanM_len (s:List UInt8):(C8 s).1.length<=s.length:=by
 unfold C8;split
 ·simp
 ·have:=Z0 false s;exact A8c _ _ _ _ (by simp) this
end Go.Pb
namespace Go.Pb
variable [Go.Sym.Tab]
open Go.Sym
def nxT (x:Nx) (p:Int):Tok:=⟨x.kind,x.text,x.value,p⟩
def A9a (s:List UInt8):Nat->List Tok->Prop
 | k,[]=>s.length<=k
 | k,t :: l=>k<s.length/\(C6 (s.drop k)).err=0/\t=nxT (C6 (s.drop k)) (k:Int)/\A9a s (k+(C6 (s.drop k)).n+skM false (s.drop (k+(C6 (s.drop k)).n))) l
theorem A4o:∀ (f:Nat) (s:List UInt8) (k:Nat) (acc:List Tok),s.length+1<=k+f->(O7 f s k acc).2.2=0->∃ l,(O7 f s k acc).1=acc++l/\A9a s k l
 | 0,s,k,acc,hf,h=>⟨[],by simp [O7],by show s.length<=k;omega⟩
 | f+1,s,k,acc,hf,h=>by
  rw [O7] at h ⊢;by_cases h1:s.length<=k
  ·rw [if_pos h1];exact ⟨[],by simp,h1⟩
  ·rw [if_neg h1] at h ⊢;by_cases h2:(C6 (s.drop k)).err=0
   ·rw [if_neg (by simpa using h2)] at h ⊢;have hn:=A9s h2;obtain ⟨l,e,hr⟩:=A4o f s _ _ (by omega) h;exact ⟨_ :: l,by rw [e,List.append_assoc];rfl,by omega,h2,rfl,hr⟩
   ·rw [if_pos h2] at h;exact absurd h h2
theorem A4p {s:List UInt8} (h:(C8 s).2.2=0):s.length<=20000/\A9a s (skM false s) (C8 s).1:=by
 unfold C8 at h ⊢;by_cases h1:20000<s.length
 ·rw [if_pos h1] at h;cases h
 ·rw [if_neg h1] at h ⊢;have:=Z0 false s;obtain ⟨l,e,hr⟩:=A4o _ s _ [] (by omega) h;rw [e];exact ⟨by omega,hr⟩
def TOk (t:Tok):Prop:=∃ s p,(C6 s).err=0/\t=nxT (C6 s) p
theorem A9a.ok {s:List UInt8}:∀ {k:Nat} {l:List Tok},A9a s k l->∀ t∈l,TOk t
 | k,[],_,t,h=>by cases h
 | k,x :: l,h,t,ht=>by
  rcases List.mem_cons.1 ht with rfl|ht
  ·exact ⟨_,_,h.2.1,h.2.2.1⟩
  ·exact A9a.ok h.2.2.2 t ht
end Go.Pb
namespace Go.Pb
variable [Go.Sym.Tab]
open Go.Sym
theorem scan_ok {s:List UInt8} (h:(C8 s).2.2=0):∀ t∈(C8 s).1,TOk t:=(A4p h).2.ok
end Go.Pb
namespace Go.Proofs.YtnmkkggfgdfmeaaGreatDoor
open Go.Eng (IC IOper DReg IFn A6 I2)
open Go.Sym Go.Pb Go.RowKit
theorem c_Dec:∀ (m:Nat) (n:Int),n.natAbs<m -> -9223372036854775808<=n->n<=9223372036854775807->PC Tryz.prog 55 [I64 n] (.str (S5 n)):=by
 intro m
 induction m with
 | zero=>intro n h;omega
 | succ m ih =>
  intro n h h1 h2;have b:=dig_u8 (d:=S0 n) (lo10_lt n);have hl:=lo10_lt n;by_cases h0:n<0
  ·have hd:decide (n<0)=true:=by simpa using h0
   have e1:=neg_div h0;have e2:=neg_mod h0;have hh:=hi10_le (n:=n) (by omega);have w1:=w64 (n := -((V6 n:Nat):Int)) (by omega) (by omega);have w2:=w64 (n:=0 - -((S0 n:Nat):Int)) (by omega) (by omega);have w3:0 - -((S0 n:Nat):Int)=(S0 n:Int):=by omega
   rw [w3] at w2;have hlen:=S4 (n := -((V6 n:Nat):Int)) (by omega) (by omega);have a0:=O8 (s:=S5 (-((V6 n:Nat):Int))) (t:=[A0j (S0 n)]) (by simp;omega);have a2:A0c (nil.upd 5 ⟨1,true,[DV.int .u8 ((A0j (S0 n)).toNat:Int)]⟩) (.slc 5 0 1)=some (.str [A0j (S0 n)]):=A7i A0 rfl rfl;have a1:=O8 (s:=[45]) (t:=[A0j (S0 n)]) (by simp);refine PC.of A9 isU55 (Nat.le_of_ble_eq_true rfl) (by simp [DV.nlL,DV.nl]) (by simp [DV.nlL,DV.nl]) ?_;show IW Tryz.prog 43 u55_1 ⟨B6 _,_,_⟩ (rt [.tmp 2] _);repeat' ((first|(with_reducible first|refine wr ?_|refine cpc (ih (-((V6 n:Nat):Int)) (by omega) (by omega) (by omega)) ?_)|(with_reducible refine wb2 ?_ ?_<;>(intro hb;try simp only [hb]))|((with_reducible refine k_val (A7i (l:=[A0j (S0 n)]) A0 rfl rfl) ?_))|fail)<;>try simp only [go_sem,seval,hd,A4q,r_quo,e1,e2,w1,w3,w2,b,a0,a1,a2])
   ·rw [decI_neg0 h0 (by simpa using hb)];exact A8 rfl
   ·rw [decI_neg h0 (by simpa using hb)];exact A8 rfl
  ·have hd:decide (n<0)=false:=by simpa using h0
   have e1:=pos_div (n:=n) (by omega);have e2:=pos_mod (n:=n) (by omega);have hh:V6 n<=n.natAbs:=by unfold V6;omega
   have w1:=w64 (n:=((V6 n:Nat):Int)) (by omega) (by omega);have hlen:=S4 (n:=((V6 n:Nat):Int)) (by omega) (by omega);have a0:=O8 (s:=S5 ((V6 n:Nat):Int)) (t:=[A0j (S0 n)]) (by simp;omega);by_cases h9:n<10
   ·have hd9:decide (n<10)=true:=by simpa using h9
    refine PC.of A9 isU55 (Nat.le_of_ble_eq_true rfl) (by simp [DV.nlL,DV.nl]) (by simp [DV.nlL,DV.nl]) ?_;show IW Tryz.prog 43 u55_1 ⟨B6 _,_,_⟩ (rt [.tmp 2] _);repeat' ((first|(with_reducible first|refine wr ?_)|((with_reducible refine k_val (A7i (l:=[A0j (S0 n)]) A0 rfl rfl) ?_))|fail)<;>try simp only [go_sem,seval,hd,hd9,A4q,r_quo,e1,e2,w1,b])
    rw [decI_lt (by omega) h9];exact A8 rfl
   ·have hd9:decide (n<10)=false:=by simpa using h9
    have hh:=hi10_le (n:=n) (by omega);refine PC.of A9 isU55 (Nat.le_of_ble_eq_true rfl) (by simp [DV.nlL,DV.nl]) (by simp [DV.nlL,DV.nl]) ?_;show IW Tryz.prog 43 u55_1 ⟨B6 _,_,_⟩ (rt [.tmp 2] _);repeat' ((first|(with_reducible first|refine wr ?_|refine cpc (ih ((V6 n:Nat):Int) (by omega) (by omega) (by omega)) ?_)|((with_reducible refine k_val (A7i (l:=[A0j (S0 n)]) A0 rfl rfl) ?_))|fail)<;>try simp only [go_sem,seval,hd,hd9,A4q,r_quo,e1,e2,w1,b,a0])
    rw [decI_ge h9];exact A8 rfl
theorem c_Dec' (n:Int) (h1 : -9223372036854775808<=n) (h2:n<=9223372036854775807):PC Tryz.prog 55 [I64 n] (.str (S5 n)):=c_Dec (n.natAbs+1) n (by omega) h1 h2
end Go.Proofs.YtnmkkggfgdfmeaaGreatDoor
namespace Go.Pb
variable [Go.Sym.Tab]
open Go.Sym
def Evt {α : Type} (g:Nat->Option α) (r : α):Prop:=∃ N, ∀ f,N<=f->g f=some r
theorem Evt.one {α : Type} {g:Nat->Option α} {r : α} (h:∀ f,g (f+1)=some r):Evt g r :=
 ⟨1,fun f hf=>by obtain ⟨k,rfl⟩:∃ k,f=k+1:=⟨f-1,by omega⟩;exact h k⟩
theorem Evt.ext {α β : Type} {g:Nat->Option α} {h:Nat->Option β} {r : α} {q : β} (hg:Evt g r) (e:∀ f,g f=some r->h (f+1)=some q):Evt h q:=by
 obtain ⟨N,hg⟩:=hg;exact ⟨N+1,fun f hf=>by obtain ⟨k,rfl⟩:∃ k,f=k+1:=⟨f-1,by omega⟩;exact e k (hg k (by omega))⟩
theorem Evt.map {α β : Type} {g:Nat->Option α} {h:Nat->Option β} {r : α} {q : β} (hg:Evt g r) (e:∀ f,g f=some r->h f=some q):Evt h q:=by
 obtain ⟨N,hg⟩:=hg;exact ⟨N,fun f hf=>e f (hg f hf)⟩
theorem Evt.and {α β : Type} {g:Nat->Option α} {h:Nat->Option β} {r : α} {q : β} (hg:Evt g r) (hh:Evt h q):Evt (fun f=>match g f,h f with|some a,some b=>some (a,b)|_,_=>none) (r,q):=by
 obtain ⟨N,hg⟩:=hg;obtain ⟨M,hh⟩:=hh;exact ⟨max N M,fun f hf=>by dsimp only;rw [hg f (by omega),hh f (by omega)]⟩
theorem Evt.ext2 {α β γ : Type} {g:Nat->Option α} {h:Nat->Option β} {k:Nat->Option γ} {r : α} {q : β} {w : γ} (hg:Evt g r) (hh:Evt h q) (e:∀ f,g f=some r->h f=some q->k (f+1)=some w):Evt k w:=by
 obtain ⟨N,hg⟩:=hg;obtain ⟨M,hh⟩:=hh;exact ⟨max N M+1,fun f hf=>by obtain ⟨j,rfl⟩:∃ j,f=j+1:=⟨f-1,by omega⟩;exact e j (hg j (by omega)) (hh j (by omega))⟩
theorem Evt.map2 {α β γ : Type} {g:Nat->Option α} {h:Nat->Option β} {k:Nat->Option γ} {r : α} {q : β} {w : γ} (hg:Evt g r) (hh:Evt h q) (e:∀ f,g f=some r->h f=some q->k f=some w):Evt k w:=by
 obtain ⟨N,hg⟩:=hg;obtain ⟨M,hh⟩:=hh;exact ⟨max N M,fun f hf=>e f (hg f (by omega)) (hh f (by omega))⟩
theorem Evt.uniq {α : Type} {g:Nat->Option α} {r q : α} (h1:Evt g r) (h2:Evt g q):r=q:=by
 obtain ⟨N,h1⟩:=h1;obtain ⟨M,h2⟩:=h2;exact Option.some.inj ((h1 (max N M) (by omega)).symm.trans (h2 (max N M) (by omega)))
theorem Evt.get {α : Type} {g:Nat->Option α} {r : α} (h:Evt g r):∃ f,g f=some r:=by
 obtain ⟨N,h⟩:=h;exact ⟨N,h N (Nat.le_refl _)⟩
section
variable {L:List Tok} {E:Int}
abbrev Bin (L:List Tok) (E n:Int) (s:Rd) (r:Ex × Rd):Prop:=Evt (fun f=>I1 L E f n s) r
abbrev Lop (L:List Tok) (E n:Int) (e:Ex) (s:Rd) (r:Ex × Rd):Prop:=Evt (fun f=>M8 L E f n e s) r
abbrev Un (L:List Tok) (E:Int) (s:Rd) (r:Ex × Rd):Prop:=Evt (fun f=>Q5 L E f s) r
theorem Bin.un {n:Int} {s:Rd} {r:Ex × Rd} (hn:5<n) (h:Un L E s r):Bin L E n s r :=
 h.ext fun f h=>by rw [I1,if_pos hn];exact h
theorem Bin.go {n:Int} {s s1:Rd} {e:Ex} {r:Ex × Rd} (hn:n<=5) (h:Bin L E (n+1) s (e,s1)) (h2:Lop L E n e s1 r):Bin L E n s r :=
 h.ext2 h2 fun f h h2=>by rw [I1,if_neg (by omega),h];exact h2
theorem Lop.stop {n:Int} {e:Ex} {s:Rd} (h:C0 L E s D2<0\/B3 (12+C0 L E s D2)≠n):Lop L E n e s (e,s) :=
 Evt.one fun f=>by rw [M8];dsimp only;rw [if_pos h]
theorem Lop.three {n:Int} {e x:Ex} {s s1:Rd} (h0:0<=C0 L E s D2) (h1:B3 (12+C0 L E s D2)=n) (hn:n=3) (hb:Bin L E (n+1) (B1 s) (x,s1)):Lop L E n e s (.mk (12+C0 L E s D2) 0 [] [e,x] (B7 L E s).pos,s1) :=
 hb.ext fun f h=>by rw [M8];dsimp only;rw [if_neg (by omega),h];dsimp only;rw [if_pos hn]
theorem Lop.more {n:Int} {e x:Ex} {s s1:Rd} {r:Ex × Rd} (h0:0<=C0 L E s D2) (h1:B3 (12+C0 L E s D2)=n) (hn:n≠3) (hb:Bin L E (n+1) (B1 s) (x,s1)) (hl:Lop L E n (.mk (12+C0 L E s D2) 0 [] [e,x] (B7 L E s).pos) s1 r):Lop L E n e s r :=
 hb.ext2 hl fun f h h2=>by rw [M8];dsimp only;rw [if_neg (by omega),h];dsimp only;rw [if_neg hn];exact h2
theorem Un.prim {s:Rd} (h:C0 L E s O3<0):Un L E s (I6 L E s) :=
 Evt.one fun f=>by rw [Q5];dsimp only;rw [if_pos h]
theorem Un.bad {s:Rd} (h:0<=C0 L E s O3) (hl:okR (C7 L E s (s.par+1) 16 50)=false):Un L E s (Ex0,C7 L E s (s.par+1) 16 50) :=
 Evt.one fun f=>by rw [Q5];dsimp only;rw [if_neg (by omega),if_pos hl]
theorem Un.par {s s3:Rd} {e:Ex} (h:C0 L E s O3=2) (hl:okR (C7 L E s (s.par+1) 16 50)=true) (hb:Bin L E 1 { s with i:=s.i+1,par:=s.par+1 } (e,s3)):Un L E s (e, { D4 L E s3 [41] with par:=(D4 L E s3 [41]).par-1 }) :=
 hb.ext fun f hf=>by
  have e0:=(G3 (by decide) hl).2.2;rw [Q5];dsimp only;rw [if_neg (by omega),if_neg (by rw [hl];decide),e0,if_pos h,hf]
theorem Un.pre {s s3:Rd} {e:Ex} (h0:0<=C0 L E s O3) (h:C0 L E s O3≠2) (hl:okR (C7 L E s (s.par+1) 16 50)=true) (hb:Un L E { s with i:=s.i+1,par:=s.par+1 } (e,s3)):Un L E s (.mk (10+C0 L E s O3) 0 [] [e] (B7 L E s).pos, { s3 with par:=s3.par-1 }) :=
 hb.ext fun f hf=>by
  have e0:=(G3 (by decide) hl).2.2;rw [Q5];dsimp only;rw [if_neg (by omega),if_neg (by rw [hl];decide),e0,if_neg h,hf]
theorem E8 {s:Rd} {x:List UInt8}:s.i<=(D4 L E s x).i:=by
 unfold D4;cases k:isR L E s x with
 | false=>rw [if_pos rfl,R4];exact Nat.le_refl _
 | true=>rw [if_neg (by simp)];exact Nat.le_succ _
theorem I3 {s:Rd} {x:Int}:s.i<=(B2 L E s x).2.i:=by
 unfold B2;cases k:I9 L E s x with
 | false=>rw [if_pos rfl];show s.i<=(K5 L E s).i;rw [R4];exact Nat.le_refl _
 | true=>rw [if_neg (by simp)];exact Nat.le_succ _
theorem prim_ge {s:Rd}:s.i<=(I6 L E s).2.i:=by
 unfold I6;dsimp only;have h2:(C7 L E { s with ops:=s.ops+1 } (s.ops+1) 32 9).i=s.i:=F6;have h3:(B1 (C7 L E { s with ops:=s.ops+1 } (s.ops+1) 32 9)).i=s.i+1:=by show (C7 L E { s with ops:=s.ops+1 } (s.ops+1) 32 9).i+1=_;rw [h2]
 split
 ·show s.i<=(K5 L E s).i;rw [R4];exact Nat.le_refl _
 ·split
  ·show s.i<=(C7 L E { s with ops:=s.ops+1 } (s.ops+1) 32 9).i;rw [h2];exact Nat.le_refl _
  ·have:=I3 (L:=L) (E:=E) (s:=B1 (C7 L E { s with ops:=s.ops+1 } (s.ops+1) 32 9)) (x:=1);repeat' split
   all_goals (first|(show s.i<=(B2 L E _ 1).2.i;omega)|(show s.i<=(B1 _).i;omega))
theorem ET.all:∀ (m:Nat),(∀ s:Rd,L.length-s.i<=m->∃ r,Un L E s r/\s.i<=r.2.i)/\(∀ (n:Int) e (s:Rd),n<=5->1<=n->L.length-s.i<=m->∃ r,Lop L E n e s r/\s.i<=r.2.i)/\(∀ (n:Int) (s:Rd),1<=n->L.length-s.i<=m->∃ r,Bin L E n s r/\s.i<=r.2.i):=by
 intro m
 induction m using Nat.strongRecOn with
 | _ m ih =>
  have A:∀ s:Rd,L.length-s.i<=m->∃ r,Un L E s r/\s.i<=r.2.i:=by
   intro s hs;by_cases hk:C0 L E s O3<0
   ·exact ⟨_,Un.prim hk,prim_ge⟩
   ·obtain ⟨-,hi, -⟩:=G5 (show 0<=C0 L E s O3 by omega);cases hl:okR (C7 L E s (s.par+1) 16 50) with
    | false=>exact ⟨_,Un.bad (by omega) hl,by show s.i<=(C7 L E s (s.par+1) 16 50).i;rw [F6];exact Nat.le_refl _⟩
    | true =>
     by_cases h2:C0 L E s O3=2
     ·obtain ⟨⟨e,s3⟩,hb,hge⟩:=(ih (m-1) (by omega)).2.2 1 { s with i:=s.i+1,par:=s.par+1 } (by decide) (by show L.length-(s.i+1)<=m-1;omega);refine ⟨_,Un.par h2 hl hb,?_⟩;have h4:=E8 (L:=L) (E:=E) (s:=s3) (x:=[41]);have h5:s.i+1<=s3.i:=hge;show s.i<=(D4 L E s3 [41]).i;omega
     ·obtain ⟨⟨e,s3⟩,hb,hge⟩:=(ih (m-1) (by omega)).1 { s with i:=s.i+1,par:=s.par+1 } (by show L.length-(s.i+1)<=m-1;omega);refine ⟨_,Un.pre (by omega) h2 hl hb,?_⟩;have h5:s.i+1<=s3.i:=hge;show s.i<=s3.i;omega
  have B:∀ (n:Int) e (s:Rd),n<=5->1<=n->L.length-s.i<=m->∃ r,Lop L E n e s r/\s.i<=r.2.i:=by
   intro n e s h5 h1 hs;by_cases hk:C0 L E s D2<0\/B3 (12+C0 L E s D2)≠n
   ·exact ⟨_,Lop.stop hk,Nat.le_refl _⟩
   ·have h0:0<=C0 L E s D2:=by omega
    obtain ⟨-,hi, -⟩:=G5 h0;obtain ⟨⟨x,s1⟩,hb,hge⟩:=(ih (m-1) (by omega)).2.2 (n+1) (B1 s) (by omega) (by show L.length-(s.i+1)<=m-1;omega);have hge:s.i+1<=s1.i:=hge;by_cases h3:n=3
    ·exact ⟨_,Lop.three h0 (by omega) h3 hb,by show s.i<=s1.i;omega⟩
    ·obtain ⟨r,hl,hg2⟩:=(ih (m-1) (by omega)).2.1 n (.mk (12+C0 L E s D2) 0 [] [e,x] (B7 L E s).pos) s1 h5 h1 (by omega);exact ⟨_,Lop.more h0 (by omega) h3 hb hl,by omega⟩
  refine ⟨A,B,?_⟩;have C:∀ (j:Nat) (n:Int) (s:Rd),6-n<=j->1<=n->L.length-s.i<=m->∃ r,Bin L E n s r/\s.i<=r.2.i:=by
   intro j
   induction j with
   | zero =>
    intro n s hj h1 hs;obtain ⟨r,h,hg⟩:=A s hs;exact ⟨r,Bin.un (by omega) h,hg⟩
   | succ j ihj =>
    intro n s hj h1 hs;by_cases h5:5<n
    ·obtain ⟨r,h,hg⟩:=A s hs;exact ⟨r,Bin.un h5 h,hg⟩
    ·obtain ⟨⟨e,s1⟩,h,hg⟩:=ihj (n+1) s (by omega) (by omega) hs;have hg:s.i<=s1.i:=hg;obtain ⟨r,h2,hg2⟩:=B n e s1 (by omega) h1 (by omega);exact ⟨r,Bin.go (by omega) h h2,by omega⟩
  exact fun n s h1 hs=>C (6-n).toNat n s (by omega) h1 hs
abbrev Xpn (L:List Tok) (E:Int) (s:Rd) (r:Ex × Rd):Prop:=Evt (fun f=>P3 L E f s) r
theorem V7 (s:Rd):∃ r,Xpn L E s r/\s.i<=r.2.i:=by
 obtain ⟨r,h,hg⟩:=(ET.all (L:=L) (E:=E) (L.length-s.i)).2.2 1 { s with ops:=0,par:=0 } (by decide) (Nat.le_refl _);exact ⟨r,h,hg⟩
theorem tail_tot (k p:Int) (s:Rd):∃ r,Evt (fun f=>L5 L E f k p s) r/\s.i<=r.2.i:=by
 by_cases h4:k=4
 ·obtain ⟨⟨e,s1⟩,h,hg⟩:=V7 (L:=L) (E:=E) s;exact ⟨_,h.map fun f h=>by unfold L5;rw [if_pos h4,h],Nat.le_trans hg E8⟩
 by_cases h18:k=18
 ·obtain ⟨⟨e,s1⟩,h,hg⟩:=V7 (L:=L) (E:=E) (D4 L E (B2 L E s 4).2 [44]);exact ⟨_,h.map fun f h=>by unfold L5;rw [if_neg h4,if_pos h18,h],Nat.le_trans (Nat.le_trans I3 (Nat.le_trans E8 hg)) E8⟩
 by_cases h19:k=19
 ·exact ⟨_,Evt.one fun f=>by unfold L5;rw [if_neg h4,if_neg h18,if_pos h19],E8⟩
 by_cases h8:k=8\/k=9\/k=10
 ·obtain ⟨⟨e,s1⟩,h,hg⟩:=V7 (L:=L) (E:=E) (B2 L E s 1).2;by_cases h9:k=9
  ·obtain ⟨⟨e2,s2⟩,h2,hg2⟩:=V7 (L:=L) (E:=E) (D4 L E s1 [44]);exact ⟨_,h.map2 h2 fun f h h2=>by unfold L5;rw [if_neg h4,if_neg h18,if_neg h19];dsimp only;rw [if_pos h8,h];dsimp only;rw [if_pos h9,h2],Nat.le_trans (Nat.le_trans I3 (Nat.le_trans hg (Nat.le_trans E8 hg2))) E8⟩
  ·exact ⟨_,h.map fun f h=>by unfold L5;rw [if_neg h4,if_neg h18,if_neg h19];dsimp only;rw [if_pos h8,h];dsimp only;rw [if_neg h9],Nat.le_trans (Nat.le_trans I3 hg) E8⟩
 ·exact ⟨_,Evt.one fun f=>by unfold L5;rw [if_neg h4,if_neg h18,if_neg h19];dsimp only;rw [if_neg h8],Nat.le_trans I3 E8⟩
abbrev A5f (L:List Tok) (E d:Int) (s:Rd) (r:List St × Rd):Prop:=Evt (fun f=>L2 L E f d s) r
abbrev X3 (L:List Tok) (E d:Int) (l:List St) (s:Rd) (r:List St × Rd):Prop:=Evt (fun f=>O1 L E f d l s) r
abbrev P8 (L:List Tok) (E d:Int) (s:Rd) (r:St × Rd):Prop:=Evt (fun f=>Q1 L E f d s) r
abbrev A5c (L:List Tok) (E d:Int) (s:Rd) (r:List St × Rd):Prop:=Evt (fun f=>P0 L E f d s) r
theorem A5f.mk {d:Int} {s:Rd} {r:List St × Rd} (h:X3 L E d [] (D4 L E s [123]) r):A5f L E d s r :=
 h.ext fun f h=>by rw [L2];exact h
theorem X3.stop {d:Int} {l:List St} {s:Rd} (h:¬ (okR s=true/\isR L E s [125]=false)):X3 L E d l s (l,D4 L E s [125]) :=
 Evt.one fun f=>by rw [O1,if_neg h]
theorem X3.bad {d:Int} {l:List St} {s:Rd} (h:okR s=true/\isR L E s [125]=false) (h2:C0 L E s B9<0/\I9 L E s 1=false):X3 L E d l s ([],K5 L E s) :=
 Evt.one fun f=>by rw [O1,if_pos h,if_pos h2]
theorem X3.more {d:Int} {l:List St} {s s1:Rd} {x:St} {r:List St × Rd} (h:okR s=true/\isR L E s [125]=false) (h2:¬ (C0 L E s B9<0/\I9 L E s 1=false)) (hx:P8 L E d (C7 L E s ((l.length:Int)+1) 64 9) (x,s1)) (hl:X3 L E d (l++[x]) s1 r):X3 L E d l s r :=
 hx.ext2 hl fun f hx hl=>by rw [O1,if_pos h,if_neg h2,hx];exact hl
theorem P8.bad {d:Int} {s:Rd} (h:okR (C7 L E s d 8 50)=false):P8 L E d s (St0,C7 L E s d 8 50) :=
 Evt.one fun f=>by rw [Q1];dsimp only;rw [if_pos h]
theorem P8.set {d:Int} {s s1:Rd} {e:Ex} (h:okR (C7 L E s d 8 50)=true) (hk:C0 L E s B9<0) (he:Xpn L E (D4 L E (B2 L E s 1).2 [61]) (e,s1)):P8 L E d s (.mk 1 (B2 L E s 1).1.text [] [e] [] [] (B7 L E s).pos,D4 L E s1 [59]) :=
 he.ext fun f hf=>by
  have e0:=(G3 (by decide) h).2.2;rw [Q1];dsimp only;rw [if_neg (by rw [h];decide),e0,if_pos hk,hf]
theorem P8.els {d:Int} {s s2 s3 s4:Rd} {e:Ex} {t o:List St} (h:okR (C7 L E s d 8 50)=true) (hk:C0 L E s B9=0) (he:Xpn L E (B1 s) (e,s2)) (ht:A5f L E (d+1) s2 (t,s3)) (hi:isR L E s3 [101,108,115,101]=true) (ho:A5c L E d (B1 s3) (o,s4)):P8 L E d s (.mk 2 [] [] [e] t o (B7 L E s).pos,s4) :=
 (he.and ht).ext2 ho fun f hf h2=>by
  have e0:=(G3 (by decide) h).2.2;cases h3:P3 L E f (B1 s) with
  | none=>rw [h3] at hf;cases hf
  | some q =>
   cases h4:L2 L E f (d+1) s2 with
   | none=>rw [h3,h4] at hf;cases hf
   | some w =>
    rw [h3,h4] at hf;obtain ⟨rfl,rfl⟩:=Prod.mk.inj (Option.some.inj hf);rw [Q1];dsimp only;rw [if_neg (by rw [h];decide),e0,if_neg (by omega),if_pos (.inl hk),h3];dsimp only;rw [h4];dsimp only;rw [if_pos ⟨hk,hi⟩,h2]
theorem P8.blk {d:Int} {s s2 s3:Rd} {e:Ex} {t:List St} (h:okR (C7 L E s d 8 50)=true) (hk:C0 L E s B9=0\/C0 L E s B9=1) (he:Xpn L E (B1 s) (e,s2)) (ht:A5f L E (d+1) s2 (t,s3)) (hi:¬ (C0 L E s B9=0/\isR L E s3 [101,108,115,101]=true)):P8 L E d s (.mk (2+C0 L E s B9) [] [] [e] t [] (B7 L E s).pos,s3) :=
 he.ext2 ht fun f h3 h4=>by
  have e0:=(G3 (by decide) h).2.2;rw [Q1];dsimp only;rw [if_neg (by rw [h];decide),e0,if_neg (by omega),if_pos hk,h3];dsimp only;rw [h4];dsimp only;rw [if_neg hi]
theorem P8.tail {d:Int} {s:Rd} {r:St × Rd} (h:okR (C7 L E s d 8 50)=true) (hk:2<=C0 L E s B9) (he:Evt (fun f=>L5 L E f (2+C0 L E s B9) (B7 L E s).pos (B1 s)) r):P8 L E d s r :=
 he.ext fun f h3=>by
  have e0:=(G3 (by decide) h).2.2;rw [Q1];dsimp only;rw [if_neg (by rw [h];decide),e0,if_neg (by omega),if_neg (by omega)];exact h3
theorem A5c.iff {d:Int} {s s1:Rd} {x:St} (h:isR L E s [105,102]=true) (hs:P8 L E (d+1) s (x,s1)):A5c L E d s ([x],s1) :=
 hs.ext fun f hf=>by rw [P0,if_pos h,hf]
theorem A5c.blk {d:Int} {s:Rd} {r:List St × Rd} (h:isR L E s [105,102]=false) (hs:A5f L E (d+1) s r):A5c L E d s r :=
 hs.ext fun f hf=>by rw [P0,if_neg (by rw [h];decide)];exact hf
theorem ST.all:∀ (m:Nat),(∀ d (s:Rd),L.length-s.i<=m->∃ r,P8 L E d s r/\s.i<=r.2.i/\(okR (C7 L E s d 8 50)=true->(0<=C0 L E s B9\/I9 L E s 1=true)->s.i<r.2.i)) /\
  (∀ d l (s:Rd),L.length-s.i<=m->∃ r,X3 L E d l s r/\s.i<=r.2.i):=by
 intro m
 induction m using Nat.strongRecOn with
 | _ m ih =>
  have blk:∀ d (s:Rd),L.length-s.i<m->∃ r,A5f L E d s r/\s.i<=r.2.i:=by
   intro d s hs;have h0:=E8 (L:=L) (E:=E) (s:=s) (x:=[123]);obtain ⟨r,h,hg⟩:=(ih _ hs).2 d [] (D4 L E s [123]) (by omega);exact ⟨r,A5f.mk h,by omega⟩
  have oth:∀ d (s:Rd),L.length-s.i<m->∃ r,A5c L E d s r/\s.i<=r.2.i:=by
   intro d s hs;cases hi:isR L E s [105,102] with
   | true =>
    obtain ⟨⟨x,s1⟩,h,hg, -⟩:=(ih _ hs).1 (d+1) s (Nat.le_refl _);exact ⟨_,A5c.iff hi h,hg⟩
   | false =>
    obtain ⟨r,h,hg⟩:=blk (d+1) s hs;exact ⟨r,A5c.blk hi h,hg⟩
  have A:∀ d (s:Rd),L.length-s.i<=m->∃ r,P8 L E d s r/\s.i<=r.2.i/\(okR (C7 L E s d 8 50)=true->(0<=C0 L E s B9\/I9 L E s 1=true)->s.i<r.2.i):=by
   intro d s hs;cases hl:okR (C7 L E s d 8 50) with
   | false=>exact ⟨_,P8.bad hl,by show s.i<=(C7 L E s d 8 50).i;rw [F6];exact Nat.le_refl _,fun h=>by cases h⟩
   | true =>
    by_cases hk:C0 L E s B9<0
    ·obtain ⟨⟨e,s1⟩,he,hg⟩:=V7 (L:=L) (E:=E) (D4 L E (B2 L E s 1).2 [61]);have hg:(D4 L E (B2 L E s 1).2 [61]).i<=s1.i:=hg;have h1:=E8 (L:=L) (E:=E) (s:=s1) (x:=[59]);have h2:=E8 (L:=L) (E:=E) (s:=(B2 L E s 1).2) (x:=[61]);have h3:=I3 (L:=L) (E:=E) (s:=s) (x:=1);refine ⟨_,P8.set hl hk he,by show s.i<=(D4 L E s1 [59]).i;omega,fun _ hc=>?_⟩;have h4:I9 L E s 1=true:=hc.resolve_left (by omega);have h5:(B2 L E s 1).2.i=s.i+1:=by unfold B2;rw [if_neg (by rw [h4];decide)];rfl
     show s.i<(D4 L E s1 [59]).i;omega
    ·obtain ⟨-,hi, -,hk18⟩:=G5 (show 0<=C0 L E s B9 by omega);by_cases h01:C0 L E s B9=0\/C0 L E s B9=1
     ·obtain ⟨⟨e,s2⟩,he,hg⟩:=V7 (L:=L) (E:=E) (B1 s);have hg:s.i+1<=s2.i:=hg;obtain ⟨⟨t,s3⟩,ht,hg3⟩:=blk (d+1) s2 (by omega);have hg3:s2.i<=s3.i:=hg3;by_cases hc:C0 L E s B9=0/\isR L E s3 [101,108,115,101]=true
      ·have hi3:=(A0p hc.2).2;obtain ⟨⟨o,s4⟩,ho,hg4⟩:=oth d (B1 s3) (by show L.length-(s3.i+1)<m;omega);have hg4:s3.i+1<=s4.i:=hg4;exact ⟨_,P8.els hl hc.1 he ht hc.2 ho,by show s.i<=s4.i;omega,fun _ _=>by show s.i<s4.i;omega⟩
      ·exact ⟨_,P8.blk hl h01 he ht hc,by show s.i<=s3.i;omega,fun _ _=>by show s.i<s3.i;omega⟩
     ·obtain ⟨r,hr,hg⟩:=tail_tot (L:=L) (E:=E) (2+C0 L E s B9) (B7 L E s).pos (B1 s);have hg:s.i+1<=r.2.i:=hg;exact ⟨_,P8.tail hl (by omega) hr,by omega,fun _ _=>by omega⟩
  refine ⟨A,fun d l s hs=>?_⟩;by_cases hc:okR s=true/\isR L E s [125]=false
  ·by_cases h2:C0 L E s B9<0/\I9 L E s 1=false
   ·exact ⟨_,X3.bad hc h2,by show s.i<=(K5 L E s).i;rw [R4];exact Nat.le_refl _⟩
   ·have hlt:s.i<L.length:=by
     by_cases hk:0<=C0 L E s B9
     ·exact (G5 hk).2.1
     ·cases h1:I9 L E s 1 with
      | false=>exact absurd ⟨by omega,h1⟩ h2
      | true=>exact (I8 (by decide) (H3 h1).2).2
    cases hl:okR (C7 L E s ((l.length:Int)+1) 64 9) with
    | false =>
     have hb:okR (C7 L E (C7 L E s ((l.length:Int)+1) 64 9) d 8 50)=false:=by
      cases hz:okR (C7 L E (C7 L E s ((l.length:Int)+1) 64 9) d 8 50) with
      | false=>rfl
      | true=>rw [(G3 (by decide) hz).1] at hl;cases hl
     have hx:=P8.bad hb;refine ⟨_,X3.more hc h2 hx (X3.stop (by rw [hb];simp)),?_⟩;have h1:=E8 (L:=L) (E:=E) (s:=C7 L E (C7 L E s ((l.length:Int)+1) 64 9) d 8 50) (x:=[125]);rw [F6,F6] at h1;exact h1
    | true =>
     have e0:=(G3 (by decide) hl).2.2;obtain ⟨⟨x,s1⟩,hx,hg,hprog⟩:=A d s hs;have hg:s.i<=s1.i:=hg;cases hd:okR (C7 L E s d 8 50) with
     | false =>
      have hx:=P8.bad hd;refine ⟨_,X3.more hc h2 (by rw [e0];exact hx) (X3.stop (by rw [hd];simp)),?_⟩;have h1:=E8 (L:=L) (E:=E) (s:=C7 L E s d 8 50) (x:=[125]);rw [F6] at h1;exact h1
     | true =>
      have hlt2:s.i<s1.i:=hprog hd (by
       by_cases hk:0<=C0 L E s B9
       ·exact .inl hk
       ·cases h1:I9 L E s 1 with
        | false=>exact absurd ⟨by omega,h1⟩ h2
        | true=>exact .inr rfl)
      obtain ⟨r,hr,hg2⟩:=(ih (L.length-s1.i) (by omega)).2 d (l++[x]) s1 (Nat.le_refl _);exact ⟨r,X3.more hc h2 (by rw [e0];exact hx) hr,by omega⟩
  ·exact ⟨_,X3.stop hc,E8⟩
theorem blk_tot (d:Int) (s:Rd):∃ r,A5f L E d s r/\s.i<=r.2.i:=by
 obtain ⟨r,h,hg⟩:=(ST.all (L:=L) (E:=E) _).2 d [] (D4 L E s [123]) (Nat.le_refl _);exact ⟨r,A5f.mk h,Nat.le_trans E8 hg⟩
theorem mlp_tot:∀ (m:Nat) (l:List Hd) (s:Rd),L.length-s.i<=m->∃ r,Evt (fun f=>U7 L E f l s) r/\s.i<=r.2.i:=by
 intro m
 induction m using Nat.strongRecOn with
 | _ m ih =>
  intro l s hs;by_cases hc:okR s=true/\isR L E s [125]=false
  ·cases hon:isR L E s [111,110] with
   | false=>exact ⟨_,Evt.one fun f=>by rw [U7,if_pos hc,if_pos hon],by show s.i<=(K5 L E s).i;rw [R4];exact Nat.le_refl _⟩
   | true =>
    have hi:=(A0p hon).2;have h1:(C7 L E s ((l.length:Int)+1) 32 9).i=s.i:=F6;generalize hl:C7 L E s ((l.length:Int)+1) 32 9=s1 at h1;have h2:=E8 (L:=L) (E:=E) (s:=s1) (x:=[111,110]);generalize he:D4 L E s1 [111,110]=s2 at h2;by_cases hk:C0 L E s2 E9<0
    ·exact ⟨_,Evt.one fun f=>by rw [U7,if_pos hc,if_neg (by rw [hon];decide),hl];dsimp only;rw [he,if_pos hk],by show s.i<=(K5 L E s2).i;rw [R4];omega⟩
    ·have hi2:=(G5 (show 0<=C0 L E s2 E9 by omega)).2.1;have h4:s2.i+1<=(if 2<=C0 L E s2 E9 then (B2 L E (B1 s2) 1).2 else B1 s2).i:=by
      split
      ·exact I3 (L:=L) (E:=E) (s:=B1 s2) (x:=1)
      ·exact Nat.le_refl _
     obtain ⟨⟨b,s5⟩,hb,hg⟩:=blk_tot (L:=L) (E:=E) 1 (if 2<=C0 L E s2 E9 then (B2 L E (B1 s2) 1).2 else B1 s2);have hg:(if 2<=C0 L E s2 E9 then (B2 L E (B1 s2) 1).2 else B1 s2).i<=s5.i:=hg;obtain ⟨r,hr,hg2⟩:=ih (L.length-s5.i) (by omega) (l++[⟨1+C0 L E s2 E9,if 2<=C0 L E s2 E9 then (B2 L E (B1 s2) 1).1.text else [],b,(B7 L E s1).pos⟩]) s5 (Nat.le_refl _);exact ⟨r,hb.ext2 hr fun f hb hr=>by rw [U7,if_pos hc,if_neg (by rw [hon];decide),hl];dsimp only;rw [he,if_neg hk,hb];exact hr,by omega⟩
  ·exact ⟨_,Evt.one fun f=>by rw [U7,if_neg hc],E8⟩
theorem mod_tot (s:Rd):∃ r,Evt (fun f=>A2x L E f s) r/\s.i<=r.2.i/\(isR L E s [109,111,100,101]=true->s.i<r.2.i):=by
 obtain ⟨⟨l,s3⟩,h,hg⟩:=mlp_tot (L:=L) (E:=E) _ [] (D4 L E (B2 L E (B2 L E (D4 L E s [109,111,100,101]) 1).2 3).2 [123]) (Nat.le_refl _);have hg:(D4 L E (B2 L E (B2 L E (D4 L E s [109,111,100,101]) 1).2 3).2 [123]).i<=s3.i:=hg;have h1:=E8 (L:=L) (E:=E) (s:=(B2 L E (B2 L E (D4 L E s [109,111,100,101]) 1).2 3).2) (x:=[123]);have h2:=I3 (L:=L) (E:=E) (s:=(B2 L E (D4 L E s [109,111,100,101]) 1).2) (x:=3);have h3:=I3 (L:=L) (E:=E) (s:=D4 L E s [109,111,100,101]) (x:=1);have h4:=E8 (L:=L) (E:=E) (s:=s) (x:=[109,111,100,101]);refine ⟨_,h.map fun f h=>by unfold A2x;dsimp only;rw [h],by show s.i<=s3.i;omega,fun hi=>?_⟩;have h5:(D4 L E s [109,111,100,101]).i=s.i+1:=by unfold D4;rw [if_neg (by rw [hi];decide)];rfl
 show s.i<s3.i;omega
theorem dcl_ge {k:Int} {s:Rd}:s.i+1<=(Q8 L E k s).2.i:=by
 unfold Q8;dsimp only;have h1:=I3 (L:=L) (E:=E) (s:=B1 s) (x:=1);have h0:(B1 s).i=s.i+1:=rfl;split
 ·generalize (B2 L E (B1 s) 1).2=s2 at h1 ⊢;have h3:s2.i<=(if (k+1 == 6 && isR L E s2 [45])=true then B1 s2 else s2).i:=by
   split
   ·exact Nat.le_succ _
   ·exact Nat.le_refl _
  generalize (if (k+1 == 6 && isR L E s2 [45])=true then B1 s2 else s2)=s3 at h3 ⊢;have h4:=I3 (L:=L) (E:=E) (s:=s3) (x:=3);have h5:=E8 (L:=L) (E:=E) (s:=(B2 L E s3 3).2) (x:=[59]);show s.i+1<=(D4 L E (B2 L E s3 3).2 [59]).i;omega
 ·have h5:=E8 (L:=L) (E:=E) (s:=(B2 L E (B1 s) 1).2) (x:=[59]);show s.i+1<=(D4 L E (B2 L E (B1 s) 1).2 [59]).i;omega
theorem amg_nok {s:Rd} (h:okR s=false):∀ (l:List (List UInt8)) (k:Nat),Y4 L E s k l = -1
 | [],k=>rfl
 | t :: l,k=>by rw [Y4,show isR L E s t=false by unfold isR;rw [h];rfl,if_neg (by decide),amg_nok h l]
theorem rld_tot:∀ (m:Nat) (l:List Dc) (s:Rd),L.length-s.i<=m->∃ r,Evt (fun f=>T1 L E f l s) r/\s.i<=r.2.i:=by
 intro m
 induction m using Nat.strongRecOn with
 | _ m ih =>
  intro l s hs;by_cases hk:C0 L E s E0<0
  ·exact ⟨_,Evt.one fun f=>by rw [T1];dsimp only;rw [if_pos hk],Nat.le_refl _⟩
  ·have hi:=(G5 (show 0<=C0 L E s E0 by omega)).2.1;have h1:(C7 L E s ((l.length:Int)+1) 128 9).i=s.i:=F6;cases hl:okR (C7 L E s ((l.length:Int)+1) 128 9) with
   | false =>
    have hz:C0 L E (C7 L E s ((l.length:Int)+1) 128 9) E0<0:=by
     show Y4 L E _ 0 E0<0;rw [amg_nok hl];decide
    have h2:Evt (fun f=>T1 L E f l (C7 L E s ((l.length:Int)+1) 128 9)) (l,C7 L E s ((l.length:Int)+1) 128 9):=Evt.one fun f=>by rw [T1];dsimp only;rw [if_pos hz]
    exact ⟨_,h2.ext fun f h=>by rw [T1];dsimp only;rw [if_neg hk,if_neg (by rw [hl];decide)];exact h,by show s.i<=(C7 L E s ((l.length:Int)+1) 128 9).i;omega⟩
   | true =>
    have h3:=dcl_ge (L:=L) (E:=E) (k:=C0 L E s E0) (s:=C7 L E s ((l.length:Int)+1) 128 9);obtain ⟨r,hr,hg⟩:=ih (L.length-(Q8 L E (C0 L E s E0) (C7 L E s ((l.length:Int)+1) 128 9)).2.i) (by omega) (l++[(Q8 L E (C0 L E s E0) (C7 L E s ((l.length:Int)+1) 128 9)).1]) _ (Nat.le_refl _);exact ⟨r,hr.ext fun f h=>by rw [T1];dsimp only;rw [if_neg hk,if_pos hl];exact h,by omega⟩
theorem rlm_tot:∀ (m:Nat) (l:List Md) (s:Rd),L.length-s.i<=m->∃ r,Evt (fun f=>R5 L E f l s) r/\s.i<=r.2.i:=by
 intro m
 induction m using Nat.strongRecOn with
 | _ m ih =>
  intro l s hs;by_cases hc:okR s=true/\s.i<L.length
  ·cases hm:isR L E s [109,111,100,101] with
   | false=>exact ⟨_,Evt.one fun f=>by rw [R5,if_pos hc,if_pos hm],by show s.i<=(K5 L E s).i;rw [R4];exact Nat.le_refl _⟩
   | true =>
    have h1:(C7 L E s ((l.length:Int)+1) 16 9).i=s.i:=F6;cases hl:okR (C7 L E s ((l.length:Int)+1) 16 9) with
    | false =>
     have h2:Evt (fun f=>R5 L E f l (C7 L E s ((l.length:Int)+1) 16 9)) (l,C7 L E s ((l.length:Int)+1) 16 9):=Evt.one fun f=>by rw [R5,if_neg (by rw [hl];simp)]
     exact ⟨_,h2.ext fun f h=>by rw [R5,if_pos hc,if_neg (by rw [hm];decide)];dsimp only;rw [if_neg (by rw [hl];decide)];exact h,by show s.i<=(C7 L E s ((l.length:Int)+1) 16 9).i;omega⟩
    | true =>
     have e0:=(G3 (by decide) hl).2.2;obtain ⟨⟨md,s2⟩,h2,hg,hlt⟩:=mod_tot (L:=L) (E:=E) s;have hlt:s.i<s2.i:=hlt hm;obtain ⟨r,hr,hg2⟩:=ih (L.length-s2.i) (by omega) (l++[md]) s2 (Nat.le_refl _);exact ⟨r,h2.ext2 hr fun f h2 hr=>by rw [R5,if_pos hc,if_neg (by rw [hm];decide)];dsimp only;rw [if_pos hl,e0,h2];exact hr,by omega⟩
  ·exact ⟨_,Evt.one fun f=>by rw [R5,if_neg hc],Nat.le_refl _⟩
theorem rul_tot (s:Rd):∃ r,Evt (fun f=>A3s L E f s) r:=by
 obtain ⟨⟨d,s1⟩,h1, -⟩:=rld_tot (L:=L) (E:=E) _ [] s (Nat.le_refl _);obtain ⟨⟨m,s2⟩,h2, -⟩:=rlm_tot (L:=L) (E:=E) _ [] s1 (Nat.le_refl _);exact ⟨_,h1.map2 h2 fun f h1 h2=>by unfold A3s;rw [h1];dsimp only;rw [h2]⟩
end
end Go.Pb
namespace Go.Pb
variable [Go.Sym.Tab]
open Go.Sym
def A4 (s:List UInt8):Tok:=⟨if G8 s=true then 2 else if D6 s=true then 1 else 5,s,0,0⟩
def D0 (s:List UInt8):List Tok:=if D6 s=false then [Q0] else [⟨1,s,0,0⟩]
def R6 (n:Int):List Tok:=if n<0\/2147483647<n then [Q0] else [⟨3,[],n,0⟩]
def txB (c:UInt8):Bool:=decide (32<=c.toNat) && decide (c.toNat<=126)
def A0a (s:List UInt8):List Tok:=if s.all txB=false\/32<s.length then [Q0] else [⟨4,s,0,0⟩]
def E4 (q:Int × List Tok) (least:Int):List Tok:=if B3 q.1<least then [A4 [40]]++q.2++[A4 [41]] else q.2
def J7 (k v:Int) (n:List UInt8) (as1:List (Int × List Tok)):List Tok :=
 let lv:=B3 k
 if k=1 then R6 v
 else if k=2 then D0 n
 else if k=3 then [A4 [116,114,117,101]]
 else if k=4 then [A4 [102,97,108,115,101]]
 else if k=8 then [A4 [112,108,97,121,101,114]]
 else if k=9 then [A4 [98,97,108,108]]
 else if k=5 then [A4 [99,108,111,115,101,100]]++D0 n
 else if k=6 then [A4 [97,99,116,105,118,101]]++D0 n
 else if k=7 then [A4 [108,101,102,116]]++D0 n
 else match as1 with
  | [q]=>if lv=6 then [A4 (if k=10 then [45] else [33])]++E4 q 6 else [Q0]
  | [q,r]=>if lv<6 then E4 q (if lv=3 then 4 else lv)++[A4 (D2.getD (k-12).toNat [])]++E4 r (lv+1) else [Q0]
  | _=>[Q0]
mutual
def exT:Ex->List Tok
 | .mk k v n a p=>J7 k v n (A4z a)
def A4z:List Ex->List (Int × List Tok)
 | []=>[]
 | e :: l=>(e.kind,exT e) :: A4z l
end
def agT (l:List Ex) (i:Nat):List Tok:=match l[i]? with
 | some e=>exT e
 | none=>[Q0]
mutual
def stT:St->List Tok
 | .mk k n t a x y p =>
  if k=1 then D0 n++[A4 [61]]++agT a 0++[A4 [59]]
  else if k<2\/19<k then [Q0]
  else
   let w:=A4 (B9.getD (k-2).toNat [])
   if k=2\/k=3 then
    let o:=[w]++agT a 0++([A4 [123]]++N3 x++[A4 [125]])
    match y with
    | []=>o
    | [s]=>if s.kind=2 then o++[A4 [101,108,115,101]]++stT s else o++[A4 [101,108,115,101]]++([A4 [123]]++stT s++[A4 [125]])
    | s :: s2 :: r=>o++[A4 [101,108,115,101]]++([A4 [123]]++N3 (s :: s2 :: r)++[A4 [125]])
   else if k=4 then [w]++agT a 0++[A4 [59]]
   else if k=18 then [w]++A0a t++[A4 [44]]++agT a 0++[A4 [59]]
   else if k=8\/k=10 then [w]++D0 n++agT a 0++[A4 [59]]
   else if k=9 then [w]++D0 n++agT a 0++[A4 [44]]++agT a 1++[A4 [59]]
   else if k=19 then [w]++[A4 [59]]
   else [w]++D0 n++[A4 [59]]
def N3:List St->List Tok
 | []=>[]
 | s :: l=>stT s++N3 l
end
def blT (l:List St):List Tok:=[A4 [123]]++N3 l++[A4 [125]]
def dcT (d:Dc):List Tok :=
 if d.kind<1\/8<d.kind then [Q0]
 else
  let o:=[A4 (E0.getD (d.kind-1).toNat [])]++D0 d.name
  (if 6<d.kind then o
  else if d.value<0 /\ -2147483647<=d.value/\d.kind=6 then o++[A4 [45]]++R6 (-d.value)
  else o++R6 d.value)++[A4 [59]]
def hdT (h:Hd):List Tok:=[A4 [111,110],A4 (E9.getD (h.trig-1).toNat [])]++(if 2<h.trig then D0 h.name else [])++blT h.body
def S3 (h:Hd):Bool:=decide (h.trig<1) || decide (6<h.trig)
def mdT (m:Md):List Tok:=[A4 [109,111,100,101]]++D0 m.name++R6 m.prio++[A4 [123]]++m.hds.flatMap hdT++[A4 [125]]
def ruT (r:Ru):List Tok:=if (r.modes.any fun m=>m.hds.any S3)=true then [Q0] else r.decls.flatMap dcT++r.modes.flatMap mdT
mutual
def Ex.plain:Ex->Ex
 | .mk k v n a p=>.mk k v n (Ex.plains a) 0
def Ex.plains:List Ex->List Ex
 | []=>[]
 | e :: l=>e.plain :: Ex.plains l
end
mutual
def St.plain:St->St
 | .mk k n t a x y p=>.mk k n t (Ex.plains a) (St.plains x) (St.plains y) 0
def St.plains:List St->List St
 | []=>[]
 | e :: l=>e.plain :: St.plains l
end
def Dc.plain (d:Dc):Dc:={ d with pos:=0 }
def Hd.plain (h:Hd):Hd:=⟨h.trig,h.name,St.plains h.body,0⟩
def Md.plain (m:Md):Md:=⟨m.name,m.prio,m.hds.map Hd.plain,0⟩
def Ru.plain (r:Ru):Ru:=⟨r.decls.map Dc.plain,r.modes.map Md.plain⟩
theorem Ex.plains_map:∀ l:List Ex,Ex.plains l=l.map Ex.plain
 | []=>rfl
 | e :: l=>by rw [Ex.plains,Ex.plains_map l];rfl
theorem St.plains_map:∀ l:List St,St.plains l=l.map St.plain
 | []=>rfl
 | e :: l=>by rw [St.plains,St.plains_map l];rfl
mutual
def A3h (p:Bool):Ex->Ex->Bool
 | .mk k v n a q,.mk k' v' n' a' q'=>k == k' && (v == v' && (n == n' && ((p || q == q') && J2 p a a')))
def J2 (p:Bool):List Ex->List Ex->Bool
 | [],[]=>true
 | e :: l,e' :: l'=>A3h p e e' && J2 p l l'
 | _,_=>false
end
mutual
def stEq:St->St->Bool
 | .mk k n t a x y q,.mk k' n' t' a' x' y' q'=>k == k' && (n == n' && (t == t' && (q == q' && (J2 false a a' && (K0 x x' && K0 y y')))))
def K0:List St->List St->Bool
 | [],[]=>true
 | e :: l,e' :: l'=>stEq e e' && K0 l l'
 | _,_=>false
end
mutual
theorem exEq_iff:∀ a b:Ex,A3h false a b=true↔a=b
 | .mk k v n a q,.mk k' v' n' a' q'=>by
  have:=A4i a a';simp only [A3h,Bool.and_eq_true,beq_iff_eq,Bool.false_or,this,Ex.mk.injEq];constructor
  ·rintro ⟨h1,h2,h3,h4,h5⟩;exact ⟨h1,h2,h3,h5,h4⟩
  ·rintro ⟨h1,h2,h3,h4,h5⟩;exact ⟨h1,h2,h3,h5,h4⟩
theorem A4i:∀ a b:List Ex,J2 false a b=true↔a=b
 | [],[]=>by simp [J2]
 | [],_ :: _=>by simp [J2]
 | _ :: _,[]=>by simp [J2]
 | e :: l,e' :: l'=>by
  have h1:=exEq_iff e e';have h2:=A4i l l';simp only [J2,Bool.and_eq_true,h1,h2,List.cons.injEq]
end
mutual
theorem stEq_iff:∀ a b:St,stEq a b=true↔a=b
 | .mk k n t a x y q,.mk k' n' t' a' x' y' q'=>by
  have h1:=A4i a a';have h2:=X6 x x';have h3:=X6 y y';simp only [stEq,Bool.and_eq_true,beq_iff_eq,h1,h2,h3,St.mk.injEq];constructor
  ·rintro ⟨e1,e2,e3,e4,e5,e6,e7⟩;exact ⟨e1,e2,e3,e5,e6,e7,e4⟩
  ·rintro ⟨e1,e2,e3,e4,e5,e6,e7⟩;exact ⟨e1,e2,e3,e7,e4,e5,e6⟩
theorem X6:∀ a b:List St,K0 a b=true↔a=b
 | [],[]=>by simp [K0]
 | [],_ :: _=>by simp [K0]
 | _ :: _,[]=>by simp [K0]
 | e :: l,e' :: l'=>by
  have h1:=stEq_iff e e';have h2:=X6 l l';simp only [K0,Bool.and_eq_true,h1,h2,List.cons.injEq]
end
end Go.Pb
namespace Go.Pb
variable [Go.Sym.Tab]
open Go.Sym
def J1 (k:Int):Nat:=if B3 k=6 then 1 else if B3 k<6 then 2 else 0
def A9u (k:Int):Bool:=k == 5 || (k == 6 || k == 7)
def kOk (k:Int):Bool:=decide (B3 k<7) || (decide (1<=k) && decide (k<=24))
def A0h (k:Int) (n:List UInt8):Bool:=if k=2\/A9u k=true then D6 n else n == []
def A0e (k v:Int):Bool:=v == 0 || (k == 1 && (decide (0<v) && decide (v<=2147483647)))
def V3 (k q:Int) (i:Nat):Bool:=decide (B3 q<B3 k) || (B3 q == B3 k && (i == 1 || B3 k == 3))
mutual
def msM:Ex->Option (Nat × Nat)
 | .mk k v n a p =>
  if kOk k=false\/a.length≠J1 k\/A0h k n=false\/A0e k v=false then none
  else if J1 k=0 then some (1,0)
  else match msL k 0 a with
   | none=>none
   | some (o,d)=>some (o,if J1 k=1 then d+1 else d)
def msL (k:Int):Nat->List Ex->Option (Nat × Nat)
 | _,[]=>some (0,0)
 | i,e :: l=>match msM e with
  | none=>none
  | some (o,d)=>match msL k (i+1) l with
   | none=>none
   | some (o2,d2)=>some (o+o2,max (if V3 k e.kind i=true then d+1 else d) d2)
end
def N2 (e:Ex):Bool:=match msM e with
 | some (o,d)=>decide (o<=32) && decide (d<=16)
 | none=>false
structure Shp where
 name:Bool
 text:Bool
 args:Nat
 thn:Bool
 els:Bool
def L6 (k:Int):Shp :=
 if k=1\/k=8\/k=10 then ⟨true,false,1,false,false⟩
 else if k=9 then ⟨true,false,2,false,false⟩
 else if k=2 then ⟨false,false,1,true,true⟩
 else if k=3 then ⟨false,false,1,true,false⟩
 else if k=4 then ⟨false,false,1,false,false⟩
 else if k=18 then ⟨false,true,1,false,false⟩
 else if k=19 then ⟨false,false,0,false,false⟩
 else ⟨true,false,0,false,false⟩
def S2 (s:List UInt8):Bool:=s.all txB && decide (s.length<=32)
mutual
def P9:Nat->St->Bool
 | d,.mk k n t a x y p =>
  (decide (1<=k) && decide (k<=19)) && (a.length == (L6 k).args && a.all N2) &&
   ((if (L6 k).name=true then D6 n else n == []) && (if (L6 k).text=true then S2 t else t == [])) &&
   (((L6 k).thn || x.isEmpty) && ((L6 k).els || y.isEmpty)) &&
   ((decide (x.length<=64) && (x.isEmpty || decide (d+1<=8)) && G6 (d+1) x) && (decide (y.length<=64) && (y.isEmpty || decide (d+1<=8)) && G6 (d+1) y))
def G6:Nat->List St->Bool
 | _,[]=>true
 | d,s :: l=>P9 d s && G6 d l
end
def M3 (l:List St) (d:Nat):Bool:=decide (l.length<=64) && (l.isEmpty || decide (d<=8)) && G6 d l
def A0k (d:Dc):Bool:=decide (1<=d.kind) && decide (d.kind<=8) && D6 d.name && decide ((if d.kind=6 then -2147483647 else 0)<=d.value) && decide (d.value<=(if d.kind=7\/d.kind=8 then 0 else 2147483647))
def A0f (h:Hd):Bool:=decide (1<=h.trig) && decide (h.trig<=6) && (if 3<=h.trig then D6 h.name else h.name == []) && M3 h.body 1
def U0 (m:Md):Bool:=D6 m.name && decide (0<=m.prio) && decide (m.prio<=2147483647) && decide (m.hds.length<=32) && m.hds.all A0f
def O4 (r:Ru):Bool:=decide (r.decls.length<=128) && decide (r.modes.length<=16) && r.decls.all A0k && r.modes.all U0
def G7 (t:Tok):Prop:=(t.kind=1->D6 t.text=true)/\(t.kind=3->0<=t.value/\t.value<=2147483647)/\(t.kind=4->S2 t.text=true)
def SE (n:Int) (s:Rd) (e:Ex) (s':Rd):Prop :=
 okR s=true/\s'.par=s.par/\∃ o d,msM e=some (o,d)/\s'.ops=s.ops+(o:Int)/\s'.ops<=32/\((n<=B3 e.kind/\s.par+(d:Int)<=16)\/s.par+(d:Int)+1<=16)
theorem T9 (k:Int):1<=B3 k/\B3 k<=7:=by
 unfold B3;repeat' split
 all_goals omega
theorem B0a {k:Int} (h:B3 k<7):10<=k/\k<=24:=by
 unfold B3 at h;repeat' split at h
 all_goals omega
theorem lev_ops {k:Int} (h0:0<=k) (h1:k<13):B3 (12+k)<6:=by
 unfold B3;repeat' split
 all_goals omega
theorem A3a {k:Int} (h:k=10\/k=11):B3 k=6:=by
 rcases h with rfl|rfl<;>rfl
theorem ms_bin {k:Int} {a b:Ex} {o1 d1 o2 d2:Nat} {p:Int} (hk:B3 k<6) (ha:msM a=some (o1,d1)) (hb:msM b=some (o2,d2)) :
  msM (.mk k 0 [] [a,b] p)=some (o1+o2,max (if V3 k a.kind 0=true then d1+1 else d1) (if V3 k b.kind 1=true then d2+1 else d2)):=by
 have hl:=B0a (k:=k) (by omega);have h1:kOk k=true:=by simp [kOk];left;omega
 have h2:J1 k=2:=by unfold J1;rw [if_neg (by omega),if_pos hk]
 have h3:A0h k []=true:=by
  unfold A0h;rw [if_neg]
  ·rfl
  ·simp only [A9u,Bool.or_eq_true,beq_iff_eq];omega
 have h4:A0e k 0=true:=by simp [A0e]
 unfold msM;rw [if_neg (by simp [h1,h2,h3,h4]),h2,if_neg (by omega)];simp only [msL,ha,hb,Nat.add_zero,Nat.zero_add,Nat.max_zero,if_neg (show ¬ 2=1 by omega)]
theorem ms_un {k:Int} {a:Ex} {o d:Nat} {p:Int} (hk:k=10\/k=11) (ha:msM a=some (o,d)) :
  msM (.mk k 0 [] [a] p)=some (o,(if V3 k a.kind 0=true then d+1 else d)+1):=by
 have hl:=A3a hk;have h1:kOk k=true:=by simp [kOk];left;omega
 have h2:J1 k=1:=by unfold J1;rw [if_pos hl]
 have h3:A0h k []=true:=by
  unfold A0h;rw [if_neg]
  ·rfl
  ·simp only [A9u,Bool.or_eq_true,beq_iff_eq];omega
 have h4:A0e k 0=true:=by simp [A0e]
 unfold msM;rw [if_neg (by simp [h1,h2,h3,h4]),h2,if_neg (by omega)];simp only [msL,ha,Nat.add_zero,Nat.max_zero,if_true]
theorem ms_leaf {k v:Int} {n:List UInt8} {p:Int} (hk:B3 k=7) (h1:kOk k=true) (h3:A0h k n=true) (h4:A0e k v=true):msM (.mk k v n [] p)=some (1,0):=by
 have h2:J1 k=0:=by unfold J1;rw [if_neg (by omega),if_neg (by omega)]
 unfold msM;rw [if_neg (by simp [h1,h2,h3,h4]),if_pos h2]
section
variable {L:List Tok} {E:Int}
theorem H5 {s:Rd} {t:List UInt8} (h:okR (D4 L E s t)=true):okR s=true:=(A0p (B0d h).1).1
theorem U5 {s:Rd} {k:Int} (h:okR (B2 L E s k).2=true):okR s=true:=(H3 (A2n h).1).1
theorem prim_ok {s:Rd} (h:okR (I6 L E s).2=true):okR s=true:=by
 unfold I6 at h;dsimp only at h;split at h
 ·rw [W8] at h;cases h
 ·split at h
  ·rename_i h1;rw [h1] at h;cases h
  ·rename_i h1;have h2:okR (C7 L E { s with ops:=s.ops+1 } (s.ops+1) 32 9)=true:=by simpa using h1
   exact (G3 (by decide) h2).1
theorem prim_sound (hG:∀ t∈L,G7 t) {s s':Rd} {e:Ex} (h:I6 L E s=(e,s')) (hok:okR s'=true) (hp:s.par<=16):SE 7 s e s':=by
 have hs:okR s=true:=prim_ok (L:=L) (E:=E) (by rw [h];exact hok);have leaf:∀ (k v:Int) (n:List UInt8) (p:Int),B3 k=7->kOk k=true->A0h k n=true->A0e k v=true->s.ops+1<=32->∀ s2:Rd,s2.par=s.par->s2.ops=s.ops+1->SE 7 s (.mk k v n [] p) s2:=by
  intro k v n p q1 q2 q3 q4 q6 s2 q7 q8;refine ⟨hs,q7,1,0,ms_leaf q1 q2 q3 q4,by rw [q8];rfl,by omega,.inl ⟨?_,by simpa using hp⟩⟩;show 7<=B3 k;omega
 unfold I6 at h;dsimp only at h;split at h
 ·cases h;rw [W8] at hok;cases hok
 rename_i hc;split at h
 ·rename_i h1;cases h;rw [h1] at hok;cases hok
 rename_i h1;have h2:okR (C7 L E { s with ops:=s.ops+1 } (s.ops+1) 32 9)=true:=by simpa using h1
 obtain ⟨-,h3,h4⟩:=G3 (by decide) h2;rw [h4] at h;split at h
 ·rename_i hk;obtain ⟨-, -, -,hk7⟩:=G5 hk;have hk7:C0 L E s Q6<7:=hk7;generalize C0 L E s Q6=k at h hk hk7;split at h
  ·rename_i hk4;cases h;obtain ⟨t1,t2⟩:=A2n hok;obtain ⟨t3,t4⟩:=H3 t1;have hn:=(hG _ (I8 (by decide) t4).1).1 t4;rw [t2];have:k=4\/k=5\/k=6:=by omega
   rcases this with rfl|rfl|rfl
   ·exact leaf 5 _ _ _ (by decide) (by decide) hn (by decide) h3 _ rfl rfl
   ·exact leaf 6 _ _ _ (by decide) (by decide) hn (by decide) h3 _ rfl rfl
   ·exact leaf 7 _ _ _ (by decide) (by decide) hn (by decide) h3 _ rfl rfl
  ·rename_i hk4;cases h;have:k=0\/k=1\/k=2\/k=3:=by omega
   rcases this with rfl|rfl|rfl|rfl
   all_goals exact leaf _ _ _ _ (by decide) (by decide) (by decide) (by decide) h3 _ rfl rfl
 ·rename_i hk;split at h
  ·rename_i hk3;cases h;have hn:=(hG _ (I8 (by decide) hk3).1).2.1 hk3;refine leaf 1 _ _ _ (by decide) (by decide) (by decide) ?_ h3 _ rfl rfl;simp only [A0e,Bool.or_eq_true,Bool.and_eq_true,beq_iff_eq,decide_eq_true_eq];by_cases h0:(B7 L E s).value=0
   ·exact .inl h0
   ·exact .inr ⟨trivial,by omega,hn.2⟩
  ·rename_i hk3;cases h;have h1k:I9 L E s 1=true:=by
    cases hz:I9 L E s 1 with
    | true=>rfl
    | false =>
     refine absurd ⟨by omega,?_,hz⟩ hc;cases hy:I9 L E s 3 with
     | false=>rfl
     | true=>exact absurd (H3 hy).2 hk3
   have hn:=(hG _ (I8 (by decide) (H3 h1k).2).1).1 (H3 h1k).2;exact leaf 2 _ _ _ (by decide) (by decide) hn (by decide) h3 _ rfl rfl
theorem OB.all:∀ f:Nat,(∀ n s r,I1 L E f n s=some r->okR r.2=true->okR s=true)/\(∀ n e s r,M8 L E f n e s=some r->okR r.2=true->okR s=true)/\(∀ s r,Q5 L E f s=some r->okR r.2=true->okR s=true)
 | 0=>⟨fun n s r h=>by simp [I1] at h,fun n e s r h=>by simp [M8] at h,fun s r h=>by simp [Q5] at h⟩
 | f+1=>by
  obtain ⟨i1,i2,i3⟩:=OB.all f;refine ⟨fun n s r h k=>?_,fun n e s r h k=>?_,fun s r h k=>?_⟩
  ·unfold I1 at h;split at h
   ·exact i3 _ _ h k
   ·split at h
    ·cases h
    ·rename_i hb;exact i1 _ _ _ hb (i2 _ _ _ _ h k)
  ·unfold M8 at h;dsimp only at h;split at h
   ·cases h;exact k
   ·rename_i hk;exact (G5 (show 0<=C0 L E s D2 from Classical.byContradiction fun g=>hk (.inl (by omega)))).1
  ·unfold Q5 at h;dsimp only at h;split at h
   ·cases h;exact prim_ok k
   ·rename_i hk;exact (G5 (show 0<=C0 L E s O3 by omega)).1
theorem SE.weak {m n:Int} {s s':Rd} {e:Ex} (hmn:n<=m) (h:SE m s e s'):SE n s e s':=by
 obtain ⟨h1,h2,o,d,h3,h4,h5,h6⟩:=h;exact ⟨h1,h2,o,d,h3,h4,h5,h6.imp (fun h=>⟨by omega,h.2⟩) id⟩
theorem SE.all (hG:∀ t∈L,G7 t):∀ f:Nat,(∀ n s r,1<=n->n<=6->I1 L E f n s=some r->okR r.2=true->s.par<=16->SE n s r.1 r.2) /\
  (∀ n m e s s0 r,1<=n->n<=5->(m=n+1\/m=n/\n≠3)->M8 L E f n e s=some r->okR r.2=true->SE m s0 e s->s0.par<=16->SE n s0 r.1 r.2) /\
  (∀ s r,Q5 L E f s=some r->okR r.2=true->s.par<=16->SE 6 s r.1 r.2)
 | 0=>⟨fun n s r _ _ h=>by simp [I1] at h,fun n m e s s0 r _ _ _ h=>by simp [M8] at h,fun s r h=>by simp [Q5] at h⟩
 | f+1=>by
  obtain ⟨i1,i2,i3⟩:=SE.all hG f;refine ⟨fun n s r n1 n6 h k hp=>?_,fun n m e s s0 r n1 n5 hm h k he hp=>?_,fun s r h k hp=>?_⟩
  ·unfold I1 at h;split at h
   ·have:=i3 _ _ h k hp;exact this.weak n6
   ·rename_i hn;split at h
    ·cases h
    ·rename_i e s1 hb;have k1:=(OB.all f).2.1 _ _ _ _ h k;have h1:=i1 _ _ _ (by omega) (by omega) hb k1 hp;exact i2 n (n+1) _ _ s _ n1 (by omega) (.inl rfl) h k h1 hp
  ·unfold M8 at h;dsimp only at h;split at h
   ·cases h;exact he.weak (by omega)
   ·rename_i hk;have hk0:0<=C0 L E s D2:=Classical.byContradiction fun g=>hk (.inl (by omega));have hlv:B3 (12+C0 L E s D2)=n:=Classical.byContradiction fun g=>hk (.inr g);split at h
    ·cases h
    ·rename_i x s1 hb;obtain ⟨e1,e2,o1,d1,e3,e4,e5,e6⟩:=he;have step:okR s1=true->SE n s0 (.mk (12+C0 L E s D2) 0 [] [e,x] (B7 L E s).pos) s1:=by
      intro k1;obtain ⟨x1,x2,o2,d2,x3,x4,x5,x6⟩:=i1 _ _ _ (by omega) (by omega) hb k1 (by show s.par<=16;omega);have x2':s1.par=s.par:=x2;have x4':s1.ops=s.ops+(o2:Int):=x4;have x6':((n+1<=B3 x.kind/\s.par+(d2:Int)<=16)\/s.par+(d2:Int)+1<=16):=x6;refine ⟨e1,by omega,_,_,ms_bin (by omega) e3 x3,by rw [x4',e4];omega,x5,.inl ⟨?_,?_⟩⟩
      ·show n<=B3 (12+C0 L E s D2);omega
      ·have w1:s0.par+((if V3 (12+C0 L E s D2) e.kind 0=true then d1+1 else d1:Nat):Int)<=16:=by
        split
        ·rename_i hw;simp only [V3,Bool.or_eq_true,Bool.and_eq_true,decide_eq_true_eq,beq_iff_eq,hlv] at hw;omega
        ·omega
       have w2:s0.par+((if V3 (12+C0 L E s D2) x.kind 1=true then d2+1 else d2:Nat):Int)<=16:=by
        split
        ·rename_i hw;simp only [V3,Bool.or_eq_true,Bool.and_eq_true,decide_eq_true_eq,beq_iff_eq,hlv] at hw;omega
        ·omega
       omega
     split at h
     ·cases h;exact step k
     ·rename_i hn3;have k1:=(OB.all f).2.1 _ _ _ _ h k;exact i2 n n _ _ s0 _ n1 n5 (.inr ⟨rfl,hn3⟩) h k (step k1) hp
  ·unfold Q5 at h;dsimp only at h;split at h
   ·cases h;exact (prim_sound hG rfl k hp).weak (by decide)
   ·rename_i hk;obtain ⟨hs,hi, -,hk3⟩:=G5 (show 0<=C0 L E s O3 by omega);have hk3:C0 L E s O3<3:=hk3;split at h
    ·rename_i hl;cases h;rw [hl] at k;cases k
    rename_i hl;have hl:okR (C7 L E s (s.par+1) 16 50)=true:=by simpa using hl
    obtain ⟨-,h2,h3⟩:=G3 (by decide) hl;rw [h3] at h;split at h
    ·split at h
     ·cases h
     ·rename_i e s3 hb;cases h;have k3:okR (D4 L E s3 [41])=true:=k;obtain ⟨-,x2⟩:=B0d k3;obtain ⟨e1,e2,o,d,e3,e4,e5,e6⟩:=i1 1 _ _ (by decide) (by decide) hb (H5 k3) (show s.par+1<=16 from h2);have e2':s3.par=s.par+1:=e2;have e4':s3.ops=s.ops+(o:Int):=e4;have e6':((1<=B3 e.kind/\s.par+1+(d:Int)<=16)\/s.par+1+(d:Int)+1<=16):=e6;rw [x2];refine ⟨hs,by show s3.par-1=s.par;omega,o,d,e3,e4',e5,.inr (by omega)⟩
    ·rename_i hk2;split at h
     ·cases h
     ·rename_i e s3 hb;cases h;have k3:okR s3=true:=k;obtain ⟨e1,e2,o,d,e3,e4,e5,e6⟩:=i3 _ _ hb k3 (show s.par+1<=16 from h2);have e2':s3.par=s.par+1:=e2;have e4':s3.ops=s.ops+(o:Int):=e4;have e6':((6<=B3 e.kind/\s.par+1+(d:Int)<=16)\/s.par+1+(d:Int)+1<=16):=e6;have hk10:10+C0 L E s O3=10\/10+C0 L E s O3=11:=by omega
      refine ⟨hs,by show s3.par-1=s.par;omega,o,_,ms_un hk10 e3,e4',e5,.inl ⟨?_,?_⟩⟩
      ·show 6<=B3 (10+C0 L E s O3);rw [A3a hk10];decide
      ·split
       ·rename_i hw;simp only [V3,Bool.or_eq_true,Bool.and_eq_true,decide_eq_true_eq,beq_iff_eq,A3a hk10] at hw;omega
       ·omega
theorem J9 (hG:∀ t∈L,G7 t) {f:Nat} {s:Rd} {r:Ex × Rd} (h:P3 L E f s=some r) (hok:okR r.2=true):okR s=true/\N2 r.1=true:=by
 obtain ⟨h1,h2,o,d,h3,h4,h5,h6⟩:=(SE.all hG f).1 1 _ _ (by decide) (by decide) h hok (by decide:(0:Int)<=16);refine ⟨h1,?_⟩;have h4':r.2.ops=0+(o:Int):=h4;have h6':((1<=B3 r.1.kind/\0+(d:Int)<=16)\/0+(d:Int)+1<=16):=h6;unfold N2;rw [h3];simp only [Bool.and_eq_true,decide_eq_true_eq];omega
end
end Go.Pb
namespace Go.Pb
variable [Go.Sym.Tab]
open Go.Sym
section
variable {L:List Tok} {E:Int}
theorem N9 (hG:∀ t∈L,G7 t) {s:Rd} (h:okR (B2 L E s 1).2=true):D6 (B2 L E s 1).1.text=true:=by
 obtain ⟨h1,h2⟩:=A2n h;rw [h2];exact (hG _ (I8 (by decide) (H3 h1).2).1).1 (H3 h1).2
theorem take_num (hG:∀ t∈L,G7 t) {s:Rd} (h:okR (B2 L E s 3).2=true):0<=(B2 L E s 3).1.value/\(B2 L E s 3).1.value<=2147483647:=by
 obtain ⟨h1,h2⟩:=A2n h;rw [h2];exact (hG _ (I8 (by decide) (H3 h1).2).1).2.1 (H3 h1).2
theorem take_txt (hG:∀ t∈L,G7 t) {s:Rd} (h:okR (B2 L E s 4).2=true):S2 (B2 L E s 4).1.text=true:=by
 obtain ⟨h1,h2⟩:=A2n h;rw [h2];exact (hG _ (I8 (by decide) (H3 h1).2).1).2.2 (H3 h1).2
theorem Y6 {d:Nat} {k p:Int} {n t:List UInt8} {a:List Ex} (h1:1<=k) (h2:k<=19) (h3:a.length=(L6 k).args) (h4:a.all N2=true)
  (h5:(if (L6 k).name=true then D6 n else n == [])=true) (h6:(if (L6 k).text=true then S2 t else t == [])=true):P9 d (.mk k n t a [] [] p)=true:=by
 unfold P9;simp only [Bool.and_eq_true,decide_eq_true_eq,beq_iff_eq];exact ⟨⟨⟨⟨⟨h1,h2⟩,h3,h4⟩,h5,h6⟩,by simp⟩,by simp [G6]⟩
theorem tail_sound (hG:∀ t∈L,G7 t) {f:Nat} {k p:Int} {s:Rd} {r:St × Rd} (d:Nat) (hk4:4<=k) (hk:k<=19) (h:L5 L E f k p s=some r) (hok:okR r.2=true):okR s=true/\P9 d r.1=true:=by
 unfold L5 at h;dsimp only at h;split at h
 ·rename_i hk;subst hk;split at h
  ·cases h
  ·rename_i e s1 he;cases h;obtain ⟨h1,h2⟩:=J9 hG he (H5 hok);exact ⟨h1,Y6 (by decide) (by decide) rfl (by simp [h2]) rfl rfl⟩
 split at h
 ·rename_i hk;subst hk;split at h
  ·cases h
  ·rename_i e s1 he;cases h;obtain ⟨h1,h2⟩:=J9 hG he (H5 hok);have h3:=H5 h1;exact ⟨U5 h3,Y6 (by decide) (by decide) rfl (by simp [h2]) rfl (take_txt hG h3)⟩
 split at h
 ·rename_i hk;subst hk;cases h;exact ⟨H5 hok,Y6 (by decide) (by decide) rfl rfl rfl rfl⟩
 rename_i n4 n18 n19;split at h
 ·rename_i hk;split at h
  ·cases h
  ·rename_i e s1 he;split at h
   ·rename_i hk9;subst hk9;split at h
    ·cases h
    ·rename_i e2 s2 he2;cases h;obtain ⟨h1,h2⟩:=J9 hG he2 (H5 hok);obtain ⟨h3,h4⟩:=J9 hG he (H5 h1);exact ⟨U5 h3,Y6 (by decide) (by decide) rfl (by simp [h2,h4]) (N9 hG h3) rfl⟩
   ·rename_i hk9;cases h;obtain ⟨h1,h2⟩:=J9 hG he (H5 hok);have:k=8\/k=10:=by omega
    rcases this with rfl|rfl
    all_goals exact ⟨U5 h1,Y6 (by decide) (by decide) rfl (by simp [h2]) (N9 hG h1) rfl⟩
 ·rename_i hk8;cases h;have h1:=H5 hok;have hs:L6 k=⟨true,false,0,false,false⟩:=by
   unfold L6;rw [if_neg (by omega),if_neg (by omega),if_neg (by omega),if_neg (by omega),if_neg (by omega),if_neg (by omega),if_neg (by omega)]
  exact ⟨U5 h1,Y6 (by omega) hk (by rw [hs];rfl) rfl (by rw [hs];exact N9 hG h1) (by rw [hs];rfl)⟩
theorem A6b {d:Nat}:∀ {l:List St} {x:St},G6 d (l++[x])=(G6 d l && P9 d x)
 | [],x=>by simp [G6]
 | a :: l,x=>by rw [List.cons_append,G6,G6,A6b,Bool.and_assoc]
theorem vl_block {d:Nat} {k p:Int} {e:Ex} {t o:List St} (hk:k=2\/k=3) (he:N2 e=true) (ht:M3 t (d+1)=true) (ho:M3 o (d+1)=true) (h3:k=3->o=[]):P9 d (.mk k [] [] [e] t o p)=true:=by
 unfold M3 at ht ho;unfold P9;rcases hk with rfl|rfl
 ·simp only [L6];simp [he,ht,ho];simpa using And.intro ht ho
 ·obtain rfl:=h3 rfl;simp only [L6];simp [he,G6];simpa using ht
theorem SS.all (hG:∀ t∈L,G7 t):∀ f:Nat,(∀ (d:Nat) s r,L2 L E f d s=some r->okR r.2=true->okR s=true/\M3 r.1 d=true) /\
  (∀ (d:Nat) l s r,O1 L E f d l s=some r->okR r.2=true->okR s=true/\(G6 d l=true->l.length<=64->(l=[]\/d<=8)->M3 r.1 d=true)) /\
  (∀ (d:Nat) s r,Q1 L E f d s=some r->okR r.2=true->okR s=true/\d<=8/\P9 d r.1=true) /\
  (∀ (d:Nat) s r,P0 L E f d s=some r->okR r.2=true->okR s=true/\M3 r.1 (d+1)=true)
 | 0=>⟨fun d s r h=>by simp [L2] at h,fun d l s r h=>by simp [O1] at h,fun d s r h=>by simp [Q1] at h,fun d s r h=>by simp [P0] at h⟩
 | f+1=>by
  obtain ⟨i1,i2,i3,i4⟩:=SS.all hG f;have hd1:∀ d:Nat,(d:Int)+1=((d+1:Nat):Int):=fun d=>by omega
  refine ⟨fun d s r h k=>?_,fun d l s r h k=>?_,fun d s r h k=>?_,fun d s r h k=>?_⟩
  ·unfold L2 at h;obtain ⟨h1,h2⟩:=i2 _ _ _ _ h k;exact ⟨H5 h1,h2 rfl (by simp) (.inl rfl)⟩
  ·unfold O1 at h;split at h
   ·rename_i hc;refine ⟨hc.1,fun h1 h2 h3=>?_⟩;split at h
    ·cases h;rw [W8] at k;cases k
    ·split at h
     ·cases h
     ·rename_i x s1 he;obtain ⟨h4,h5⟩:=i2 _ _ _ _ h k;obtain ⟨h6,h7,h8⟩:=i3 _ _ _ he h4;obtain ⟨-,h9, -⟩:=G3 (by decide) h6;exact h5 (by rw [A6b,h1,h8];rfl) (by simp only [List.length_append,List.length_singleton];omega) (.inr h7)
   ·cases h;refine ⟨H5 k,fun h1 h2 h3=>?_⟩;unfold M3;simp only [Bool.and_eq_true,Bool.or_eq_true,decide_eq_true_eq];exact ⟨⟨h2,h3.imp (fun h=>by rw [h];rfl) id⟩,h1⟩
  ·unfold Q1 at h;dsimp only at h;split at h
   ·rename_i hl;cases h;rw [hl] at k;cases k
   rename_i hl;have hl:okR (C7 L E s d 8 50)=true:=by simpa using hl
   obtain ⟨hs,hd,hle⟩:=G3 (by decide) hl;rw [hle] at h;refine ⟨hs,by omega,?_⟩;split at h
   ·split at h
    ·cases h
    ·rename_i e s1 he;cases h;obtain ⟨h1,h2⟩:=J9 hG he (H5 k);exact Y6 (by decide) (by decide) rfl (by simp [h2]) (N9 hG (H5 h1)) rfl
   ·rename_i hk;obtain ⟨-,hi, -,hk18⟩:=G5 (show 0<=C0 L E s B9 by omega);have hk18:C0 L E s B9<18:=hk18;generalize C0 L E s B9=q at h hk hk18;split at h
    ·rename_i hq;split at h
     ·cases h
     ·rename_i e s2 he;split at h
      ·cases h
      ·rename_i t s3 ht;rw [hd1] at ht;split at h
       ·rename_i hc;split at h
        ·cases h
        ·rename_i o s4 ho;cases h;obtain ⟨o1,o2⟩:=i4 _ _ _ ho k;obtain ⟨t1,t2⟩:=i1 _ _ _ ht (show okR s3=true from o1);obtain ⟨e1,e2⟩:=J9 hG he t1;exact vl_block (.inl rfl) e2 t2 o2 (fun h=>absurd h (by decide))
       ·cases h;obtain ⟨t1,t2⟩:=i1 _ _ _ ht k;obtain ⟨e1,e2⟩:=J9 hG he t1;exact vl_block (by omega) e2 t2 (by simp [M3,G6]) (fun _=>rfl)
    ·rename_i hq;exact (tail_sound hG d (by omega) (by omega) h k).2
  ·unfold P0 at h;rw [hd1] at h;split at h
   ·split at h
    ·cases h
    ·rename_i x s1 he;cases h;obtain ⟨h1,h2,h3⟩:=i3 _ _ _ he k;refine ⟨h1,?_⟩;unfold M3;simp only [Bool.and_eq_true,Bool.or_eq_true,decide_eq_true_eq];exact ⟨⟨by simp,.inr h2⟩,by rw [G6,G6,h3];rfl⟩
   ·exact i1 _ _ _ h k
theorem dcl_sound (hG:∀ t∈L,G7 t) {k:Int} {s:Rd} (h0:0<=k) (h8:k<8) (h:okR (Q8 L E k s).2=true):A0k (Q8 L E k s).1=true:=by
 have key:∀ d:Dc,1<=d.kind->d.kind<=8->D6 d.name=true->(if d.kind=6 then -2147483647 else 0)<=d.value->d.value<=(if d.kind=7\/d.kind=8 then 0 else 2147483647)->A0k d=true:=by
  intro d a1 a2 a3 a4 a5;simp only [A0k,Bool.and_eq_true,decide_eq_true_eq];exact ⟨⟨⟨⟨a1,a2⟩,a3⟩,a4⟩,a5⟩
 unfold Q8 at h ⊢;dsimp only at h ⊢;split at h
 ·rename_i hk;rw [if_pos hk];have h1:=H5 h;obtain ⟨n0,n1⟩:=take_num hG h1;have h2:=U5 h1;have h3:okR (B2 L E (B1 s) 1).2=true:=by
   split at h2
   ·exact h2
   ·exact h2
  refine key _ (by dsimp only;omega) (by dsimp only;omega) (N9 hG h3) ?_ ?_
  ·dsimp only;generalize (B2 L E (if (k+1 == 6 && isR L E (B2 L E (B1 s) 1).2 [45])=true then B1 (B2 L E (B1 s) 1).2 else (B2 L E (B1 s) 1).2) 3).1.value=w at n0 n1 ⊢;by_cases h6:k+1=6
   ·rw [if_pos (by omega)];split<;>omega
   ·rw [if_neg (by omega),if_neg (by simp [h6])];exact n0
  ·dsimp only;generalize (B2 L E (if (k+1 == 6 && isR L E (B2 L E (B1 s) 1).2 [45])=true then B1 (B2 L E (B1 s) 1).2 else (B2 L E (B1 s) 1).2) 3).1.value=w at n0 n1 ⊢;rw [if_neg (by omega:¬ (1+k=7\/1+k=8))];split<;>omega
 ·rename_i hk;rw [if_neg hk];have h3:=H5 h;refine key _ (by dsimp only;omega) (by dsimp only;omega) (N9 hG h3) ?_ ?_
  ·dsimp only;rw [if_neg (by omega)];decide
  ·dsimp only;split<;>decide
theorem A8k (hG:∀ t∈L,G7 t):∀ (f:Nat) (l:List Hd) (s:Rd) (r:List Hd × Rd),U7 L E f l s=some r->okR r.2=true->okR s=true/\(l.length<=32->l.all A0f=true->r.1.length<=32/\r.1.all A0f=true)
 | 0,l,s,r,h,_=>by simp [U7] at h
 | f+1,l,s,r,h,k=>by
  unfold U7 at h;dsimp only at h;split at h
  ·rename_i hc;refine ⟨hc.1,fun h1 h2=>?_⟩;split at h
   ·cases h;rw [W8] at k;cases k
   split at h
   ·cases h;rw [W8] at k;cases k
   rename_i hk;obtain ⟨hok2,hi2, -,hk6⟩:=G5 (show 0<=C0 L E (D4 L E (C7 L E s ((l.length:Int)+1) 32 9) [111,110]) E9 by omega);have hk6:C0 L E (D4 L E (C7 L E s ((l.length:Int)+1) 32 9) [111,110]) E9<6:=hk6;obtain ⟨-,hll, -⟩:=G3 (by decide) (H5 hok2);generalize C0 L E (D4 L E (C7 L E s ((l.length:Int)+1) 32 9) [111,110]) E9=q at h hk hk6;split at h
   ·cases h
   ·rename_i b s5 hb;obtain ⟨m1,m2⟩:=A8k hG f _ _ _ h k;obtain ⟨b1,b2⟩:=(SS.all hG f).1 1 _ _ hb m1;refine m2 (by simp only [List.length_append,List.length_singleton];omega) ?_;rw [List.all_append,h2,Bool.true_and];simp only [List.all_cons,List.all_nil,Bool.and_true,A0f,Bool.and_eq_true,decide_eq_true_eq];refine ⟨⟨⟨by omega,by omega⟩,?_⟩,b2⟩;by_cases hq:2<=q
    ·rw [if_pos (by omega),if_pos hq];rw [if_pos hq] at b1;exact N9 hG b1
    ·rw [if_neg (by omega),if_neg hq];rfl
  ·cases h;exact ⟨H5 k,fun h1 h2=>⟨h1,h2⟩⟩
theorem mod_sound (hG:∀ t∈L,G7 t) {f:Nat} {s:Rd} {r:Md × Rd} (h:A2x L E f s=some r) (k:okR r.2=true):okR s=true/\U0 r.1=true:=by
 unfold A2x at h;dsimp only at h;split at h
 ·cases h
 ·rename_i l s3 hm;cases h;obtain ⟨m1,m2⟩:=A8k hG _ _ _ _ hm k;obtain ⟨m3,m4⟩:=m2 (by simp) rfl;have h1:=H5 m1;have h2:=U5 h1;obtain ⟨n0,n1⟩:=take_num hG h1;refine ⟨H5 (U5 h2),?_⟩;simp only [U0,Bool.and_eq_true,decide_eq_true_eq];exact ⟨⟨⟨⟨N9 hG h2,n0⟩,n1⟩,m3⟩,m4⟩
theorem A3v (hG:∀ t∈L,G7 t):∀ (f:Nat) (l:List Dc) (s:Rd) (r:List Dc × Rd),T1 L E f l s=some r->okR r.2=true->okR s=true/\(l.length<=128->l.all A0k=true->r.1.length<=128/\r.1.all A0k=true)
 | 0,l,s,r,h,_=>by simp [T1] at h
 | f+1,l,s,r,h,k=>by
  unfold T1 at h;dsimp only at h;split at h
  ·cases h;exact ⟨k,fun h1 h2=>⟨h1,h2⟩⟩
  ·rename_i hk;obtain ⟨hs,hi, -,hk8⟩:=G5 (show 0<=C0 L E s E0 by omega);have hk8:C0 L E s E0<8:=hk8;refine ⟨hs,fun h1 h2=>?_⟩;split at h
   ·rename_i hl;obtain ⟨-,hll,hle⟩:=G3 (by decide) hl;obtain ⟨m1,m2⟩:=A3v hG f _ _ _ h k;exact m2 (by simp only [List.length_append,List.length_singleton];omega) (by rw [List.all_append,h2,Bool.true_and,List.all_cons,dcl_sound hG (by omega) hk8 m1];rfl)
   ·rename_i hl;obtain ⟨m1,m2⟩:=A3v hG f _ _ _ h k;exact absurd m1 hl
theorem A3u (hG:∀ t∈L,G7 t):∀ (f:Nat) (l:List Md) (s:Rd) (r:List Md × Rd),R5 L E f l s=some r->okR r.2=true->okR s=true/\(l.length<=16->l.all U0=true->r.1.length<=16/\r.1.all U0=true)
 | 0,l,s,r,h,_=>by simp [R5] at h
 | f+1,l,s,r,h,k=>by
  unfold R5 at h;dsimp only at h;split at h
  ·rename_i hc;refine ⟨hc.1,fun h1 h2=>?_⟩;split at h
   ·cases h;rw [W8] at k;cases k
   split at h
   ·rename_i hl;split at h
    ·cases h
    ·rename_i m s2 hm;obtain ⟨m1,m2⟩:=A3u hG f _ _ _ h k;obtain ⟨q1,q2⟩:=mod_sound hG hm m1;obtain ⟨-,hll,hle⟩:=G3 (by decide) hl;exact m2 (by simp only [List.length_append,List.length_singleton];omega) (by rw [List.all_append,h2,Bool.true_and,List.all_cons,q2];rfl)
   ·rename_i hl;obtain ⟨m1,m2⟩:=A3u hG f _ _ _ h k;exact absurd m1 hl
  ·cases h;exact ⟨k,fun h1 h2=>⟨h1,h2⟩⟩
theorem rul_sound (hG:∀ t∈L,G7 t) {f:Nat} {s:Rd} {r:Ru × Rd} (h:A3s L E f s=some r) (k:okR r.2=true):O4 r.1=true:=by
 unfold A3s at h;split at h
 ·cases h
 ·rename_i d s1 hd;split at h
  ·cases h
  ·rename_i m s2 hm;cases h;obtain ⟨m1,m2⟩:=A3u hG _ _ _ _ hm k;obtain ⟨m3,m4⟩:=m2 (by simp) rfl;obtain ⟨d1,d2⟩:=A3v hG _ _ _ _ hd m1;obtain ⟨d3,d4⟩:=d2 (by simp) rfl;simp only [O4,Bool.and_eq_true,decide_eq_true_eq];exact ⟨⟨⟨d3,m3⟩,d4⟩,m4⟩
end
end Go.Pb
namespace Go.Pb
variable [Go.Sym.Tab]
open Go.Sym
theorem A8b {p:UInt8->Bool}:∀ (s:List UInt8),D7 p (s.take (D7 p s))=D7 p s
 | []=>rfl
 | c :: r=>by
  have ih:=A8b (p:=p) r;by_cases h:p c=true
  ·simp only [D7,h,if_true,List.take_succ_cons];rw [ih]
  ·simp only [D7,h,if_false,List.take_zero,Bool.false_eq_true]
theorem A9l:∀ {s t:List UInt8} {n:Nat},quM s=some (t,n)->t.all txB=true
 | [],t,n,h=>by simp [quM] at h
 | c :: r,t,n,h=>by
  rw [U3] at h;split at h
  ·cases h;rfl
  ·split at h
   ·cases h
   ·rename_i h34 hr;split at h
    ·cases r with
     | nil=>cases h
     | cons d q =>
      simp only at h;split at h
      ·rename_i hd;obtain ⟨⟨t',n'⟩,h1,h2⟩:=Option.map_eq_some_iff.1 h;have:=A9l h1;cases h2;simp only [List.all_cons,this,Bool.and_true,txB,Bool.and_eq_true,decide_eq_true_eq];omega
      ·cases h
    ·obtain ⟨⟨t',n'⟩,h1,h2⟩:=Option.map_eq_some_iff.1 h;have:=A9l h1;cases h2;simp only [List.all_cons,this,Bool.and_true,txB,Bool.and_eq_true,decide_eq_true_eq];omega
theorem nextM_good {s:List UInt8} {p:Int} (h:(C6 s).err=0):G7 (nxT (C6 s) p)/\0<=(C6 s).value/\(C6 s).value<=2147483647:=by
 unfold G7;cases s with
 | nil=>simp [C6,nxE] at h
 | cons c q =>
  by_cases hl:ltB c=true
  ·by_cases h12:12<D7 ptB (c :: q)
   ·rw [C6,if_pos hl,if_pos h12] at h;simp [nxE] at h
   ·rw [C6,if_pos hl,if_neg h12,nxT];refine ⟨⟨fun hk=>?_,fun hk=>?_,fun hk=>?_⟩,by simp,by simp⟩
    ·simp only at hk ⊢;have hw:G8 ((c :: q).take (D7 ptB (c :: q)))=false:=by
      cases hz:G8 ((c :: q).take (D7 ptB (c :: q))) with
      | false=>rfl
      | true=>rw [hz] at hk;simp at hk
     have hp:ptB c=true:=by unfold ptB;rw [hl];rfl
     have h1:1<=D7 ptB (c :: q):=by simp only [D7,hp,if_true];omega
     have hle:=V9 ptB (c :: q);have hlen:((c :: q).take (D7 ptB (c :: q))).length=D7 ptB (c :: q):=by rw [List.length_take];omega
     have hhd:∃ r,(c :: q).take (D7 ptB (c :: q))=c :: r:=by
      obtain ⟨k,hk⟩:∃ k,D7 ptB (c :: q)=k+1:=⟨D7 ptB (c :: q)-1,by omega⟩;rw [hk];exact ⟨_,rfl⟩
     unfold D6;rw [hlen,hw,A8b];obtain ⟨r,hr⟩:=hhd;rw [hr];simp only [hl,Bool.and_true,Bool.not_false,Bool.and_eq_true,decide_eq_true_eq];exact ⟨⟨h1,by omega⟩,trivial⟩
    ·simp only at hk;split at hk<;>simp at hk
    ·simp only at hk;split at hk<;>simp at hk
  ·by_cases hd:dgB c=true
   ·by_cases h3:1<D7 dgB (c :: q)/\c.toNat=48
    ·rw [C6,if_neg hl,if_pos hd,if_pos h3] at h;simp [nxE] at h
    ·by_cases h2:2147483647<Z4 ((c :: q).take (D7 dgB (c :: q)))
     ·rw [C6,if_neg hl,if_pos hd,if_neg h3,if_pos h2] at h;simp [nxE] at h
     ·rw [C6,if_neg hl,if_pos hd,if_neg h3,if_neg h2,nxT];refine ⟨⟨fun hk=>by simp at hk,fun hk=>?_,fun hk=>by simp at hk⟩,?_⟩
      ·simp only;omega
      ·simp only;omega
   ·by_cases h34:c.toNat=34
    ·cases hq:quM q with
     | none=>rw [C6,if_neg hl,if_neg hd,if_pos h34,hq] at h;simp [nxE] at h
     | some x =>
      obtain ⟨t,m⟩:=x;by_cases h32:32<t.length
      ·rw [C6,if_neg hl,if_neg hd,if_pos h34,hq] at h;simp only at h;rw [if_pos h32] at h;simp [nxE] at h
      ·rw [C6,if_neg hl,if_neg hd,if_pos h34,hq];simp only;rw [if_neg h32,nxT];refine ⟨⟨fun hk=>by simp at hk,fun hk=>by simp at hk,fun hk=>?_⟩,by simp,by simp⟩;simp only [S2,A9l hq,Bool.true_and,decide_eq_true_eq];omega
    ·by_cases hs:M5 (c :: q)=0
     ·rw [C6,if_neg hl,if_neg hd,if_neg h34,if_pos hs] at h;simp [nxE] at h
     ·rw [C6,if_neg hl,if_neg hd,if_neg h34,if_neg hs,nxT];exact ⟨⟨fun hk=>by simp at hk,fun hk=>by simp at hk,fun hk=>by simp at hk⟩,by simp,by simp⟩
theorem TOk.good {t:Tok} (h:TOk t):G7 t/\0<=t.value/\t.value<=2147483647:=by
 obtain ⟨s,p,h1,rfl⟩:=h;obtain ⟨h2,h3⟩:=nextM_good (p:=p) h1;exact ⟨h2,h3⟩
theorem A6l {s:List UInt8} (h:(C8 s).2.2=0):∀ t∈(C8 s).1,G7 t:=fun t ht=>(scan_ok h t ht).good.1
theorem scan_val {s:List UInt8} (h:(C8 s).2.2=0):∀ t∈(C8 s).1,0<=t.value/\t.value<=9223372036854775807:=fun t ht=>by
 have:=(scan_ok h t ht).good.2;omega
theorem A5o {s:List UInt8} (h:(C8 s).2.2=0):(C8 s).1.length<=20000:=Nat.le_trans (scanM_len s) (A4p h).1
def rd0:Rd:=⟨0,0,0,0,0⟩
def W9 (L:List Tok) (E:Int):Ru × Rd:=Classical.choose (rul_tot (L:=L) (E:=E) rd0)
theorem A3t (L:List Tok) (E:Int):Evt (fun f=>A3s L E f rd0) (W9 L E):=Classical.choose_spec (rul_tot (L:=L) (E:=E) rd0)
def R3 (L:List Tok) (E:Int):Ex × Rd:=Classical.choose (V7 (L:=L) (E:=E) rd0)
theorem A5z (L:List Tok) (E:Int):Xpn L E rd0 (R3 L E):=(Classical.choose_spec (V7 (L:=L) (E:=E) rd0)).1
def Ru0:Ru:=⟨[],[]⟩
def V5 (s:List UInt8):Ru × Int × Int :=
 let q:=C8 s
 if q.2.2≠0 then (Ru0,q.2.1,q.2.2)
 else if okR (W9 q.1 s.length).2=false then (Ru0,(W9 q.1 s.length).2.pos,(W9 q.1 s.length).2.e)
 else ((W9 q.1 s.length).1,0,0)
abbrev parV (q:Ru × Int × Int):DV:=.tup [q.1.v,I64 q.2.1,I64 q.2.2]
def X1 (s:List UInt8):Ex × Int × Int :=
 let q:=C8 s
 if q.2.2≠0 then (Ex0,q.2.1,q.2.2)
 else
  let w:=R3 q.1 s.length
  let z:=if okR w.2=true/\w.2.i<q.1.length then K5 q.1 s.length w.2 else w.2
  if okR z=false then (Ex0,z.pos,z.e) else (w.1,0,0)
abbrev parEV (q:Ex × Int × Int):DV:=.tup [q.1.v,I64 q.2.1,I64 q.2.2]
theorem parV_nl (q:Ru × Int × Int):(parV q).nl=true:=by
 simp only [DV.nl,DV.nlL,Ru.nl,H7,H6,Bool.and_true]
theorem parEV_nl (q:Ex × Int × Int):(parEV q).nl=true:=by
 simp only [DV.nl,DV.nlL,Ex.nl,Bool.and_true]
end Go.Pb
namespace Go.Proofs.YtnmkkggfgdfmeaaGreatDoor
open Go.Eng (IC IOper DReg IFn A6)
open Go.Sym Go.Pb
theorem pc_ru0 {H:Hp} {a b:DV}:∃ H2,GL H [.tup [.agg [.snil,.snil],a,b]] H2 [.tup [.agg [.lst [],.lst []],a,b]] :=
 ⟨H,GL.view fun ρ vs hA=>N0 (fun v h=>by
  obtain ⟨b',rfl,k1,k2⟩:=h.tup_inv;refine .tup _ _ k1 fun i x y hx hy=>?_
  match i with
  | 0 =>
   cases hx;obtain ⟨c',rfl,m1,m2⟩:=(k2 0 _ y rfl hy).agg_inv;refine .agg _ _ m1 fun j x z hx hz=>?_
   match j with
   | 0=>cases hx;exact (m2 0 _ z rfl hz).snil_lst
   | 1=>cases hx;exact (m2 1 _ z rfl hz).snil_lst
   | _+2=>cases hx
  | 1=>cases hx;exact k2 1 _ y rfl hy
  | 2=>cases hx;exact k2 2 _ y rfl hy
  | _+3=>cases hx) vs hA⟩
theorem c_Parse (s:List UInt8) (hs:s.length<=1000000000):PC Tryz.prog 15 [.str s] (parV (V5 s)):=by
 refine PC.of A9 isU15 (Nat.le_of_ble_eq_true rfl) rfl (parV_nl _) ?_;show IW Tryz.prog 41 u15_1 ⟨B6 _,_,_⟩ (rt [.cell 2 2 true,.tmp 3,.tmp 4] _);have hsc:=c_ScanR s hs;have hpar:V5 s=V5 s:=rfl;by_cases h0:(C8 s).2.2=0
 ·have hd:((C8 s).2.2 != 0)=false:=by simpa using h0
  repeat' ((with_reducible first|apply wr|refine cpc hsc ?_|fail)<;>try simp only [go_sem,seval,hd])
  obtain ⟨f,hf⟩:=(A3t (C8 s).1 s.length).get;refine AC.call (c_rules (C8 s).1 s.length (by have:=A5o h0;omega) (scan_val h0) f rd0 _ hf (Nat.zero_le _) _ _ 1 rfl (by decide)) ?_;rintro v H' c2 ⟨rfl,rfl⟩ hc2;have hM:V5 s=if okR (W9 (C8 s).1 s.length).2=false then (Ru0,(W9 (C8 s).1 s.length).2.pos,(W9 (C8 s).1 s.length).2.e) else ((W9 (C8 s).1 s.length).1,0,0):=by
   unfold V5;dsimp only;rw [if_neg (by simpa using h0)]
  rw [hM];generalize W9 (C8 s).1 s.length=w;clear hM hpar hf;have ne0:=R8 0 1 c2 (by omega);simp only [go_sem,seval,ne0,A0,A1];repeat' ((with_reducible apply wr)<;>try simp only [go_sem,seval,ne0,A0,A1])
  refine AC.call (c_rdok (C8 s).1 s.length w.2 _ _ 1 (by rw [A2 (by omega)];exact A0) (by omega)) ?_;rintro v H' c3 ⟨rfl,rfl⟩ hc3;cases hok:okR w.2 with
  | true =>
   rw [if_neg (by decide)];simp only [go_sem,seval,hok,ne0,A0,A1];repeat' ((with_reducible apply wr)<;>try simp only [go_sem,seval,hok,ne0,A0,A1])
   rw [E5 (v:=parV (w.1,0,0)) rfl];exact ⟨_,GL.refl _ _⟩
  | false =>
   rw [if_pos rfl];simp only [go_sem,seval,hok,ne0,A0,A1];repeat' ((with_reducible apply wr)<;>try simp only [go_sem,seval,hok,ne0,A0,A1])
   repeat refine ⟨by and_intros<;>(repeat rw [A2 (by omega)])<;>rfl,?_⟩
   repeat' ((with_reducible apply wr)<;>try simp only [go_sem,seval,hok,ne0,A0,A1])
   rw [E5 (v:=.tup [.agg [.snil,.snil],I64 w.2.pos,I64 w.2.e]) rfl];exact pc_ru0
 ·have hd:((C8 s).2.2 != 0)=true:=by simpa using h0
  have hM:V5 s=(Ru0,(C8 s).2.1,(C8 s).2.2):=by
   unfold V5;dsimp only;rw [if_pos h0]
  rw [hM];repeat' ((with_reducible first|apply wr|refine cpc hsc ?_|fail)<;>try simp only [go_sem,seval,hd])
  rw [E5 (v:=.tup [.agg [.snil,.snil],I64 (C8 s).2.1,I64 (C8 s).2.2]) rfl];exact pc_ru0
theorem pc_ex0 {H:Hp} {a b k z n p:DV}:∃ H2,GL H [.tup [.agg [k,z,n,.snil,p],a,b]] H2 [.tup [.agg [k,z,n,.lst [],p],a,b]] :=
 ⟨H,GL.view fun ρ vs hA=>N0 (fun v h=>by
  obtain ⟨b',rfl,k1,k2⟩:=h.tup_inv;refine .tup _ _ k1 fun i x y hx hy=>?_
  match i with
  | 0=>cases hx;exact v_ex (k2 0 _ y rfl hy)
  | 1=>cases hx;exact k2 1 _ y rfl hy
  | 2=>cases hx;exact k2 2 _ y rfl hy
  | _+3=>cases hx) vs hA⟩
theorem c_ParseExpr (s:List UInt8) (hs:s.length<=1000000000):PC Tryz.prog 23 [.str s] (parEV (X1 s)):=by
 refine PC.of A9 isU23 (Nat.le_of_ble_eq_true rfl) rfl (parEV_nl _) ?_;show IW Tryz.prog 57 u23_1 ⟨B6 _,_,_⟩ (rt [.cell 2 5 true,.tmp 3,.tmp 4] _);have hsc:=c_ScanR s hs;by_cases h0:(C8 s).2.2=0
 ·have hd:((C8 s).2.2 != 0)=false:=by simpa using h0
  repeat' ((with_reducible first|apply wr|refine cpc hsc ?_|fail)<;>try simp only [go_sem,seval,hd])
  obtain ⟨f,hf⟩:=(A5z (C8 s).1 s.length).get;refine AC.call (c_expression (C8 s).1 s.length (by have:=A5o h0;omega) f rd0 _ hf (Nat.zero_le _) _ _ 1 rfl (by decide)) ?_;rintro v H' c2 ⟨rfl,rfl⟩ hc2;have hM:X1 s=if okR (if okR (R3 (C8 s).1 s.length).2=true/\(R3 (C8 s).1 s.length).2.i<(C8 s).1.length then K5 (C8 s).1 s.length (R3 (C8 s).1 s.length).2 else (R3 (C8 s).1 s.length).2)=false then (Ex0,(if okR (R3 (C8 s).1 s.length).2=true/\(R3 (C8 s).1 s.length).2.i<(C8 s).1.length then K5 (C8 s).1 s.length (R3 (C8 s).1 s.length).2 else (R3 (C8 s).1 s.length).2).pos,(if okR (R3 (C8 s).1 s.length).2=true/\(R3 (C8 s).1 s.length).2.i<(C8 s).1.length then K5 (C8 s).1 s.length (R3 (C8 s).1 s.length).2 else (R3 (C8 s).1 s.length).2).e) else ((R3 (C8 s).1 s.length).1,0,0):=by
   unfold X1;dsimp only;rw [if_neg (by simpa using h0)]
  rw [hM];generalize R3 (C8 s).1 s.length=w;clear hM hf;try dsimp only
  rw [Ex.v_w];have ne0:=R8 0 1 c2 (by omega);simp only [go_sem,seval,ne0,A0,A1];repeat' ((with_reducible apply wr)<;>try simp only [go_sem,seval,ne0,A0,A1])
  refine AC.call (c_rdok (C8 s).1 s.length w.2 _ _ 1 (by rw [A2 (by omega)];exact A0) (by omega)) ?_;rintro v H' c3 ⟨rfl,rfl⟩ hc3;obtain ⟨z,hz⟩:∃ z,z=(if okR w.2=true/\w.2.i<(C8 s).1.length then K5 (C8 s).1 s.length w.2 else w.2):=⟨_,rfl⟩;rw [<- hz];by_cases hok:okR w.2=true
  case neg =>
   rw [if_neg (fun h=>hok h.1)] at hz;rw [hz];have hok:okR w.2=false:=by simpa using hok
   rw [if_pos hok];simp only [go_sem,seval,hok,ne0,A0,A1];repeat' ((with_reducible apply wr)<;>try simp only [go_sem,seval,hok,ne0,A0,A1])
   refine AC.call (c_rdok (C8 s).1 s.length w.2 _ _ 1 (by rw [A2 (by omega)];exact A0) (by omega)) ?_;rintro v H' c4 ⟨rfl,rfl⟩ hc4;have ne0:=R7 0 1 c2 c4 (by omega);simp only [go_sem,seval,hok,ne0,A0,A1];repeat' ((with_reducible apply wr)<;>try simp only [go_sem,seval,hok,ne0,A0,A1])
   repeat refine ⟨by and_intros<;>(repeat rw [A2 (by omega)])<;>rfl,?_⟩
   repeat' ((with_reducible apply wr)<;>try simp only [go_sem,seval,hok,ne0,A0,A1])
   rw [E5 (v:=.tup [.agg [I64 0,I64 0,.str [],.snil,I64 0],I64 (w.2).pos,I64 (w.2).e]) rfl];exact pc_ex0
  case pos =>
   by_cases hlt:w.2.i<(C8 s).1.length
   ·have hdl:decide ((w.2.i:Int)<((C8 s).1.length:Int))=true:=by simpa using hlt
    rw [if_pos ⟨hok,hlt⟩] at hz;have hsy:okR z=false:=by rw [hz];exact W8
    rw [if_pos hsy];simp only [go_sem,seval,hok,hdl,ne0,A0,A1];repeat' ((with_reducible apply wr)<;>try simp only [go_sem,seval,hok,hdl,ne0,A0,A1])
    refine AC.call (c_syntax (C8 s).1 s.length w.2 _ _ 1 (by rw [A2 (by omega)];exact A0) (by omega)) ?_;rintro v H' c5 ⟨rfl,rfl⟩ hc5;rw [<- hz];simp only [go_sem,seval,ne0,A0,A1];repeat' ((with_reducible apply wr)<;>try simp only [go_sem,seval,ne0,A0,A1])
    refine AC.call (c_rdok (C8 s).1 s.length z _ _ 1 A0 (by omega)) ?_;rintro v H' c4 ⟨rfl,rfl⟩ hc4;have ne0:=R7 0 1 c2 c4 (by omega);simp only [go_sem,seval,hsy,ne0,A0,A1];repeat' ((with_reducible apply wr)<;>try simp only [go_sem,seval,hsy,ne0,A0,A1])
    repeat refine ⟨by and_intros<;>(repeat rw [A2 (by omega)])<;>rfl,?_⟩
    repeat' ((with_reducible apply wr)<;>try simp only [go_sem,seval,hsy,ne0,A0,A1])
    rw [E5 (v:=.tup [.agg [I64 0,I64 0,.str [],.snil,I64 0],I64 z.pos,I64 z.e]) rfl];exact pc_ex0
   ·have hdl:decide ((w.2.i:Int)<((C8 s).1.length:Int))=false:=by simpa using hlt
    rw [if_neg (fun h=>hlt h.2)] at hz;subst hz;rw [if_neg (by rw [hok];decide)];simp only [go_sem,seval,hok,hdl,ne0,A0,A1];repeat' ((with_reducible apply wr)<;>try simp only [go_sem,seval,hok,hdl,ne0,A0,A1])
    refine AC.call (c_rdok (C8 s).1 s.length w.2 _ _ 1 (by rw [A2 (by omega)];exact A0) (by omega)) ?_;rintro v H' c4 ⟨rfl,rfl⟩ hc4;simp only [go_sem,seval,hok,ne0,A0,A1];repeat' ((with_reducible apply wr)<;>try simp only [go_sem,seval,hok,ne0,A0,A1])
    rw [E5 (v:=.tup [w.1.w,I64 0,I64 0]) rfl];rw [<- Ex.v_w];exact ⟨_,GL.refl _ _⟩
 ·have hd:((C8 s).2.2 != 0)=true:=by simpa using h0
  have hM:X1 s=(Ex0,(C8 s).2.1,(C8 s).2.2):=by
   unfold X1;dsimp only;rw [if_pos h0]
  rw [hM];repeat' ((with_reducible first|apply wr|refine cpc hsc ?_|fail)<;>try simp only [go_sem,seval,hd])
  rw [E5 (v:=.tup [.agg [I64 0,I64 0,.str [],.snil,I64 0],I64 (C8 s).2.1,I64 (C8 s).2.2]) rfl];exact pc_ex0
open Go.Sym
section
abbrev u132_8:=qK .skip (.exit 0) (.t 9) [0,3,4,9]
abbrev u132_7:=qS [oM 6 4,oM 7 0,oH 8 7,oB 9 6 8 .lss] u132_8 [0,3,4]
abbrev u132_14:=qE [oF 22 5 0,⟨none,.eff (.st 1 (.t 22) (.k (.int .i64 2))),none⟩] [0,3,4,5]
abbrev u132_17:=qE [oF 28 5 0,⟨none,.eff (.st 1 (.t 28) (.k (.int .i64 1))),none⟩] [0,3,4,5]
abbrev u132_16:=qK u132_17 .skip (.t 27) [0,3,4,5,27]
abbrev u132_15:=qS [oM 23 0,oM 24 4,oA 25 23 24 1,oL 26 25,oC 27 152 [.t 26]] u132_16 [0,3,4,5]
abbrev u132_13:=qK u132_14 u132_15 (.t 21) [0,3,4,5,21]
abbrev u132_12:=qS [oM 17 0,oM 18 4,oA 19 17 18 1,oL 20 19,oC 21 140 [.t 20]] u132_13 [0,3,4,5]
abbrev u132_18:=qE [oM 29 3,oD 30 5 4,⟨some 31,.new (.bsl 4 1 #[.int .i64 0,.string ⟨#[]⟩,.int .i64 0,.int .i64 0] [(0,.t 30)]),none⟩,oT 32 29 31 4 40,oM 3 32] [0,3,4,5]
abbrev u132_11:=qQ u132_12 u132_18 [0,3,4,5]
abbrev u132_10:=qS [oM 12 0,oM 13 4,oA 14 12 13 1,oL 15 14,oP 16 (.bld #[.int .i64 0,.string ⟨#[]⟩,.int .i64 0,.int .i64 0] [(0,1),(1,1),(2,1),(3,1)] [(0,.k (.int .i64 5)),(1,.t 15)]),oW 5 (.agg #[.int .i64 0,.string ⟨#[]⟩,.int .i64 0,.int .i64 0]),oS 5 16 4] u132_11 [0,3,4]
abbrev u132_19:=qE [oM 10 4,oK 11 10 .add 1,oM 4 11] [0,3,4]
abbrev u132_9:=qB u132_10 u132_19 1 [0,3,4]
abbrev u132_6:=qQ u132_7 u132_9 [0,3,4]
abbrev u132_5:=qJ (.loop u132_6) 0 [0,3,4]
abbrev u132_4:=qS [oI 4 0] u132_5 [0,3]
abbrev u132_20:=qS [oM 33 3,oM 2 33] .ret [3]
abbrev u132_3:=qQ u132_4 u132_20 [0,3]
abbrev u132_2:=qS [oV 3 (.slice none 0 0)] u132_3 [0]
abbrev u132_1:=qS [oV 2 (.slice none 0 0)] u132_2 [0]
def u132:IFn:=⟨34,u132_1,[.tmp 2]⟩
end
theorem isU132:A6 Tryz.prog 132 u132:=by unfold A6;kernel_rfl
section
abbrev u133_5:=qS [oP 6 (.bld #[.int .i64 0,.string ⟨#[]⟩,.int .i64 0,.int .i64 0] [(0,1),(1,1),(2,1),(3,1)] []),⟨some 7,.new (.bsl 4 1 #[.int .i64 0,.string ⟨#[]⟩,.int .i64 0,.int .i64 0] [(0,.t 6)]),none⟩,oM 2 7] .ret []
abbrev u133_4:=qK u133_5 .skip (.t 5) [0,5]
abbrev u133_3:=qS [oM 3 0,oC 4 152 [.t 3],oY 5 4] u133_4 [0]
abbrev u133_6:=qS [oM 8 0,oP 9 (.bld #[.int .i64 0,.string ⟨#[]⟩,.int .i64 0,.int .i64 0] [(0,1),(1,1),(2,1),(3,1)] [(0,.k (.int .i64 1)),(1,.t 8)]),⟨some 10,.new (.bsl 4 1 #[.int .i64 0,.string ⟨#[]⟩,.int .i64 0,.int .i64 0] [(0,.t 9)]),none⟩,oM 2 10] .ret [0]
abbrev u133_2:=qQ u133_3 u133_6 [0]
abbrev u133_1:=qS [oV 2 (.slice none 0 0)] u133_2 [0]
def u133:IFn:=⟨11,u133_1,[.tmp 2]⟩
end
theorem isU133:A6 Tryz.prog 133 u133:=by unfold A6;kernel_rfl
section
abbrev u134_5:=qS [oP 9 (.bld #[.int .i64 0,.string ⟨#[]⟩,.int .i64 0,.int .i64 0] [(0,1),(1,1),(2,1),(3,1)] []),⟨some 10,.new (.bsl 4 1 #[.int .i64 0,.string ⟨#[]⟩,.int .i64 0,.int .i64 0] [(0,.t 9)]),none⟩,oM 2 10] .ret []
abbrev u134_4:=qK u134_5 .skip (.t 8) [0,8]
abbrev u134_3:=qS [oM 3 0,oK 4 3 .lss 0,oM 5 4,hM 6 0 5,hK 7 6 5 .gtr 2147483647,oO 8 5 7] u134_4 [0]
abbrev u134_6:=qS [oM 11 0,oP 12 (.bld #[.int .i64 0,.string ⟨#[]⟩,.int .i64 0,.int .i64 0] [(0,1),(1,1),(2,1),(3,1)] [(0,.k (.int .i64 3)),(2,.t 11)]),⟨some 13,.new (.bsl 4 1 #[.int .i64 0,.string ⟨#[]⟩,.int .i64 0,.int .i64 0] [(0,.t 12)]),none⟩,oM 2 13] .ret [0]
abbrev u134_2:=qQ u134_3 u134_6 [0]
abbrev u134_1:=qS [oV 2 (.slice none 0 0)] u134_2 [0]
def u134:IFn:=⟨14,u134_1,[.tmp 2]⟩
end
theorem isU134:A6 Tryz.prog 134 u134:=by unfold A6;kernel_rfl
section
abbrev u164_7:=qK .skip (.exit 0) (.t 7) [0,3,7]
abbrev u164_6:=qS [oM 4 3,oM 5 0,oP 6 (.lens (.t 5)),oB 7 4 6 .lss] u164_7 [0,3]
abbrev u164_11:=qS [oP 20 (.bld #[.int .i64 0,.string ⟨#[]⟩,.int .i64 0,.int .i64 0] [(0,1),(1,1),(2,1),(3,1)] []),⟨some 21,.new (.bsl 4 1 #[.int .i64 0,.string ⟨#[]⟩,.int .i64 0,.int .i64 0] [(0,.t 20)]),none⟩,oM 2 21] .ret []
abbrev u164_10:=qK u164_11 .skip (.t 19) [0,3,19]
abbrev u164_9:=qS [oM 10 0,oM 11 3,oP 12 (.idx (.t 10) (.t 11)),oP 13 (.bin .lss (.t 12) (.k (.int .u8 32))),oM 14 13,hM 15 0 14,hM 16 3 14,oR 17 (.idx (.t 15) (.t 16)) 14,oR 18 (.bin .gtr (.t 17) (.k (.int .u8 126))) 14,oO 19 14 18] u164_10 [0,3]
abbrev u164_12:=qE [oM 8 3,oK 9 8 .add 1,oM 3 9] [0,3]
abbrev u164_8:=qB u164_9 u164_12 1 [0,3]
abbrev u164_5:=qQ u164_6 u164_8 [0,3]
abbrev u164_4:=qJ (.loop u164_5) 0 [0,3]
abbrev u164_3:=qS [oI 3 0] u164_4 [0]
abbrev u164_16:=qS [oP 25 (.bld #[.int .i64 0,.string ⟨#[]⟩,.int .i64 0,.int .i64 0] [(0,1),(1,1),(2,1),(3,1)] []),⟨some 26,.new (.bsl 4 1 #[.int .i64 0,.string ⟨#[]⟩,.int .i64 0,.int .i64 0] [(0,.t 25)]),none⟩,oM 2 26] .ret []
abbrev u164_15:=qK u164_16 .skip (.t 24) [0,24]
abbrev u164_14:=qS [oM 22 0,oP 23 (.lens (.t 22)),oK 24 23 .gtr 32] u164_15 [0]
abbrev u164_17:=qS [oM 27 0,oP 28 (.bld #[.int .i64 0,.string ⟨#[]⟩,.int .i64 0,.int .i64 0] [(0,1),(1,1),(2,1),(3,1)] [(0,.k (.int .i64 4)),(1,.t 27)]),⟨some 29,.new (.bsl 4 1 #[.int .i64 0,.string ⟨#[]⟩,.int .i64 0,.int .i64 0] [(0,.t 28)]),none⟩,oM 2 29] .ret [0]
abbrev u164_13:=qQ u164_14 u164_17 [0]
abbrev u164_2:=qQ u164_3 u164_13 [0]
abbrev u164_1:=qS [oV 2 (.slice none 0 0)] u164_2 [0]
def u164:IFn:=⟨30,u164_1,[.tmp 2]⟩
end
theorem isU164:A6 Tryz.prog 164 u164:=by unfold A6;kernel_rfl
section
abbrev u131_8:=qK .skip (.exit 0) (.t 8) [0,3,4,8]
abbrev u131_7:=qS [oM 5 4,oM 6 0,oH 7 6,oB 8 5 7 .lss] u131_8 [0,3,4]
abbrev u131_10:=qE [oM 11 3,oM 12 0,oM 13 4,oA 14 12 13 1,oL 15 14,oT 16 11 15 4 40,oM 3 16] [0,3,4]
abbrev u131_11:=qE [oM 9 4,oK 10 9 .add 1,oM 4 10] [0,3,4]
abbrev u131_9:=qB u131_10 u131_11 1 [0,3,4]
abbrev u131_6:=qQ u131_7 u131_9 [0,3,4]
abbrev u131_5:=qJ (.loop u131_6) 0 [0,3,4]
abbrev u131_4:=qS [oI 4 0] u131_5 [0,3]
abbrev u131_12:=qS [oM 17 3,oM 2 17] .ret [3]
abbrev u131_3:=qQ u131_4 u131_12 [0,3]
abbrev u131_2:=qS [oV 3 (.slice none 0 0)] u131_3 [0]
abbrev u131_1:=qS [oV 2 (.slice none 0 0)] u131_2 [0]
def u131:IFn:=⟨18,u131_1,[.tmp 2]⟩
end
theorem isU131:A6 Tryz.prog 131 u131:=by unfold A6;kernel_rfl
section
abbrev u137_5:=qD [⟨some 10,.new (.bsl 1 1 #[.string ⟨#[]⟩] [(0,.k (.string ⟨#[40]⟩))]),none⟩,oC 11 132 [.t 10],oD 12 2 5,oC 13 100 [.t 12],⟨some 14,.new (.bsl 1 1 #[.string ⟨#[]⟩] [(0,.k (.string ⟨#[41]⟩))]),none⟩,oC 15 132 [.t 14],⟨some 16,.new (.bsl 1 3 #[.slice none 0 0] [(0,.t 11),(1,.t 13),(2,.t 15)]),none⟩,oC 17 131 [.t 16],oM 4 17] .ret [(0,none),(2,none),(4,none),(1,some [2,4]),(3,some [4]),(5,some []),(6,none),(7,some []),(8,some [])] 9 [2]
abbrev u137_4:=qK u137_5 .skip (.t 9) [2,9]
abbrev u137_3:=qS [oF 5 2 0,oL 6 5,oC 7 126 [.t 6],oM 8 1,oB 9 7 8 .lss] u137_4 [1,2]
abbrev u137_6:=qS [oD 18 2 5,oC 19 100 [.t 18],oM 4 19] .ret [2]
abbrev u137_2:=qQ u137_3 u137_6 [1,2]
abbrev u137_1:=qS [oX 2 0,oV 4 (.slice none 0 0)] u137_2 [0,1]
def u137:IFn:=⟨20,u137_1,[.tmp 4]⟩
end
theorem isU137:A6 Tryz.prog 137 u137:=by unfold A6;kernel_rfl
section
abbrev u100_6:=qS [oF 12 1 1,oL 13 12,oC 14 134 [.t 13],oM 2 14] .ret [1]
abbrev u100_9:=qS [oF 19 1 2,oL 20 19,oC 21 133 [.t 20],oM 2 21] .ret [1]
abbrev u100_12:=qS [⟨some 26,.new (.bsl 1 1 #[.string ⟨#[]⟩] [(0,.k (.string ⟨#[116,114,117,101]⟩))]),none⟩,oC 27 132 [.t 26],oM 2 27] .ret []
abbrev u100_15:=qS [⟨some 32,.new (.bsl 1 1 #[.string ⟨#[]⟩] [(0,.k (.string ⟨#[102,97,108,115,101]⟩))]),none⟩,oC 33 132 [.t 32],oM 2 33] .ret []
abbrev u100_18:=qS [⟨some 38,.new (.bsl 1 1 #[.string ⟨#[]⟩] [(0,.k (.string ⟨#[112,108,97,121,101,114]⟩))]),none⟩,oC 39 132 [.t 38],oM 2 39] .ret []
abbrev u100_21:=qS [⟨some 44,.new (.bsl 1 1 #[.string ⟨#[]⟩] [(0,.k (.string ⟨#[98,97,108,108]⟩))]),none⟩,oC 45 132 [.t 44],oM 2 45] .ret []
abbrev u100_24:=qD [⟨some 50,.new (.bsl 1 1 #[.string ⟨#[]⟩] [(0,.k (.string ⟨#[99,108,111,115,101,100]⟩))]),none⟩,oC 51 132 [.t 50],oF 52 1 2,oL 53 52,oC 54 133 [.t 53],⟨some 55,.new (.bsl 1 2 #[.slice none 0 0] [(0,.t 51),(1,.t 54)]),none⟩,oC 56 131 [.t 55],oM 2 56] .ret [(0,none),(2,none),(3,none),(1,some [2,3]),(4,some []),(5,none),(6,some []),(7,some [])] 8 [1]
abbrev u100_27:=qD [⟨some 61,.new (.bsl 1 1 #[.string ⟨#[]⟩] [(0,.k (.string ⟨#[97,99,116,105,118,101]⟩))]),none⟩,oC 62 132 [.t 61],oF 63 1 2,oL 64 63,oC 65 133 [.t 64],⟨some 66,.new (.bsl 1 2 #[.slice none 0 0] [(0,.t 62),(1,.t 65)]),none⟩,oC 67 131 [.t 66],oM 2 67] .ret [(0,none),(2,none),(3,none),(1,some [2,3]),(4,some []),(5,none),(6,some []),(7,some [])] 8 [1]
abbrev u100_30:=qD [⟨some 72,.new (.bsl 1 1 #[.string ⟨#[]⟩] [(0,.k (.string ⟨#[108,101,102,116]⟩))]),none⟩,oC 73 132 [.t 72],oF 74 1 2,oL 75 74,oC 76 133 [.t 75],⟨some 77,.new (.bsl 1 2 #[.slice none 0 0] [(0,.t 73),(1,.t 76)]),none⟩,oC 78 131 [.t 77],oM 2 78] .ret [(0,none),(2,none),(3,none),(1,some [2,3]),(4,some []),(5,none),(6,some []),(7,some [])] 8 [1]
abbrev u100_33:=qD [⟨some 88,.new (.bsl 1 2 #[.string ⟨#[]⟩] [(0,.k (.string ⟨#[45]⟩)),(1,.k (.string ⟨#[33]⟩))]),none⟩,oF 89 1 0,oL 90 89,oK 91 90 .sub 10,oA 92 88 91 1,oL 93 92,⟨some 94,.new (.bsl 1 1 #[.string ⟨#[]⟩] [(0,.t 93)]),none⟩,oC 95 132 [.t 94],oF 96 1 3,oL 97 96,oP 98 (.iad 5 (.t 97) (.k (.int .i64 0))),oD 99 98 5,oC 100 137 [.t 99,.k (.int .i64 6)],⟨some 101,.new (.bsl 1 2 #[.slice none 0 0] [(0,.t 95),(1,.t 100)]),none⟩,oC 102 131 [.t 101],oM 2 102] .ret [(0,none),(1,none),(2,none),(3,none),(4,none),(5,none),(6,none),(8,none),(9,none),(10,none),(11,none),(7,some [8,9,10,11]),(12,some []),(13,none),(14,some []),(15,some [])] 16 [1]
abbrev u100_40:=qE [oI 4 4] [1,3]
abbrev u100_39:=qK u100_40 .skip (.t 114) [1,3,4,114]
abbrev u100_38:=qS [oM 113 3,oK 114 113 .eql 3] u100_39 [1,3,4]
abbrev u100_41:=qD [oF 115 1 3,oL 116 115,oP 117 (.iad 5 (.t 116) (.k (.int .i64 0))),oD 118 117 5,oM 119 4,oC 120 137 [.t 118,.t 119],oC 121 125 [],oF 122 1 0,oL 123 122,oK 124 123 .sub 12,oA 125 121 124 1,oL 126 125,⟨some 127,.new (.bsl 1 1 #[.string ⟨#[]⟩] [(0,.t 126)]),none⟩,oC 128 132 [.t 127],oF 129 1 3,oL 130 129,oP 131 (.iad 5 (.t 130) (.k (.int .i64 1))),oD 132 131 5,oM 133 3,oK 134 133 .add 1,oC 135 137 [.t 132,.t 134],⟨some 136,.new (.bsl 1 3 #[.slice none 0 0] [(0,.t 120),(1,.t 128),(2,.t 135)]),none⟩,oC 137 131 [.t 136],oM 2 137] .ret [(0,none),(1,none),(2,none),(3,none),(4,none),(7,none),(8,none),(9,none),(14,none),(15,none),(16,none),(17,none),(18,none),(19,none),(5,some [7,8,9,14,15,16,17,18,19]),(6,some [7,8,9,14,15,16,17,18,19]),(10,none),(11,none),(12,none),(13,some [14,15,16,17,18,19]),(20,some []),(21,none),(22,some []),(23,some [])] 24 [1,3,4]
abbrev u100_37:=qQ u100_38 u100_41 [1,3,4]
abbrev u100_36:=qS [oM 112 3,oM 4 112] u100_37 [1,3]
abbrev u100_35:=qK u100_36 .skip (.t 103) [1,3,103]
abbrev u100_34:=qS [oM 104 3,oK 105 104 .lss 6,oM 106 105,gF 107 1 3 106,gL 108 107 106,oG 109 (.len (.t 108)) 106,gK 110 109 106 .eql 2,oJ 111 106 110,oM 103 111] u100_35 [1,3]
abbrev u100_32:=qK u100_33 u100_34 (.t 79) [1,3,79]
abbrev u100_31:=qS [oM 80 3,oK 81 80 .eql 6,oM 82 81,gF 83 1 3 82,gL 84 83 82,oG 85 (.len (.t 84)) 82,gK 86 85 82 .eql 1,oJ 87 82 86,oM 79 87] u100_32 [1,3]
abbrev u100_29:=qK u100_30 u100_31 (.t 68) [1,3,68]
abbrev u100_28:=qS [oF 69 1 0,oL 70 69,oK 71 70 .eql 7,oM 68 71] u100_29 [1,3]
abbrev u100_26:=qK u100_27 u100_28 (.t 57) [1,3,57]
abbrev u100_25:=qS [oF 58 1 0,oL 59 58,oK 60 59 .eql 6,oM 57 60] u100_26 [1,3]
abbrev u100_23:=qK u100_24 u100_25 (.t 46) [1,3,46]
abbrev u100_22:=qS [oF 47 1 0,oL 48 47,oK 49 48 .eql 5,oM 46 49] u100_23 [1,3]
abbrev u100_20:=qK u100_21 u100_22 (.t 40) [1,3,40]
abbrev u100_19:=qS [oF 41 1 0,oL 42 41,oK 43 42 .eql 9,oM 40 43] u100_20 [1,3]
abbrev u100_17:=qK u100_18 u100_19 (.t 34) [1,3,34]
abbrev u100_16:=qS [oF 35 1 0,oL 36 35,oK 37 36 .eql 8,oM 34 37] u100_17 [1,3]
abbrev u100_14:=qK u100_15 u100_16 (.t 28) [1,3,28]
abbrev u100_13:=qS [oF 29 1 0,oL 30 29,oK 31 30 .eql 4,oM 28 31] u100_14 [1,3]
abbrev u100_11:=qK u100_12 u100_13 (.t 22) [1,3,22]
abbrev u100_10:=qS [oF 23 1 0,oL 24 23,oK 25 24 .eql 3,oM 22 25] u100_11 [1,3]
abbrev u100_8:=qK u100_9 u100_10 (.t 15) [1,3,15]
abbrev u100_7:=qS [oF 16 1 0,oL 17 16,oK 18 17 .eql 2,oM 15 18] u100_8 [1,3]
abbrev u100_5:=qK u100_6 u100_7 (.t 8) [1,3,8]
abbrev u100_4:=qS [oF 9 1 0,oL 10 9,oK 11 10 .eql 1,oM 8 11] u100_5 [1,3]
abbrev u100_42:=qS [oP 138 (.bld #[.int .i64 0,.string ⟨#[]⟩,.int .i64 0,.int .i64 0] [(0,1),(1,1),(2,1),(3,1)] []),⟨some 139,.new (.bsl 4 1 #[.int .i64 0,.string ⟨#[]⟩,.int .i64 0,.int .i64 0] [(0,.t 138)]),none⟩,oM 2 139] .ret []
abbrev u100_3:=qB u100_4 u100_42 0 [1,3]
abbrev u100_2:=qS [oF 5 1 0,oL 6 5,oC 7 126 [.t 6],oM 3 7] u100_3 [1]
abbrev u100_1:=qS [oX 1 0,oV 2 (.slice none 0 0)] u100_2 [0]
def u100:IFn:=⟨140,u100_1,[.tmp 2]⟩
end
theorem isU100:A6 Tryz.prog 100 u100:=by unfold A6;kernel_rfl
section
abbrev u163_5:=qS [oP 9 (.bld #[.int .i64 0,.string ⟨#[]⟩,.int .i64 0,.int .i64 0] [(0,1),(1,1),(2,1),(3,1)] []),⟨some 10,.new (.bsl 4 1 #[.int .i64 0,.string ⟨#[]⟩,.int .i64 0,.int .i64 0] [(0,.t 9)]),none⟩,oM 4 10] .ret []
abbrev u163_4:=qK u163_5 .skip (.t 8) [0,1,8]
abbrev u163_3:=qS [oM 5 1,oM 6 0,oH 7 6,oB 8 5 7 .geq] u163_4 [0,1]
abbrev u163_6:=qS [oM 11 0,oM 12 1,oA 13 11 12 5,oD 14 13 5,oC 15 100 [.t 14],oM 4 15] .ret [0,1]
abbrev u163_2:=qQ u163_3 u163_6 [0,1]
abbrev u163_1:=qS [oV 4 (.slice none 0 0)] u163_2 [0,1]
def u163:IFn:=⟨16,u163_1,[.tmp 4]⟩
end
theorem isU163:A6 Tryz.prog 163 u163:=by unfold A6;kernel_rfl
section
abbrev u135_8:=qK .skip (.exit 0) (.t 10) [0,3,4,10]
abbrev u135_7:=qS [oM 7 4,oM 8 0,oH 9 8,oB 10 7 9 .lss] u135_8 [0,3,4]
abbrev u135_10:=qE [oM 13 3,oM 14 0,oM 15 4,oA 16 14 15 7,oD 17 16 7,oC 18 153 [.t 17],oT 19 13 18 4 40,oM 3 19] [0,3,4]
abbrev u135_11:=qE [oM 11 4,oK 12 11 .add 1,oM 4 12] [0,3,4]
abbrev u135_9:=qB u135_10 u135_11 1 [0,3,4]
abbrev u135_6:=qQ u135_7 u135_9 [0,3,4]
abbrev u135_5:=qJ (.loop u135_6) 0 [0,3,4]
abbrev u135_4:=qS [oI 4 0] u135_5 [0,3]
abbrev u135_12:=qS [oM 20 3,⟨some 21,.new (.bsl 1 1 #[.string ⟨#[]⟩] [(0,.k (.string ⟨#[125]⟩))]),none⟩,oC 22 132 [.t 21],oT 23 20 22 4 40,oM 2 23] .ret [3]
abbrev u135_3:=qQ u135_4 u135_12 [0,3]
abbrev u135_2:=qS [⟨some 5,.new (.bsl 1 1 #[.string ⟨#[]⟩] [(0,.k (.string ⟨#[123]⟩))]),none⟩,oC 6 132 [.t 5],oM 3 6] u135_3 [0]
abbrev u135_1:=qS [oV 2 (.slice none 0 0)] u135_2 [0]
def u135:IFn:=⟨24,u135_1,[.tmp 2]⟩
end
theorem isU135:A6 Tryz.prog 135 u135:=by unfold A6;kernel_rfl
section
abbrev u153_5:=qD [oF 7 1 1,oL 8 7,oC 9 133 [.t 8],⟨some 10,.new (.bsl 1 1 #[.string ⟨#[]⟩] [(0,.k (.string ⟨#[61]⟩))]),none⟩,oC 11 132 [.t 10],oF 12 1 3,oL 13 12,oC 14 163 [.t 13,.k (.int .i64 0)],⟨some 15,.new (.bsl 1 1 #[.string ⟨#[]⟩] [(0,.k (.string ⟨#[59]⟩))]),none⟩,oC 16 132 [.t 15],⟨some 17,.new (.bsl 1 4 #[.slice none 0 0] [(0,.t 9),(1,.t 11),(2,.t 14),(3,.t 16)]),none⟩,oC 18 131 [.t 17],oM 2 18] .ret [(0,none),(1,none),(3,none),(5,none),(6,none),(8,none),(2,some [3,5,6,8]),(4,some [5,6,8]),(7,some [8]),(9,some []),(10,none),(11,some []),(12,some [])] 13 [1]
abbrev u153_4:=qK u153_5 .skip (.t 6) [1,6]
abbrev u153_3:=qS [oF 4 1 0,oL 5 4,oK 6 5 .eql 1] u153_4 [1]
abbrev u153_9:=qS [oP 27 (.bld #[.int .i64 0,.string ⟨#[]⟩,.int .i64 0,.int .i64 0] [(0,1),(1,1),(2,1),(3,1)] []),⟨some 28,.new (.bsl 4 1 #[.int .i64 0,.string ⟨#[]⟩,.int .i64 0,.int .i64 0] [(0,.t 27)]),none⟩,oM 2 28] .ret []
abbrev u153_8:=qK u153_9 .skip (.t 26) [1,26]
abbrev u153_7:=qS [oF 19 1 0,oL 20 19,oK 21 20 .lss 2,oM 22 21,hF 23 1 0 22,hL 24 23 22,hK 25 24 22 .gtr 19,oO 26 22 25] u153_8 [1]
abbrev u153_17:=qE [oK 47 38 .eql 3,oM 45 47] [1,3,38]
abbrev u153_16:=qK .skip u153_17 (.t 45) [1,3,38,45]
abbrev u153_15:=qS [oK 46 38 .eql 2,oM 45 46] u153_16 [1,3,38]
abbrev u153_23:=qD [oM 69 3,⟨some 70,.new (.bsl 1 1 #[.string ⟨#[]⟩] [(0,.k (.string ⟨#[101,108,115,101]⟩))]),none⟩,oC 71 132 [.t 70],oF 72 1 5,oL 73 72,oP 74 (.iad 7 (.t 73) (.k (.int .i64 0))),oD 75 74 7,oC 76 153 [.t 75],⟨some 77,.new (.bsl 1 3 #[.slice none 0 0] [(0,.t 69),(1,.t 71),(2,.t 76)]),none⟩,oC 78 131 [.t 77],oM 2 78] .ret [(0,none),(1,none),(3,none),(4,none),(5,none),(6,none),(2,some [0,3,4,5,6]),(7,some [0]),(8,none),(9,some []),(10,some [])] 11 [1,3]
abbrev u153_22:=qK u153_23 .skip (.t 68) [1,3,68]
abbrev u153_21:=qS [oF 57 1 5,oL 58 57,oH 59 58,oK 60 59 .eql 1,oM 61 60,gF 62 1 5 61,gL 63 62 61,oG 64 (.iad 7 (.t 63) (.k (.int .i64 0))) 61,gF 65 64 0 61,gL 66 65 61,gK 67 66 61 .eql 2,oJ 68 61 67] u153_22 [1,3]
abbrev u153_27:=qD [oM 83 3,⟨some 84,.new (.bsl 1 1 #[.string ⟨#[]⟩] [(0,.k (.string ⟨#[101,108,115,101]⟩))]),none⟩,oC 85 132 [.t 84],oF 86 1 5,oL 87 86,oC 88 135 [.t 87],⟨some 89,.new (.bsl 1 3 #[.slice none 0 0] [(0,.t 83),(1,.t 85),(2,.t 88)]),none⟩,oC 90 131 [.t 89],oM 2 90] .ret [(0,none),(1,none),(3,none),(4,none),(2,some [0,3,4]),(5,some [0]),(6,none),(7,some []),(8,some [])] 9 [1,3]
abbrev u153_26:=qK u153_27 .skip (.t 82) [1,3,82]
abbrev u153_25:=qS [oF 79 1 5,oL 80 79,oH 81 80,oK 82 81 .gtr 0] u153_26 [1,3]
abbrev u153_28:=qS [oM 91 3,oM 2 91] .ret [3]
abbrev u153_24:=qQ u153_25 u153_28 [1,3]
abbrev u153_20:=qQ u153_21 u153_24 [1,3]
abbrev u153_19:=qD [oM 48 3,oF 49 1 3,oL 50 49,oC 51 163 [.t 50,.k (.int .i64 0)],oF 52 1 4,oL 53 52,oC 54 135 [.t 53],⟨some 55,.new (.bsl 1 3 #[.slice none 0 0] [(0,.t 48),(1,.t 51),(2,.t 54)]),none⟩,oC 56 131 [.t 55],oM 3 56] u153_20 [(0,none),(1,none),(2,none),(4,none),(5,none),(3,some [0,4,5]),(6,some [0]),(7,none),(8,some []),(9,some [])] 10 [1,3]
abbrev u153_31:=qE [oM 94 3,oF 95 1 3,oL 96 95,oC 97 163 [.t 96,.k (.int .i64 0)],⟨some 98,.new (.bsl 1 2 #[.slice none 0 0] [(0,.t 94),(1,.t 97)]),none⟩,oC 99 131 [.t 98],oM 3 99] [1,3]
abbrev u153_34:=qG [oM 102 3,oF 103 1 2,oL 104 103,oC 105 164 [.t 104],⟨some 106,.new (.bsl 1 1 #[.string ⟨#[]⟩] [(0,.k (.string ⟨#[44]⟩))]),none⟩,oC 107 132 [.t 106],oF 108 1 3,oL 109 108,oC 110 163 [.t 109,.k (.int .i64 0)],⟨some 111,.new (.bsl 1 4 #[.slice none 0 0] [(0,.t 102),(1,.t 105),(2,.t 107),(3,.t 110)]),none⟩,oC 112 131 [.t 111],oM 3 112] [(0,none),(1,none),(2,none),(4,none),(6,none),(7,none),(3,some [0,4,6,7]),(5,some [0,6,7]),(8,some [0]),(9,none),(10,some []),(11,some [])] 12 [1,3]
abbrev u153_38:=qE [oK 115 38 .eql 10,oM 113 115] [1,3,38]
abbrev u153_37:=qK .skip u153_38 (.t 113) [1,3,38,113]
abbrev u153_36:=qS [oK 114 38 .eql 8,oM 113 114] u153_37 [1,3,38]
abbrev u153_40:=qG [oM 116 3,oF 117 1 1,oL 118 117,oC 119 133 [.t 118],oF 120 1 3,oL 121 120,oC 122 163 [.t 121,.k (.int .i64 0)],⟨some 123,.new (.bsl 1 3 #[.slice none 0 0] [(0,.t 116),(1,.t 119),(2,.t 122)]),none⟩,oC 124 131 [.t 123],oM 3 124] [(0,none),(1,none),(2,none),(4,none),(5,none),(3,some [0,4,5]),(6,some [0]),(7,none),(8,some []),(9,some [])] 10 [1,3]
abbrev u153_43:=qG [oM 127 3,oF 128 1 1,oL 129 128,oC 130 133 [.t 129],oF 131 1 3,oL 132 131,oC 133 163 [.t 132,.k (.int .i64 0)],⟨some 134,.new (.bsl 1 1 #[.string ⟨#[]⟩] [(0,.k (.string ⟨#[44]⟩))]),none⟩,oC 135 132 [.t 134],oF 136 1 3,oL 137 136,oC 138 163 [.t 137,.k (.int .i64 1)],⟨some 139,.new (.bsl 1 5 #[.slice none 0 0] [(0,.t 127),(1,.t 130),(2,.t 133),(3,.t 135),(4,.t 138)]),none⟩,oC 140 131 [.t 139],oM 3 140] [(0,none),(1,none),(2,none),(4,none),(5,none),(7,none),(9,none),(10,none),(3,some [0,4,5,7,9,10]),(6,some [0,7,9,10]),(8,some [0,9,10]),(11,some [0]),(12,none),(13,some []),(14,some [])] 15 [1,3]
abbrev u153_46:=qE [oM 39 3,oF 40 1 1,oL 41 40,oC 42 133 [.t 41],⟨some 43,.new (.bsl 1 2 #[.slice none 0 0] [(0,.t 39),(1,.t 42)]),none⟩,oC 44 131 [.t 43],oM 3 44] [1,3]
abbrev u153_45:=qK .skip u153_46 (.t 141) [1,3,141]
abbrev u153_44:=qS [oK 142 38 .eql 19,oM 141 142] u153_45 [1,3,38]
abbrev u153_42:=qK u153_43 u153_44 (.t 125) [1,3,38,125]
abbrev u153_41:=qS [oK 126 38 .eql 9,oM 125 126] u153_42 [1,3,38]
abbrev u153_39:=qK u153_40 u153_41 (.t 113) [1,3,38,113]
abbrev u153_35:=qQ u153_36 u153_39 [1,3,38]
abbrev u153_33:=qK u153_34 u153_35 (.t 100) [1,3,38,100]
abbrev u153_32:=qS [oK 101 38 .eql 18,oM 100 101] u153_33 [1,3,38]
abbrev u153_30:=qK u153_31 u153_32 (.t 92) [1,3,38,92]
abbrev u153_29:=qS [oK 93 38 .eql 4,oM 92 93] u153_30 [1,3,38]
abbrev u153_18:=qK u153_19 u153_29 (.t 45) [1,3,38,45]
abbrev u153_14:=qQ u153_15 u153_18 [1,3,38]
abbrev u153_13:=qJ u153_14 0 [1,3,38]
abbrev u153_12:=qS [oF 37 1 0,oL 38 37] u153_13 [1,3]
abbrev u153_47:=qS [oM 143 3,⟨some 144,.new (.bsl 1 1 #[.string ⟨#[]⟩] [(0,.k (.string ⟨#[59]⟩))]),none⟩,oC 145 132 [.t 144],⟨some 146,.new (.bsl 1 2 #[.slice none 0 0] [(0,.t 143),(1,.t 145)]),none⟩,oC 147 131 [.t 146],oM 2 147] .ret [3]
abbrev u153_11:=qQ u153_12 u153_47 [1,3]
abbrev u153_10:=qD [oC 29 142 [],oF 30 1 0,oL 31 30,oK 32 31 .sub 2,oA 33 29 32 1,oL 34 33,⟨some 35,.new (.bsl 1 1 #[.string ⟨#[]⟩] [(0,.t 34)]),none⟩,oC 36 132 [.t 35],oM 3 36] u153_11 [(1,none),(2,none),(3,none),(0,some [1,2,3]),(4,none),(5,none),(6,none),(7,some []),(8,some [])] 9 [1]
abbrev u153_6:=qQ u153_7 u153_10 [1]
abbrev u153_2:=qQ u153_3 u153_6 [1]
abbrev u153_1:=qS [oX 1 0,oV 2 (.slice none 0 0)] u153_2 [0]
def u153:IFn:=⟨148,u153_1,[.tmp 2]⟩
end
theorem isU153:A6 Tryz.prog 153 u153:=by unfold A6;kernel_rfl
section
abbrev u130_5:=qS [oP 12 (.bld #[.int .i64 0,.string ⟨#[]⟩,.int .i64 0,.int .i64 0] [(0,1),(1,1),(2,1),(3,1)] []),⟨some 13,.new (.bsl 4 1 #[.int .i64 0,.string ⟨#[]⟩,.int .i64 0,.int .i64 0] [(0,.t 12)]),none⟩,oM 2 13] .ret []
abbrev u130_4:=qK u130_5 .skip (.t 11) [1,11]
abbrev u130_3:=qS [oF 4 1 0,oL 5 4,oK 6 5 .lss 1,oM 7 6,hF 8 1 0 7,hL 9 8 7,hK 10 9 7 .gtr 8,oO 11 7 10] u130_4 [1]
abbrev u130_12:=qG [oM 51 3,⟨some 52,.new (.bsl 1 1 #[.string ⟨#[]⟩] [(0,.k (.string ⟨#[45]⟩))]),none⟩,oC 53 132 [.t 52],oF 54 1 2,oL 55 54,oP 56 (.un .neg (.t 55)),oC 57 134 [.t 56],⟨some 58,.new (.bsl 1 3 #[.slice none 0 0] [(0,.t 51),(1,.t 53),(2,.t 57)]),none⟩,oC 59 131 [.t 58],oM 3 59] [(0,none),(1,none),(3,none),(4,none),(5,none),(2,some [0,3,4,5]),(6,some [0]),(7,none),(8,some []),(9,some [])] 10 [1,3]
abbrev u130_13:=qE [oM 27 3,oF 28 1 2,oL 29 28,oC 30 134 [.t 29],⟨some 31,.new (.bsl 1 2 #[.slice none 0 0] [(0,.t 27),(1,.t 30)]),none⟩,oC 32 131 [.t 31],oM 3 32] [1,3]
abbrev u130_11:=qK u130_12 u130_13 (.t 37) [1,3,37]
abbrev u130_10:=qS [oF 38 1 2,oL 39 38,oK 40 39 .lss 0,oM 41 40,gF 42 1 2 41,gL 43 42 41,gK 44 43 41 .geq (-2147483647),oJ 45 41 44,oM 46 45,gF 47 1 0 46,gL 48 47 46,gK 49 48 46 .eql 6,oJ 50 46 49,oM 37 50] u130_11 [1,3]
abbrev u130_9:=qK .skip u130_10 (.t 33) [1,3,33]
abbrev u130_8:=qS [oF 34 1 0,oL 35 34,oK 36 35 .gtr 6,oM 33 36] u130_9 [1,3]
abbrev u130_14:=qS [oM 60 3,⟨some 61,.new (.bsl 1 1 #[.string ⟨#[]⟩] [(0,.k (.string ⟨#[59]⟩))]),none⟩,oC 62 132 [.t 61],⟨some 63,.new (.bsl 1 2 #[.slice none 0 0] [(0,.t 60),(1,.t 62)]),none⟩,oC 64 131 [.t 63],oM 2 64] .ret [3]
abbrev u130_7:=qB u130_8 u130_14 0 [1,3]
abbrev u130_6:=qD [oC 14 73 [],oF 15 1 0,oL 16 15,oK 17 16 .sub 1,oA 18 14 17 1,oL 19 18,⟨some 20,.new (.bsl 1 1 #[.string ⟨#[]⟩] [(0,.t 19)]),none⟩,oC 21 132 [.t 20],oF 22 1 1,oL 23 22,oC 24 133 [.t 23],⟨some 25,.new (.bsl 1 2 #[.slice none 0 0] [(0,.t 21),(1,.t 24)]),none⟩,oC 26 131 [.t 25],oM 3 26] u130_7 [(1,none),(2,none),(3,none),(8,none),(9,none),(0,some [1,2,3,8,9]),(4,none),(5,none),(6,none),(7,some [8,9]),(10,some []),(11,none),(12,some []),(13,some [])] 14 [1]
abbrev u130_2:=qQ u130_3 u130_6 [1]
abbrev u130_1:=qS [oX 1 0,oV 2 (.slice none 0 0)] u130_2 [0]
def u130:IFn:=⟨65,u130_1,[.tmp 2]⟩
end
theorem isU130:A6 Tryz.prog 130 u130:=by unfold A6;kernel_rfl
section
abbrev u98_8:=qK .skip (.exit 0) (.t 13) [1,3,4,13]
abbrev u98_7:=qS [oM 9 4,oF 10 1 0,oL 11 10,oH 12 11,oB 13 9 12 .lss] u98_8 [1,3,4]
abbrev u98_10:=qE [oM 16 3,oF 17 1 0,oL 18 17,oM 19 4,oA 20 18 19 4,oD 21 20 4,oC 22 130 [.t 21],oT 23 16 22 4 40,oM 3 23] [1,3,4]
abbrev u98_11:=qE [oM 14 4,oK 15 14 .add 1,oM 4 15] [1,3,4]
abbrev u98_9:=qB u98_10 u98_11 1 [1,3,4]
abbrev u98_6:=qQ u98_7 u98_9 [1,3,4]
abbrev u98_5:=qJ (.loop u98_6) 0 [1,3,4]
abbrev u98_4:=qS [oI 4 0] u98_5 [1,3]
abbrev u98_17:=qK .skip (.exit 2) (.t 28) [1,3,5,28]
abbrev u98_16:=qS [oM 24 5,oF 25 1 1,oL 26 25,oH 27 26,oB 28 24 27 .lss] u98_17 [1,3,5]
abbrev u98_26:=qK .skip (.exit 4) (.t 54) [1,3,5,6,7,54]
abbrev u98_25:=qS [oM 50 7,oF 51 6 2,oL 52 51,oH 53 52,oB 54 50 53 .lss] u98_26 [1,3,5,6,7]
abbrev u98_32:=qS [oP 70 (.bld #[.int .i64 0,.string ⟨#[]⟩,.int .i64 0,.int .i64 0] [(0,1),(1,1),(2,1),(3,1)] []),⟨some 71,.new (.bsl 4 1 #[.int .i64 0,.string ⟨#[]⟩,.int .i64 0,.int .i64 0] [(0,.t 70)]),none⟩,oM 2 71] .ret []
abbrev u98_31:=qK u98_32 .skip (.t 69) [1,3,5,6,7,8,69]
abbrev u98_30:=qS [oF 62 8 0,oL 63 62,oK 64 63 .lss 1,oM 65 64,hF 66 8 0 65,hL 67 66 65,hK 68 67 65 .gtr 6,oO 69 65 68] u98_31 [1,3,5,6,7,8]
abbrev u98_37:=qE [oM 85 3,oF 86 8 1,oL 87 86,oC 88 133 [.t 87],oT 89 85 88 4 40,oM 3 89] [1,3,5,6,7,8]
abbrev u98_36:=qK u98_37 .skip (.t 84) [1,3,5,6,7,8,84]
abbrev u98_35:=qS [oF 82 8 0,oL 83 82,oK 84 83 .gtr 2] u98_36 [1,3,5,6,7,8]
abbrev u98_38:=qE [oM 90 3,oF 91 8 2,oL 92 91,oC 93 135 [.t 92],oT 94 90 93 4 40,oM 3 94] [1,3,5,6,7,8]
abbrev u98_34:=qQ u98_35 u98_38 [1,3,5,6,7,8]
abbrev u98_33:=qD [oM 72 3,oC 73 117 [],oF 74 8 0,oL 75 74,oK 76 75 .sub 1,oA 77 73 76 1,oL 78 77,⟨some 79,.new (.bsl 1 2 #[.string ⟨#[]⟩] [(0,.k (.string ⟨#[111,110]⟩)),(1,.t 78)]),none⟩,oC 80 132 [.t 79],oT 81 72 80 4 40,oM 3 81] u98_34 [(0,none),(2,none),(3,none),(4,none),(1,some [0,2,3,4]),(5,none),(6,none),(7,none),(8,some [0]),(9,some []),(10,some [])] 11 [1,3,5,6,7,8]
abbrev u98_29:=qQ u98_30 u98_33 [1,3,5,6,7,8]
abbrev u98_28:=qS [oF 57 6 2,oL 58 57,oM 59 7,oA 60 58 59 4,oD 61 60 4,oW 8 (.agg #[.int .i64 0,.string ⟨#[]⟩,.slice none 0 0,.int .i64 0]),oS 8 61 4] u98_29 [1,3,5,6,7]
abbrev u98_39:=qE [oM 55 7,oK 56 55 .add 1,oM 7 56] [1,3,5,6,7]
abbrev u98_27:=qB u98_28 u98_39 5 [1,3,5,6,7]
abbrev u98_24:=qQ u98_25 u98_27 [1,3,5,6,7]
abbrev u98_23:=qJ (.loop u98_24) 4 [1,3,5,6,7]
abbrev u98_22:=qS [oI 7 0] u98_23 [1,3,5,6]
abbrev u98_40:=qE [oM 95 3,⟨some 96,.new (.bsl 1 1 #[.string ⟨#[]⟩] [(0,.k (.string ⟨#[125]⟩))]),none⟩,oC 97 132 [.t 96],oT 98 95 97 4 40,oM 3 98] [1,3,5]
abbrev u98_21:=qQ u98_22 u98_40 [1,3,5,6]
abbrev u98_20:=qD [oM 36 3,⟨some 37,.new (.bsl 1 1 #[.string ⟨#[]⟩] [(0,.k (.string ⟨#[109,111,100,101]⟩))]),none⟩,oC 38 132 [.t 37],oF 39 6 0,oL 40 39,oC 41 133 [.t 40],oF 42 6 1,oL 43 42,oC 44 134 [.t 43],⟨some 45,.new (.bsl 1 1 #[.string ⟨#[]⟩] [(0,.k (.string ⟨#[123]⟩))]),none⟩,oC 46 132 [.t 45],⟨some 47,.new (.bsl 1 4 #[.slice none 0 0] [(0,.t 38),(1,.t 41),(2,.t 44),(3,.t 46)]),none⟩,oC 48 131 [.t 47],oT 49 36 48 4 40,oM 3 49] u98_21 [(0,none),(1,none),(3,none),(4,none),(6,none),(7,none),(9,none),(2,some [0,3,4,6,7,9]),(5,some [0,6,7,9]),(8,some [0,9]),(10,some [0]),(11,none),(12,some [0]),(13,some []),(14,some [])] 15 [1,3,5,6]
abbrev u98_19:=qS [oF 31 1 1,oL 32 31,oM 33 5,oA 34 32 33 4,oD 35 34 4,oW 6 (.agg #[.string ⟨#[]⟩,.int .i64 0,.slice none 0 0,.int .i64 0]),oS 6 35 4] u98_20 [1,3,5]
abbrev u98_41:=qE [oM 29 5,oK 30 29 .add 1,oM 5 30] [1,3,5]
abbrev u98_18:=qB u98_19 u98_41 3 [1,3,5]
abbrev u98_15:=qQ u98_16 u98_18 [1,3,5]
abbrev u98_14:=qJ (.loop u98_15) 2 [1,3,5]
abbrev u98_13:=qS [oI 5 0] u98_14 [1,3]
abbrev u98_42:=qS [oM 99 3,oM 2 99] .ret [3]
abbrev u98_12:=qQ u98_13 u98_42 [1,3]
abbrev u98_3:=qQ u98_4 u98_12 [1,3]
abbrev u98_2:=qS [oV 3 (.slice none 0 0)] u98_3 [1]
abbrev u98_1:=qS [oX 1 0,oV 2 (.slice none 0 0)] u98_2 [0]
def u98:IFn:=⟨100,u98_1,[.tmp 2]⟩
end
theorem isU98:A6 Tryz.prog 98 u98:=by unfold A6;kernel_rfl
section
abbrev u59_4:=qD [oM 11 3,oC 12 38 [.t 11],oM 13 12,oG 14 (.ld 2 true (.t 4)) 13,⟨some 15,.call 19 [.t 14],some (13,true)⟩,oG 16 (.ld 2 true (.t 1)) 13,⟨some 17,.call 19 [.t 16],some (13,true)⟩,⟨some 18,.call 99 [.t 15,.t 17],some (13,true)⟩,oJ 19 13 18,oM 2 19] .ret [(0,none),(1,some []),(2,none),(3,none),(5,none),(4,some [5]),(6,some []),(7,some []),(8,none),(9,some [])] 10 [1,3,4]
abbrev u59_3:=qS [oM 9 3,oC 10 37 [.t 9],oW 4 (.agg #[.slice none 0 0,.slice none 0 0]),oS 4 10 2] u59_4 [1,3]
abbrev u59_2:=qS [oD 5 1 2,oC 6 98 [.t 5],oP 7 (.bld #[.slice none 0 0,.int .i64 0,.int .i64 0,.int .i64 0,.int .i64 0,.int .i64 0,.int .i64 0] [(0,1),(1,1),(2,1),(3,1),(4,1),(5,1),(6,1)] [(0,.t 6)]),oX 8 7,oM 3 8] u59_3 [1]
abbrev u59_1:=qS [oX 1 0,oV 2 (.bool false)] u59_2 [0]
def u59:IFn:=⟨20,u59_1,[.tmp 2]⟩
end
theorem isU59:A6 Tryz.prog 59 u59:=by unfold A6;kernel_rfl
section
abbrev u60_4:=qP [oM 11 3,oC 12 38 [.t 11],oM 13 12,gM 14 3 13,gN 15 14 13,gF 16 15 2 13,gL 17 16 13,gM 18 3 13,gN 19 18 13,gF 20 19 0 13,gL 21 20 13,oG 22 (.len (.t 21)) 13,oG 23 (.bin .eql (.t 17) (.t 22)) 13,oJ 24 13 23,oM 25 24,oG 26 (.ld 5 true (.t 4)) 25,oG 27 (.ld 5 true (.t 1)) 25,⟨some 28,.call 101 [.t 26,.t 27,.k (.bool true)],some (25,true)⟩,oJ 29 25 28,oM 2 29] .ret 524288 20 [1,3,4]
abbrev u60_3:=qS [oM 9 3,oC 10 51 [.t 9],oW 4 (.agg #[.int .i64 0,.int .i64 0,.string ⟨#[]⟩,.slice none 0 0,.int .i64 0]),oS 4 10 5] u60_4 [1,3]
abbrev u60_2:=qS [oD 5 1 5,oC 6 100 [.t 5],oP 7 (.bld #[.slice none 0 0,.int .i64 0,.int .i64 0,.int .i64 0,.int .i64 0,.int .i64 0,.int .i64 0] [(0,1),(1,1),(2,1),(3,1),(4,1),(5,1),(6,1)] [(0,.t 6)]),oX 8 7,oM 3 8] u60_3 [1]
abbrev u60_1:=qS [oX 1 0,oV 2 (.bool false)] u60_2 [0]
def u60:IFn:=⟨30,u60_1,[.tmp 2]⟩
end
theorem isU60:A6 Tryz.prog 60 u60:=by unfold A6;kernel_rfl
section
abbrev u90_8:=qK .skip (.exit 0) (.t 9) [0,3,4,9]
abbrev u90_7:=qS [oM 6 4,oM 7 0,oH 8 7,oB 9 6 8 .lss] u90_8 [0,3,4]
abbrev u90_12:=qE [oM 21 3,oD 22 5 5,⟨some 23,.new (.bsl 5 1 #[.int .i64 0,.int .i64 0,.string ⟨#[]⟩,.slice none 0 0,.int .i64 0] [(0,.t 22)]),none⟩,oT 24 21 23 5 64,oM 3 24] [0,3,4,5]
abbrev u90_11:=qS [oF 16 5 3,oL 17 16,oC 18 90 [.t 17],oF 19 5 4,⟨none,.eff (.st 1 (.t 19) (.k (.int .i64 0))),none⟩,oF 20 5 3,oS 20 18 1] u90_12 [0,3,4,5]
abbrev u90_10:=qS [oM 12 0,oM 13 4,oA 14 12 13 5,oD 15 14 5,oW 5 (.agg #[.int .i64 0,.int .i64 0,.string ⟨#[]⟩,.slice none 0 0,.int .i64 0]),oS 5 15 5] u90_11 [0,3,4]
abbrev u90_13:=qE [oM 10 4,oK 11 10 .add 1,oM 4 11] [0,3,4]
abbrev u90_9:=qB u90_10 u90_13 1 [0,3,4]
abbrev u90_6:=qQ u90_7 u90_9 [0,3,4]
abbrev u90_5:=qJ (.loop u90_6) 0 [0,3,4]
abbrev u90_4:=qS [oI 4 0] u90_5 [0,3]
abbrev u90_14:=qS [oM 25 3,oM 2 25] .ret [3]
abbrev u90_3:=qQ u90_4 u90_14 [0,3]
abbrev u90_2:=qS [oV 3 (.slice none 0 0)] u90_3 [0]
abbrev u90_1:=qS [oV 2 (.slice none 0 0)] u90_2 [0]
def u90:IFn:=⟨26,u90_1,[.tmp 2]⟩
end
theorem isU90:A6 Tryz.prog 90 u90:=by unfold A6;kernel_rfl
section
abbrev u49_8:=qK .skip (.exit 0) (.t 9) [0,3,4,9]
abbrev u49_7:=qS [oM 6 4,oM 7 0,oH 8 7,oB 9 6 8 .lss] u49_8 [0,3,4]
abbrev u49_12:=qE [oM 29 3,oD 30 5 7,⟨some 31,.new (.bsl 7 1 #[.int .i64 0,.string ⟨#[]⟩,.string ⟨#[]⟩,.slice none 0 0,.slice none 0 0,.slice none 0 0,.int .i64 0] [(0,.t 30)]),none⟩,oT 32 29 31 7 120,oM 3 32] [0,3,4,5]
abbrev u49_11:=qD [oF 16 5 3,oL 17 16,oC 18 90 [.t 17],oF 19 5 4,oL 20 19,oC 21 49 [.t 20],oF 22 5 5,oL 23 22,oC 24 49 [.t 23],oF 25 5 6,⟨none,.eff (.st 1 (.t 25) (.k (.int .i64 0))),none⟩,oF 26 5 3,oS 26 18 1,oF 27 5 4,oS 27 21 1,oF 28 5 5,oS 28 24 1] u49_12 [(0,none),(1,none),(3,none),(4,none),(6,none),(7,none),(9,none),(2,some [3,4,6,7,9]),(5,some [6,7,9]),(8,some [9]),(10,some []),(11,none),(12,some []),(13,none),(14,some []),(15,none),(16,some [])] 17 [0,3,4,5]
abbrev u49_10:=qS [oM 12 0,oM 13 4,oA 14 12 13 7,oD 15 14 7,oW 5 (.agg #[.int .i64 0,.string ⟨#[]⟩,.string ⟨#[]⟩,.slice none 0 0,.slice none 0 0,.slice none 0 0,.int .i64 0]),oS 5 15 7] u49_11 [0,3,4]
abbrev u49_13:=qE [oM 10 4,oK 11 10 .add 1,oM 4 11] [0,3,4]
abbrev u49_9:=qB u49_10 u49_13 1 [0,3,4]
abbrev u49_6:=qQ u49_7 u49_9 [0,3,4]
abbrev u49_5:=qJ (.loop u49_6) 0 [0,3,4]
abbrev u49_4:=qS [oI 4 0] u49_5 [0,3]
abbrev u49_14:=qS [oM 33 3,oM 2 33] .ret [3]
abbrev u49_3:=qQ u49_4 u49_14 [0,3]
abbrev u49_2:=qS [oV 3 (.slice none 0 0)] u49_3 [0]
abbrev u49_1:=qS [oV 2 (.slice none 0 0)] u49_2 [0]
def u49:IFn:=⟨34,u49_1,[.tmp 2]⟩
end
theorem isU49:A6 Tryz.prog 49 u49:=by unfold A6;kernel_rfl
section
abbrev u19_8:=qK .skip (.exit 0) (.t 14) [1,2,3,4,14]
abbrev u19_7:=qS [oM 10 4,oF 11 1 0,oL 12 11,oH 13 12,oB 14 10 13 .lss] u19_8 [1,2,3,4]
abbrev u19_12:=qE [oF 23 3 0,oL 24 23,oD 25 5 4,⟨some 26,.new (.bsl 4 1 #[.int .i64 0,.string ⟨#[]⟩,.int .i64 0,.int .i64 0] [(0,.t 25)]),none⟩,oT 27 24 26 4 40,oF 28 3 0,oS 28 27 1] [1,2,3,4,5]
abbrev u19_11:=qS [oF 22 5 3,⟨none,.eff (.st 1 (.t 22) (.k (.int .i64 0))),none⟩] u19_12 [1,2,3,4,5]
abbrev u19_10:=qS [oF 17 1 0,oL 18 17,oM 19 4,oA 20 18 19 4,oD 21 20 4,oW 5 (.agg #[.int .i64 0,.string ⟨#[]⟩,.int .i64 0,.int .i64 0]),oS 5 21 4] u19_11 [1,2,3,4]
abbrev u19_13:=qE [oM 15 4,oK 16 15 .add 1,oM 4 16] [1,2,3,4]
abbrev u19_9:=qB u19_10 u19_13 1 [1,2,3,4]
abbrev u19_6:=qQ u19_7 u19_9 [1,2,3,4]
abbrev u19_5:=qJ (.loop u19_6) 0 [1,2,3,4]
abbrev u19_4:=qS [oI 4 0] u19_5 [1,2,3]
abbrev u19_19:=qK .skip (.exit 2) (.t 33) [1,2,3,6,33]
abbrev u19_18:=qS [oM 29 6,oF 30 1 1,oL 31 30,oH 32 31,oB 33 29 32 .lss] u19_19 [1,2,3,6]
abbrev u19_27:=qK .skip (.exit 4) (.t 57) [1,2,3,6,7,8,57]
abbrev u19_26:=qS [oM 49 8,oF 50 1 1,oL 51 50,oM 52 6,oA 53 51 52 4,oF 54 53 2,oL 55 54,oH 56 55,oB 57 49 56 .lss] u19_27 [1,2,3,6,7,8]
abbrev u19_30:=qG [oF 69 7 2,oL 70 69,oF 71 9 0,oL 72 71,oF 73 9 1,oL 74 73,oF 75 9 2,oL 76 75,oC 77 49 [.t 76],oP 78 (.bld #[.int .i64 0,.string ⟨#[]⟩,.slice none 0 0,.int .i64 0] [(0,1),(1,1),(2,1),(3,1)] [(0,.t 72),(1,.t 74),(2,.t 77)]),⟨some 79,.new (.bsl 4 1 #[.int .i64 0,.string ⟨#[]⟩,.slice none 0 0,.int .i64 0] [(0,.t 78)]),none⟩,oT 80 70 79 4 56,oF 81 7 2,oS 81 80 1] [(0,none),(1,none),(2,none),(3,none),(4,none),(5,none),(6,none),(7,none),(8,some [0,1,2,3,4,5]),(9,none),(10,none),(11,some []),(12,none),(13,some [])] 14 [1,2,3,6,7,8,9]
abbrev u19_29:=qS [oF 60 1 1,oL 61 60,oM 62 6,oA 63 61 62 4,oF 64 63 2,oL 65 64,oM 66 8,oA 67 65 66 4,oD 68 67 4,oW 9 (.agg #[.int .i64 0,.string ⟨#[]⟩,.slice none 0 0,.int .i64 0]),oS 9 68 4] u19_30 [1,2,3,6,7,8]
abbrev u19_31:=qE [oM 58 8,oK 59 58 .add 1,oM 8 59] [1,2,3,6,7,8]
abbrev u19_28:=qB u19_29 u19_31 5 [1,2,3,6,7,8]
abbrev u19_25:=qQ u19_26 u19_28 [1,2,3,6,7,8]
abbrev u19_24:=qJ (.loop u19_25) 4 [1,2,3,6,7,8]
abbrev u19_23:=qS [oI 8 0] u19_24 [1,2,3,6,7]
abbrev u19_32:=qE [oF 82 3 1,oL 83 82,oD 84 7 4,⟨some 85,.new (.bsl 4 1 #[.string ⟨#[]⟩,.int .i64 0,.slice none 0 0,.int .i64 0] [(0,.t 84)]),none⟩,oT 86 83 85 4 56,oF 87 3 1,oS 87 86 1] [1,2,3,6,7]
abbrev u19_22:=qQ u19_23 u19_32 [1,2,3,6,7]
abbrev u19_21:=qD [oF 36 1 1,oL 37 36,oM 38 6,oA 39 37 38 4,oF 40 39 0,oL 41 40,oF 42 1 1,oL 43 42,oM 44 6,oA 45 43 44 4,oF 46 45 1,oL 47 46,oP 48 (.bld #[.string ⟨#[]⟩,.int .i64 0,.slice none 0 0,.int .i64 0] [(0,1),(1,1),(2,1),(3,1)] [(0,.t 41),(1,.t 47)]),oW 7 (.agg #[.string ⟨#[]⟩,.int .i64 0,.slice none 0 0,.int .i64 0]),oS 7 48 4] u19_22 [(0,none),(1,none),(2,none),(3,none),(4,none),(5,none),(6,none),(7,none),(8,none),(9,none),(10,none),(11,none),(12,none),(13,none),(14,some [])] 15 [1,2,3,6]
abbrev u19_33:=qE [oM 34 6,oK 35 34 .add 1,oM 6 35] [1,2,3,6]
abbrev u19_20:=qB u19_21 u19_33 3 [1,2,3,6]
abbrev u19_17:=qQ u19_18 u19_20 [1,2,3,6]
abbrev u19_16:=qJ (.loop u19_17) 2 [1,2,3,6]
abbrev u19_15:=qS [oI 6 0] u19_16 [1,2,3]
abbrev u19_34:=qS [oD 88 3 2,oS 2 88 2] .ret [2,3]
abbrev u19_14:=qQ u19_15 u19_34 [1,2,3]
abbrev u19_3:=qQ u19_4 u19_14 [1,2,3]
abbrev u19_2:=qS [oW 3 (.agg #[.slice none 0 0,.slice none 0 0])] u19_3 [1,2]
abbrev u19_1:=qS [oX 1 0,oW 2 (.agg #[.slice none 0 0,.slice none 0 0])] u19_2 [0]
def u19:IFn:=⟨89,u19_1,[.cell 2 2 true]⟩
end
theorem isU19:A6 Tryz.prog 19 u19:=by unfold A6;kernel_rfl
section
abbrev u101_2:=qS [oF 7 3 0,oL 8 7,oF 9 4 0,oL 10 9,oB 11 8 10 .eql,oM 12 11,gF 13 3 1 12,gL 14 13 12,gF 15 4 1 12,gL 16 15 12,oG 17 (.bin .eql (.t 14) (.t 16)) 12,oJ 18 12 17,oM 19 18,gF 20 3 2 19,gL 21 20 19,gF 22 4 2 19,gL 23 22 19,oG 24 (.bin .eql (.t 21) (.t 23)) 19,oJ 25 19 24,oM 26 25,gM 27 2 26,gM 28 27 26,hF 29 3 4 28,hL 30 29 28,hF 31 4 4 28,hL 32 31 28,oR 33 (.bin .eql (.t 30) (.t 32)) 28,oG 34 (.pick (.t 28) (.k (.bool true)) (.t 33)) 26,oJ 35 26 34,oM 36 35,gF 37 3 3 36,gL 38 37 36,gF 39 4 3 36,gL 40 39 36,gM 41 2 36,⟨some 42,.call 138 [.t 38,.t 40,.t 41],some (36,true)⟩,oJ 43 36 42,oM 6 43] .ret [2,3,4]
abbrev u101_1:=qS [oX 3 0,oX 4 1,oV 6 (.bool false)] u101_2 [0,1,2]
def u101:IFn:=⟨44,u101_1,[.tmp 6]⟩
end
theorem isU101:A6 Tryz.prog 101 u101:=by unfold A6;kernel_rfl
section
abbrev u138_5:=qS [oV 6 (.bool false)] .ret []
abbrev u138_4:=qK u138_5 .skip (.t 12) [0,1,2,12]
abbrev u138_3:=qS [oM 8 0,oH 9 8,oM 10 1,oH 11 10,oB 12 9 11 .neq] u138_4 [0,1,2]
abbrev u138_11:=qK .skip (.exit 0) (.t 16) [0,1,2,7,16]
abbrev u138_10:=qS [oM 13 7,oM 14 0,oH 15 14,oB 16 13 15 .lss] u138_11 [0,1,2,7]
abbrev u138_15:=qS [oV 6 (.bool false)] .ret []
abbrev u138_14:=qK u138_15 .skip (.t 29) [0,1,2,7,29]
abbrev u138_13:=qP [oM 19 0,oM 20 7,oA 21 19 20 5,oD 22 21 5,oM 23 1,oM 24 7,oA 25 23 24 5,oD 26 25 5,oM 27 2,oC 28 101 [.t 22,.t 26,.t 27],oY 29 28] u138_14 0 11 [0,1,2,7]
abbrev u138_16:=qE [oM 17 7,oK 18 17 .add 1,oM 7 18] [0,1,2,7]
abbrev u138_12:=qB u138_13 u138_16 1 [0,1,2,7]
abbrev u138_9:=qQ u138_10 u138_12 [0,1,2,7]
abbrev u138_8:=qJ (.loop u138_9) 0 [0,1,2,7]
abbrev u138_7:=qS [oI 7 0] u138_8 [0,1,2]
abbrev u138_17:=qS [oV 6 (.bool true)] .ret []
abbrev u138_6:=qQ u138_7 u138_17 [0,1,2]
abbrev u138_2:=qQ u138_3 u138_6 [0,1,2]
abbrev u138_1:=qS [oV 6 (.bool false)] u138_2 [0,1,2]
def u138:IFn:=⟨30,u138_1,[.tmp 6]⟩
end
theorem isU138:A6 Tryz.prog 138 u138:=by unfold A6;kernel_rfl
section
abbrev u136_5:=qS [oV 4 (.bool false)] .ret []
abbrev u136_4:=qK u136_5 .skip (.t 12) [0,1,12]
abbrev u136_3:=qS [oM 8 0,oH 9 8,oM 10 1,oH 11 10,oB 12 9 11 .neq] u136_4 [0,1]
abbrev u136_11:=qK .skip (.exit 0) (.t 16) [0,1,5,16]
abbrev u136_10:=qS [oM 13 5,oM 14 0,oH 15 14,oB 16 13 15 .lss] u136_11 [0,1,5]
abbrev u136_16:=qS [oV 4 (.bool false)] .ret []
abbrev u136_15:=qK u136_16 .skip (.t 76) [0,1,5,76]
abbrev u136_14:=qS [oF 27 6 0,oL 28 27,oF 29 7 0,oL 30 29,oB 31 28 30 .neq,oM 32 31,hF 33 6 1 32,hL 34 33 32,hF 35 7 1 32,hL 36 35 32,oR 37 (.bin .neq (.t 34) (.t 36)) 32,oO 38 32 37,oM 39 38,hF 40 6 2 39,hL 41 40 39,hF 42 7 2 39,hL 43 42 39,oR 44 (.bin .neq (.t 41) (.t 43)) 39,oO 45 39 44,oM 46 45,hF 47 6 6 46,hL 48 47 46,hF 49 7 6 46,hL 50 49 46,oR 51 (.bin .neq (.t 48) (.t 50)) 46,oO 52 46 51,oM 53 52,hF 54 6 3 53,hL 55 54 53,hF 56 7 3 53,hL 57 56 53,⟨some 58,.call 138 [.t 55,.t 57,.k (.bool false)],some (53,false)⟩,oR 59 (.un .not (.t 58)) 53,oO 60 53 59,oM 61 60,hF 62 6 4 61,hL 63 62 61,hF 64 7 4 61,hL 65 64 61,⟨some 66,.call 136 [.t 63,.t 65],some (61,false)⟩,oR 67 (.un .not (.t 66)) 61,oO 68 61 67,oM 69 68,hF 70 6 5 69,hL 71 70 69,hF 72 7 5 69,hL 73 72 69,⟨some 74,.call 136 [.t 71,.t 73],some (69,false)⟩,oR 75 (.un .not (.t 74)) 69,oO 76 69 75] u136_15 [0,1,5,6,7]
abbrev u136_13:=qD [oM 19 0,oM 20 5,oA 21 19 20 7,oD 22 21 7,oM 23 1,oM 24 5,oA 25 23 24 7,oD 26 25 7,oW 6 (.agg #[.int .i64 0,.string ⟨#[]⟩,.string ⟨#[]⟩,.slice none 0 0,.slice none 0 0,.slice none 0 0,.int .i64 0]),oW 7 (.agg #[.int .i64 0,.string ⟨#[]⟩,.string ⟨#[]⟩,.slice none 0 0,.slice none 0 0,.slice none 0 0,.int .i64 0]),oS 6 22 7,oS 7 26 7] u136_14 [(0,none),(1,none),(2,none),(3,none),(4,none),(5,none),(6,none),(7,none),(8,none),(9,none),(10,some [4,5,6,7]),(11,some [])] 12 [0,1,5]
abbrev u136_17:=qE [oM 17 5,oK 18 17 .add 1,oM 5 18] [0,1,5]
abbrev u136_12:=qB u136_13 u136_17 1 [0,1,5]
abbrev u136_9:=qQ u136_10 u136_12 [0,1,5]
abbrev u136_8:=qJ (.loop u136_9) 0 [0,1,5]
abbrev u136_7:=qS [oI 5 0] u136_8 [0,1]
abbrev u136_18:=qS [oV 4 (.bool true)] .ret []
abbrev u136_6:=qQ u136_7 u136_18 [0,1]
abbrev u136_2:=qQ u136_3 u136_6 [0,1]
abbrev u136_1:=qS [oV 4 (.bool false)] u136_2 [0,1]
def u136:IFn:=⟨77,u136_1,[.tmp 4]⟩
end
theorem isU136:A6 Tryz.prog 136 u136:=by unfold A6;kernel_rfl
section
abbrev u99_5:=qS [oV 4 (.bool false)] .ret []
abbrev u99_4:=qK u99_5 .skip (.t 27) [2,3,27]
abbrev u99_3:=qS [oF 12 2 0,oL 13 12,oH 14 13,oF 15 3 0,oL 16 15,oH 17 16,oB 18 14 17 .neq,oM 19 18,hF 20 2 1 19,hL 21 20 19,oR 22 (.len (.t 21)) 19,hF 23 3 1 19,hL 24 23 19,oR 25 (.len (.t 24)) 19,oR 26 (.bin .neq (.t 22) (.t 25)) 19,oO 27 19 26] u99_4 [2,3]
abbrev u99_11:=qK .skip (.exit 0) (.t 32) [2,3,5,32]
abbrev u99_10:=qS [oM 28 5,oF 29 2 0,oL 30 29,oH 31 30,oB 32 28 31 .lss] u99_11 [2,3,5]
abbrev u99_15:=qS [oV 4 (.bool false)] .ret []
abbrev u99_14:=qK u99_15 .skip (.t 45) [2,3,5,45]
abbrev u99_13:=qP [oF 35 2 0,oL 36 35,oM 37 5,oA 38 36 37 4,oD 39 38 4,oF 40 3 0,oL 41 40,oM 42 5,oA 43 41 42 4,oD 44 43 4,oP 45 (.eqa true [0,2,0,0] (.t 39) (.t 44))] u99_14 0 11 [2,3,5]
abbrev u99_16:=qE [oM 33 5,oK 34 33 .add 1,oM 5 34] [2,3,5]
abbrev u99_12:=qB u99_13 u99_16 1 [2,3,5]
abbrev u99_9:=qQ u99_10 u99_12 [2,3,5]
abbrev u99_8:=qJ (.loop u99_9) 0 [2,3,5]
abbrev u99_7:=qS [oI 5 0] u99_8 [2,3]
abbrev u99_22:=qK .skip (.exit 2) (.t 50) [2,3,6,50]
abbrev u99_21:=qS [oM 46 6,oF 47 2 1,oL 48 47,oH 49 48,oB 50 46 49 .lss] u99_22 [2,3,6]
abbrev u99_28:=qS [oV 4 (.bool false)] .ret []
abbrev u99_27:=qK u99_28 .skip (.t 90) [2,3,6,7,8,90]
abbrev u99_26:=qS [oF 63 7 0,oL 64 63,oF 65 8 0,oL 66 65,oB 67 64 66 .neq,oM 68 67,hF 69 7 1 68,hL 70 69 68,hF 71 8 1 68,hL 72 71 68,oR 73 (.bin .neq (.t 70) (.t 72)) 68,oO 74 68 73,oM 75 74,hF 76 7 3 75,hL 77 76 75,hF 78 8 3 75,hL 79 78 75,oR 80 (.bin .neq (.t 77) (.t 79)) 75,oO 81 75 80,oM 82 81,hF 83 7 2 82,hL 84 83 82,oR 85 (.len (.t 84)) 82,hF 86 8 2 82,hL 87 86 82,oR 88 (.len (.t 87)) 82,oR 89 (.bin .neq (.t 85) (.t 88)) 82,oO 90 82 89] u99_27 [2,3,6,7,8]
abbrev u99_33:=qK .skip (.exit 4) (.t 95) [2,3,6,7,8,9,95]
abbrev u99_32:=qS [oM 91 9,oF 92 7 2,oL 93 92,oH 94 93,oB 95 91 94 .lss] u99_33 [2,3,6,7,8,9]
abbrev u99_38:=qS [oV 4 (.bool false)] .ret []
abbrev u99_37:=qK u99_38 .skip (.t 134) [2,3,6,7,8,9,134]
abbrev u99_36:=qS [oF 108 10 0,oL 109 108,oF 110 11 0,oL 111 110,oB 112 109 111 .neq,oM 113 112,hF 114 10 1 113,hL 115 114 113,hF 116 11 1 113,hL 117 116 113,oR 118 (.bin .neq (.t 115) (.t 117)) 113,oO 119 113 118,oM 120 119,hF 121 10 3 120,hL 122 121 120,hF 123 11 3 120,hL 124 123 120,oR 125 (.bin .neq (.t 122) (.t 124)) 120,oO 126 120 125,oM 127 126,hF 128 10 2 127,hL 129 128 127,hF 130 11 2 127,hL 131 130 127,⟨some 132,.call 136 [.t 129,.t 131],some (127,false)⟩,oR 133 (.un .not (.t 132)) 127,oO 134 127 133] u99_37 [2,3,6,7,8,9,10,11]
abbrev u99_35:=qD [oF 98 7 2,oL 99 98,oM 100 9,oA 101 99 100 4,oD 102 101 4,oF 103 8 2,oL 104 103,oM 105 9,oA 106 104 105 4,oD 107 106 4,oW 10 (.agg #[.int .i64 0,.string ⟨#[]⟩,.slice none 0 0,.int .i64 0]),oW 11 (.agg #[.int .i64 0,.string ⟨#[]⟩,.slice none 0 0,.int .i64 0]),oS 10 102 4,oS 11 107 4] u99_36 [(0,none),(1,none),(2,none),(3,none),(4,none),(5,none),(6,none),(7,none),(8,none),(9,none),(10,none),(11,none),(12,some [5,6,7,8,9]),(13,some [])] 14 [2,3,6,7,8,9]
abbrev u99_39:=qE [oM 96 9,oK 97 96 .add 1,oM 9 97] [2,3,6,7,8,9]
abbrev u99_34:=qB u99_35 u99_39 5 [2,3,6,7,8,9]
abbrev u99_31:=qQ u99_32 u99_34 [2,3,6,7,8,9]
abbrev u99_30:=qJ (.loop u99_31) 4 [2,3,6,7,8,9]
abbrev u99_29:=qS [oI 9 0] u99_30 [2,3,6,7,8]
abbrev u99_25:=qQ u99_26 u99_29 [2,3,6,7,8]
abbrev u99_24:=qD [oF 53 2 1,oL 54 53,oM 55 6,oA 56 54 55 4,oD 57 56 4,oF 58 3 1,oL 59 58,oM 60 6,oA 61 59 60 4,oD 62 61 4,oW 7 (.agg #[.string ⟨#[]⟩,.int .i64 0,.slice none 0 0,.int .i64 0]),oW 8 (.agg #[.string ⟨#[]⟩,.int .i64 0,.slice none 0 0,.int .i64 0]),oS 7 57 4,oS 8 62 4] u99_25 [(0,none),(1,none),(2,none),(3,none),(4,none),(5,none),(6,none),(7,none),(8,none),(9,none),(10,none),(11,none),(12,some [5,6,7,8,9]),(13,some [])] 14 [2,3,6]
abbrev u99_40:=qE [oM 51 6,oK 52 51 .add 1,oM 6 52] [2,3,6]
abbrev u99_23:=qB u99_24 u99_40 3 [2,3,6]
abbrev u99_20:=qQ u99_21 u99_23 [2,3,6]
abbrev u99_19:=qJ (.loop u99_20) 2 [2,3,6]
abbrev u99_18:=qS [oI 6 0] u99_19 [2,3]
abbrev u99_41:=qS [oV 4 (.bool true)] .ret []
abbrev u99_17:=qQ u99_18 u99_41 [2,3]
abbrev u99_6:=qQ u99_7 u99_17 [2,3]
abbrev u99_2:=qQ u99_3 u99_6 [2,3]
abbrev u99_1:=qS [oX 2 0,oX 3 1,oV 4 (.bool false)] u99_2 [0,1]
def u99:IFn:=⟨135,u99_1,[.tmp 4]⟩
end
theorem isU99:A6 Tryz.prog 99 u99:=by unfold A6;kernel_rfl
theorem A1e {k v p:Int} {x:List UInt8}:∃ H2,GL (nil.upd 0 ⟨4,true,[I64 k,.str x,I64 v,I64 p]⟩) [.slc 0 0 1] H2 [D8 [⟨k,x,v,p⟩]] :=
 L7 rfl rfl rfl (E3 _) ⟨[],rfl⟩
theorem A2u {o:Option Nat} {xs:List DV} {u n:Nat} (hno:o=none->xs=[]) (hl:xs.length=n) (hu:∀ x∈xs,x.cells.length=u) :
  ∃ H2,GL (C4 Sym.nil o ⟨u,true,A5 xs⟩) [B5 o n] H2 [.lst xs]:=by
 cases o with
 | none=>rw [hno rfl];exact A9n
 | some i=>exact L7 (id:=i) A0 rfl hl hu ⟨[],by simp⟩
theorem c_named (s:List UInt8) (hs:s.length<=1000000000):PC Tryz.prog 133 [.str s] (D8 (D0 s)):=by
 refine PC.of A9 isU133 (Nat.le_of_ble_eq_true rfl) (by simp [DV.nlL,DV.nl]) (by simp [DV.nlL,DV.nl]) ?_;show IW Tryz.prog 11 u133_1 ⟨B6 _,_,_⟩ (rt [.tmp 2] _);have h1:=c_IsNameR s hs;unfold D0;cases h:D6 s with
 | true =>
  rw [if_neg (by decide)];repeat' ((with_reducible first|apply wr|refine cpc h1 ?_|fail)<;>try simp only [go_sem,seval,h])
  exact A1e
 | false =>
  rw [if_pos rfl];repeat' ((with_reducible first|apply wr|refine cpc h1 ?_|fail)<;>try simp only [go_sem,seval,h])
  exact A1e
theorem c_number31 (n:Int):PC Tryz.prog 134 [I64 n] (D8 (R6 n)):=by
 refine PC.of A9 isU134 (Nat.le_of_ble_eq_true rfl) (by simp [DV.nlL,DV.nl]) (by simp [DV.nlL,DV.nl]) ?_;show IW Tryz.prog 14 u134_1 ⟨B6 _,_,_⟩ (rt [.tmp 2] _);unfold R6;by_cases h0:n<0
 ·have hd:decide (n<0)=true:=by simpa using h0
  rw [if_pos (.inl h0)];repeat' ((with_reducible apply wr)<;>try simp only [go_sem,seval,hd])
  exact A1e
 ·have hd:decide (n<0)=false:=by simpa using h0
  by_cases h1:2147483647<n
  ·have hd1:decide (n>2147483647)=true:=by simpa using h1
   rw [if_pos (.inr h1)];repeat' ((with_reducible apply wr)<;>try simp only [go_sem,seval,hd,hd1])
   exact A1e
  ·have hd1:decide (n>2147483647)=false:=by simpa using h1
   rw [if_neg (by omega)];repeat' ((with_reducible apply wr)<;>try simp only [go_sem,seval,hd,hd1])
   exact A1e
theorem c_words1 (l:List (List UInt8)) (hl:l.length<=1000000) (hx:∀ x∈l,x.length<=1000000000):PC Tryz.prog 132 [A1q l] (D8 (l.map A4)):=by
 refine PC.of A9 isU132 (Nat.le_of_ble_eq_true rfl) (by simp [DV.nlL,DV.nl,M7]) (K2 _) ?_;show IW Tryz.prog 34 u132_1 ⟨B6 _,_,_⟩ (rt [.tmp 2] _);repeat' ((with_reducible apply wr)<;>try simp only [go_sem,seval])
 refine C2 (fun q:Nat × Option Nat=>[(0,A1q l),(3,B5 q.2 q.1),(4,I64 q.1)]) (fun q=>C4 Sym.nil q.2 ⟨4,true,A5 (((l.take q.1).map A4).map Tok.v)⟩)
  (fun q c=>q.1<=l.length/\(q.2=none->q.1=0)/\(∀ i,q.2=some i->i<c)) (fun q=>l.length-q.1) (0,none)
  (by simp [C1,tm,Tm.upd,B5]) (Sub.nil _) ⟨Nat.zero_le _,fun _=>rfl,(fun i hi=>by cases hi)⟩ ?_
 rintro ⟨k,o⟩ c ⟨hk,hno,ho⟩;dsimp only at hk hno ho ⊢;by_cases hlt:k<l.length
 ·have hd:decide ((k:Int)<(l.length:Int))=true:=by simpa using hlt
  have hg:=List.getElem?_eq_getElem hlt;have hx1:=hx _ (List.getElem_mem hlt);have hw:=w64 (n:=(k:Int)+1) (by omega) (by omega);have e0:(l.take (k+1)).map A4=(l.take k).map A4++[A4 l[k]]:=by rw [List.take_add_one,hg,List.map_append];rfl
  generalize l[k]=x at hg hx1 e0;have h1:=c_IsWordR x;have h2:=c_IsNameR x (by omega);have ne0:=M2 c (c+1) (by omega);have hln:(A5 (((l.take k).map A4).map Tok.v)).length=k * 4:=(B8 (u:=4) (E3 _)).trans (by rw [List.length_map,List.length_map,List.length_take,Nat.min_eq_left hk]);cases hw1:G8 x with
  | true =>
   repeat' ((with_reducible first|apply wr|refine cpc h1 ?_|refine cpc h2 ?_|fail)<;>try simp only [go_sem,seval,hd,hg,hw,hw1,ne0,A0,A1])
   refine F5 (F2 (cs:=A5 (((l.take k).map A4).map Tok.v)) (fun e=>by have:=hno e;subst this;exact ⟨rfl,rfl⟩) (fun i hi=>by have:=ho i hi;rw [A2 (by omega),A2 (by omega)];exact A0n hi) hln (by omega) (by omega) (by omega)) ?_;simp only [go_sem,seval,ne0];repeat' ((with_reducible apply wr)<;>try simp only [go_sem,seval,hd,hw,ne0])
   refine ⟨(k+1,some (c+1+1)),by simp [C1,tm,Tm.upd,B5],?_,inv ⟨by omega,(fun h=>by cases h),(fun i hi=>by cases hi;omega)⟩,by simp only;omega⟩;dsimp only [C4];rw [e0,List.map_append,C3];refine Y7 ?_;unfold A4;simp only [hw1,if_true,if_false,Bool.false_eq_true];rfl
  | false =>
   cases hn1:D6 x with
   | true =>
    repeat' ((with_reducible first|apply wr|refine cpc h1 ?_|refine cpc h2 ?_|fail)<;>try simp only [go_sem,seval,hd,hg,hw,hw1,hn1,ne0,A0,A1])
    refine F5 (F2 (cs:=A5 (((l.take k).map A4).map Tok.v)) (fun e=>by have:=hno e;subst this;exact ⟨rfl,rfl⟩) (fun i hi=>by have:=ho i hi;rw [A2 (by omega),A2 (by omega)];exact A0n hi) hln (by omega) (by omega) (by omega)) ?_;simp only [go_sem,seval,ne0];repeat' ((with_reducible apply wr)<;>try simp only [go_sem,seval,hd,hw,ne0])
    refine ⟨(k+1,some (c+1+1)),by simp [C1,tm,Tm.upd,B5],?_,inv ⟨by omega,(fun h=>by cases h),(fun i hi=>by cases hi;omega)⟩,by simp only;omega⟩;dsimp only [C4];rw [e0,List.map_append,C3];refine Y7 ?_;unfold A4;simp only [hw1,hn1,if_true,if_false,Bool.false_eq_true];rfl
   | false =>
    repeat' ((with_reducible first|apply wr|refine cpc h1 ?_|refine cpc h2 ?_|fail)<;>try simp only [go_sem,seval,hd,hg,hw,hw1,hn1,ne0,A0,A1])
    refine F5 (F2 (cs:=A5 (((l.take k).map A4).map Tok.v)) (fun e=>by have:=hno e;subst this;exact ⟨rfl,rfl⟩) (fun i hi=>by have:=ho i hi;rw [A2 (by omega),A2 (by omega)];exact A0n hi) hln (by omega) (by omega) (by omega)) ?_;simp only [go_sem,seval,ne0];repeat' ((with_reducible apply wr)<;>try simp only [go_sem,seval,hd,hw,ne0])
    refine ⟨(k+1,some (c+1+1)),by simp [C1,tm,Tm.upd,B5],?_,inv ⟨by omega,(fun h=>by cases h),(fun i hi=>by cases hi;omega)⟩,by simp only;omega⟩;dsimp only [C4];rw [e0,List.map_append,C3];refine Y7 ?_;unfold A4;simp only [hw1,hn1,if_true,if_false,Bool.false_eq_true];rfl
 ·have hd:decide ((k:Int)<(l.length:Int))=false:=by simpa using hlt
  repeat' ((with_reducible apply wr)<;>try simp only [go_sem,seval,hd])
  rw [List.take_of_length_le (by omega)];exact A2u (fun e=>by rw [List.eq_nil_of_length_eq_zero (l:=l) (by have:=hno e;omega)];rfl) (by simp;omega) (E3 _)
theorem c_join1 (l:List (List Tok)) (hl:l.length<=1000) (hx:∀ x∈l,1<=x.length/\x.length<=1000000000):PC Tryz.prog 131 [.lst (l.map D8)] (D8 l.flatten):=by
 refine PC.of A9 isU131 (Nat.le_of_ble_eq_true rfl) (by simp only [DV.nlL,DV.nl,K9 (f:=D8) (fun a=>K2 a),Bool.and_true]) (K2 _) ?_;show IW Tryz.prog 18 u131_1 ⟨B6 _,_,_⟩ (rt [.tmp 2] _);repeat' ((with_reducible apply wr)<;>try simp only [go_sem,seval])
 refine C2 (fun q:Nat × Option Nat=>[(0,.lst (l.map D8)),(3,B5 q.2 (l.take q.1).flatten.length),(4,I64 q.1)]) (fun q=>C4 Sym.nil q.2 ⟨4,true,A5 ((l.take q.1).flatten.map Tok.v)⟩)
  (fun q c=>q.1<=l.length/\(q.2=none->q.1=0)/\(∀ i,q.2=some i->i<c)/\(l.take q.1).flatten.length<=1000000000 * q.1) (fun q=>l.length-q.1) (0,none)
  (by simp [C1,tm,Tm.upd,B5]) (Sub.nil _) ⟨Nat.zero_le _,fun _=>rfl,(fun i hi=>by cases hi),by simp⟩ ?_
 rintro ⟨k,o⟩ c ⟨hk,hno,ho,hlen⟩;dsimp only at hk hno ho hlen ⊢;by_cases hlt:k<l.length
 ·have hd:decide ((k:Int)<(l.length:Int))=true:=by simpa using hlt
  have hg:=List.getElem?_eq_getElem hlt;obtain ⟨hx1,hx2⟩:=hx _ (List.getElem_mem hlt);have hw:=w64 (n:=(k:Int)+1) (by omega) (by omega);have e0:(l.take (k+1)).flatten=(l.take k).flatten++l[k]:=by rw [List.take_add_one,hg,List.flatten_append];simp
  generalize l[k]=x at hg hx1 hx2 e0;generalize hy:(l.take k).flatten=y at hlen e0 ⊢;have hun:unit 4 (x.map Tok.v)=true:=by unfold unit;rw [List.all_eq_true];intro d hd;simp [E3 x d hd]
  have hny:o=none->y=[]:=fun e=>by rw [<- hy,hno e];rfl
  have hln:(A5 (y.map Tok.v)).length=y.length * 4:=(B8 (u:=4) (E3 _)).trans (by simp);repeat' ((with_reducible apply wr)<;>try simp only [go_sem,seval,hd,hg,hw,O9 hun])
  refine F5 (F2 (cs:=A5 (y.map Tok.v)) (fun e=>by rw [hny e];exact ⟨rfl,rfl⟩) (fun i hi=>A0n hi) hln (by omega) (by omega) (by omega)) ?_;simp only [go_sem,seval];repeat' ((with_reducible apply wr)<;>try simp only [go_sem,seval,hd,hw])
  refine ⟨(k+1,some c),by simp [C1,tm,Tm.upd,B5,e0],?_,inv ⟨by omega,(fun h=>by cases h),(fun i hi=>by cases hi;omega),by simp only;rw [e0,List.length_append];omega⟩,by simp only;omega⟩;dsimp only [C4];rw [e0,List.map_append,C3];exact Y7 rfl
 ·have hd:decide ((k:Int)<(l.length:Int))=false:=by simpa using hlt
  repeat' ((with_reducible apply wr)<;>try simp only [go_sem,seval,hd])
  rw [List.take_of_length_le (by omega)];exact A2u (fun e=>by rw [List.eq_nil_of_length_eq_zero (l:=l) (by have:=hno e;omega)];rfl) (by rw [List.length_map]) (E3 _)
end Go.Proofs.YtnmkkggfgdfmeaaGreatDoor
namespace Go.Pb
variable [Go.Sym.Tab]
open Go.Sym
mutual
def Ex.sz:Ex->Nat
 | .mk k v n a p=>1+n.length+Ex.szs a
def Ex.szs:List Ex->Nat
 | []=>0
 | e :: l=>e.sz+Ex.szs l
end
mutual
def St.sz:St->Nat
 | .mk k n t a x y p=>1+n.length+t.length+Ex.szs a+St.szs x+St.szs y
def St.szs:List St->Nat
 | []=>0
 | e :: l=>e.sz+St.szs l
end
def Dc.sz (d:Dc):Nat:=1+d.name.length
def Hd.sz (h:Hd):Nat:=1+h.name.length+St.szs h.body
def Md.sz (m:Md):Nat:=1+m.name.length+(m.hds.map Hd.sz).sum
def Ru.sz (r:Ru):Nat:=(r.decls.map Dc.sz).sum+(r.modes.map Md.sz).sum
theorem Ex.szs_map:∀ l:List Ex,Ex.szs l=(l.map Ex.sz).sum
 | []=>rfl
 | e :: l=>by rw [Ex.szs,Ex.szs_map l];rfl
theorem St.szs_map:∀ l:List St,St.szs l=(l.map St.sz).sum
 | []=>rfl
 | e :: l=>by rw [St.szs,St.szs_map l];rfl
theorem I5 {α : Type} {f : α -> Nat} {x : α}:∀ {l:List α},x∈l->f x<=(l.map f).sum
 | a :: l,h=>by
  rw [List.map_cons,List.sum_cons];rcases List.mem_cons.1 h with rfl|h
  ·omega
  ·have:=I5 (f:=f) h;omega
theorem G9 {α : Type} {f : α -> Nat}:∀ {l:List α},(∀ x∈l,1<=f x)->l.length<=(l.map f).sum
 | [],h=>Nat.zero_le _
 | a :: l,h=>by
  have:=G9 (f:=f) (l:=l) fun x hx=>h x (List.mem_cons_of_mem _ hx);have:=h a List.mem_cons_self;rw [List.map_cons,List.sum_cons,List.length_cons];omega
theorem Ex.sz_pos (e:Ex):1<=e.sz:=by cases e with|mk k v n a p=>rw [Ex.sz];omega
theorem St.sz_pos (e:St):1<=e.sz:=by cases e with|mk k n t a x y p=>rw [St.sz];omega
theorem Ex.sz_arg {e x:Ex} (h:x∈e.args):x.sz<e.sz:=by
 cases e with|mk k v n a p =>
 have:=I5 (f:=Ex.sz) h;rw [Ex.sz,Ex.szs_map];have h':(Ex.mk k v n a p).args=a:=rfl;rw [h'] at this;omega
theorem Ex.sz_name (e:Ex):e.name.length<e.sz:=by
 cases e with|mk k v n a p=>rw [Ex.sz];show n.length<_;omega
theorem Ex.sz_args (e:Ex):e.args.length<e.sz:=by
 cases e with|mk k v n a p =>
 have:=G9 (f:=Ex.sz) (l:=a) fun x _=>x.sz_pos;rw [Ex.sz,Ex.szs_map];show a.length<_;omega
theorem St.sz_name (e:St):e.name.length<e.sz:=by
 cases e with|mk k n t a x y p=>rw [St.sz];show n.length<_;omega
theorem St.sz_text (e:St):e.text.length<e.sz:=by
 cases e with|mk k n t a x y p=>rw [St.sz];show t.length<_;omega
theorem St.sz_arg {e:St} {x:Ex} (h:x∈e.args):x.sz<e.sz:=by
 cases e with|mk k n t a u w p =>
 have:=I5 (f:=Ex.sz) h;have h':(St.mk k n t a u w p).args=a:=rfl;rw [h'] at this;rw [St.sz,Ex.szs_map];omega
theorem St.sz_args (e:St):e.args.length<e.sz:=by
 cases e with|mk k n t a u w p =>
 have:=G9 (f:=Ex.sz) (l:=a) fun x _=>x.sz_pos;rw [St.sz,Ex.szs_map];show a.length<_;omega
theorem St.sz_thn (e:St):St.szs e.thn<e.sz:=by
 cases e with|mk k n t a u w p=>rw [St.sz];show St.szs u<_;omega
theorem St.sz_els (e:St):St.szs e.els<e.sz:=by
 cases e with|mk k n t a u w p=>rw [St.sz];show St.szs w<_;omega
theorem St.szs_len (l:List St):l.length<=St.szs l:=by rw [St.szs_map];exact G9 fun x _=>x.sz_pos
theorem St.szs_mem {l:List St} {x:St} (h:x∈l):x.sz<=St.szs l:=by rw [St.szs_map];exact I5 h
theorem Ex.szs_mem {l:List Ex} {x:Ex} (h:x∈l):x.sz<=Ex.szs l:=by rw [Ex.szs_map];exact I5 h
theorem Ex.szs_len (l:List Ex):l.length<=Ex.szs l:=by rw [Ex.szs_map];exact G9 fun x _=>x.sz_pos
theorem A3 (s:List UInt8):(D0 s).length=1:=by unfold D0;split<;>rfl
theorem B0 (n:Int):(R6 n).length=1:=by unfold R6;split<;>rfl
theorem A7 (s:List UInt8):(A0a s).length=1:=by unfold A0a;split<;>rfl
theorem A1f (q:Int × List Tok) (n:Int):q.2.length<=(E4 q n).length/\(E4 q n).length<=q.2.length+2:=by
 unfold E4;split
 ·simp only [List.length_append,List.length_singleton];omega
 ·omega
theorem A3g:∀ l:List Ex,A4z l=l.map fun e=>(e.kind,exT e)
 | []=>rfl
 | e :: l=>by rw [A4z,A3g l];rfl
set_option maxHeartbeats 2000000 in
theorem buildT_len {k v:Int} {n:List UInt8} {as1:List (Int × List Tok)}:1<=(J7 k v n as1).length/\(J7 k v n as1).length<=5+(as1.map fun q=>q.2.length).sum:=by
 unfold J7
 match as1 with
 | [] =>
  dsimp only;repeat' split
  all_goals simp only [List.length_append,List.length_singleton,A3,B0]
  all_goals omega
 | [q] =>
  have:=A1f q 6;dsimp only;repeat' split
  all_goals simp only [List.length_append,List.length_singleton,A3,B0,List.map_cons,List.map_nil,List.sum_cons,List.sum_nil]
  all_goals omega
 | [q,r] =>
  have h1:=A1f q (if B3 k=3 then 4 else B3 k);have h2:=A1f r (B3 k+1);dsimp only;generalize E4 q (if B3 k=3 then 4 else B3 k)=A at h1 ⊢;generalize E4 r (B3 k+1)=B at h2 ⊢;generalize A4 (D2.getD (k-12).toNat [])=W;generalize B3 k=lv;repeat' split
  all_goals simp only [List.length_append,List.length_singleton,A3,B0,List.map_cons,List.map_nil,List.sum_cons,List.sum_nil]
  all_goals omega
 | q :: r :: w :: l =>
  dsimp only;repeat' split
  all_goals simp only [List.length_append,List.length_singleton,A3,B0]
  all_goals omega
theorem Z7:∀ e:Ex,1<=(exT e).length/\(exT e).length<=5 * e.sz
 | .mk k v n a p=>by
  have ih:∀ x∈a,(exT x).length<=5 * x.sz:=fun x hx=>(Z7 x).2;have h:=buildT_len (k:=k) (v:=v) (n:=n) (as1:=A4z a);rw [exT];refine ⟨h.1,?_⟩;have h2:((A4z a).map fun q=>q.2.length).sum<=5 * Ex.szs a:=by
   rw [A3g,List.map_map,Ex.szs_map];clear h
   induction a with
   | nil=>simp
   | cons x l ihl =>
    have h1:=ih x List.mem_cons_self;have h2:=ihl fun y hy=>ih y (List.mem_cons_of_mem _ hy);simp only [List.map_cons,List.sum_cons,Function.comp] at h2 ⊢;omega
  rw [Ex.sz];omega
theorem agT_le (l:List Ex) (i:Nat):1<=(agT l i).length/\(agT l i).length<=1+5 * Ex.szs l:=by
 unfold agT;cases h:l[i]? with
 | none=>exact ⟨Nat.le_refl _,by show 1<=_;omega⟩
 | some e =>
  have h1:=Z7 e;have h2:=Ex.szs_mem (List.mem_of_getElem? h);dsimp only;omega
mutual
theorem A5m:∀ s:St,1<=(stT s).length/\(stT s).length<=11 * s.sz
 | .mk k n t a x y p=>by
  have h0:=agT_le a 0;have h1:=agT_le a 1;have hx:=A2p x;have hy:∀ l,l=y->(N3 l).length<=11 * St.szs l:=fun l h=>by subst h;exact A2p l
  have hq:∀ q,y=[q]->(stT q).length<=11 * q.sz:=fun q h=>by subst h;exact (A5m q).2
  rw [St.sz];unfold stT;dsimp only;generalize agT a 0=A at h0 ⊢;generalize agT a 1=B at h1 ⊢;generalize N3 x=X at hx ⊢;generalize A4 (B9.getD (k-2).toNat [])=W
  match y,hy,hq with
  | [],hy,hq =>
   dsimp only;rw [St.szs];repeat' split
   all_goals simp only [List.length_append,List.length_singleton,A3,A7]
   all_goals omega
  | [q],hy,hq =>
   have hq:=hq q rfl;dsimp only;rw [St.szs,St.szs];generalize stT q=Q at hq ⊢;repeat' split
   all_goals simp only [List.length_append,List.length_singleton,A3,A7]
   all_goals omega
  | q :: q2 :: r,hy,hq =>
   have hy:=hy _ rfl;dsimp only;generalize N3 (q :: q2 :: r)=Y at hy ⊢;generalize St.szs (q :: q2 :: r)=z at hy ⊢;repeat' split
   all_goals simp only [List.length_append,List.length_singleton,A3,A7]
   all_goals omega
theorem A2p:∀ l:List St,(N3 l).length<=11 * St.szs l
 | []=>Nat.zero_le _
 | s :: l=>by
  have h1:=A5m s;have h2:=A2p l;rw [N3,St.szs,List.length_append];omega
end
theorem A5y (l:List St):1<=(blT l).length/\(blT l).length<=11 * St.szs l+2:=by
 have:=A2p l;unfold blT;simp only [List.length_append,List.length_singleton];omega
theorem dcT_len (d:Dc):1<=(dcT d).length/\(dcT d).length<=6:=by
 unfold dcT;dsimp only;generalize A4 (E0.getD (d.kind-1).toNat [])=W;repeat' split
 all_goals simp only [List.length_append,List.length_singleton,A3,B0]
 all_goals (first|omega|simp)
theorem hdT_len (h:Hd):1<=(hdT h).length/\(hdT h).length<=11 * h.sz:=by
 have:=A5y h.body;unfold hdT Hd.sz;generalize A4 (E9.getD (h.trig-1).toNat [])=W;split
 ·simp only [List.length_append,List.length_cons,List.length_nil,A3];omega
 ·simp only [List.length_append,List.length_cons,List.length_nil];omega
theorem A5w {α : Type} {f : α -> List Tok} {g : α -> Nat} {c:Nat}:∀ {l:List α},(∀ x∈l,(f x).length<=c * g x)->(l.flatMap f).length<=c * (l.map g).sum
 | [],_=>by simp
 | a :: l,h=>by
  have h1:=h a List.mem_cons_self;have h2:=A5w (l:=l) fun x hx=>h x (List.mem_cons_of_mem _ hx);rw [List.flatMap_cons,List.length_append,List.map_cons,List.sum_cons,Nat.mul_add];omega
theorem mdT_len (m:Md):1<=(mdT m).length/\(mdT m).length<=11 * m.sz:=by
 have:=A5w (l:=m.hds) (f:=hdT) (g:=Hd.sz) (c:=11) fun x _=>(hdT_len x).2;unfold mdT Md.sz;simp only [List.length_append,List.length_singleton,A3,B0];omega
theorem ruT_len (r:Ru):(ruT r).length<=11 * r.sz+1/\(r.decls.flatMap dcT++r.modes.flatMap mdT).length<=11 * r.sz:=by
 have h1:=A5w (l:=r.decls) (f:=dcT) (g:=Dc.sz) (c:=11) fun x _=>by have:=dcT_len x;unfold Dc.sz;omega
 have h2:=A5w (l:=r.modes) (f:=mdT) (g:=Md.sz) (c:=11) fun x _=>(mdT_len x).2;have h3:(r.decls.flatMap dcT++r.modes.flatMap mdT).length<=11 * r.sz:=by
  unfold Ru.sz;rw [List.length_append];omega
 refine ⟨?_,h3⟩;unfold ruT;split
 ·show 1<=_;omega
 ·omega
end Go.Pb
namespace Go.Proofs.YtnmkkggfgdfmeaaGreatDoor
open Go.Eng (IC IOper DReg IFn A6)
open Go.Sym Go.Pb
theorem Q7 {H:Hp} {i j:Nat}:I0 H (some i) j=if j=i then none else H j:=_root_.id rfl
theorem del_same {H:Hp} {i:Nat} {b:Blk}:I0 (H.upd i b) (some i)=I0 H (some i):=by
 funext j;rw [Q7,Q7];split
 ·rfl
 ·rename_i h;rw [A2 h]
theorem del_upd {H:Hp} {i k:Nat} {b:Blk} (h:¬ k=i):I0 (H.upd k b) (some i)=(I0 H (some i)).upd k b:=by
 funext j;rw [Q7]
 by_cases e:j=k
 ·subst e;rw [A0,if_neg h,A0]
 ·rw [A2 e,A2 e,Q7]
theorem del_nil {i:Nat}:I0 nil (some i)=nil:=by
 funext j;rw [Q7];split<;>rfl
theorem mg_del {ks:List Nat} {H:Hp} {i:Nat} (h:ks.all (fun k=>k != i)=true):H9 ks H (I0 (L4 H ks) (some i))=I0 H (some i):=by
 have hi:i ∉ ks:=fun hm=>by simpa using List.all_eq_true.1 h i hm
 funext j
 simp only [H9,Q7,L4];by_cases e:j=i
 ·subst e;rw [if_neg hi,if_pos rfl,if_pos rfl]
 ·by_cases e2:j∈ks
  ·rw [if_pos e2,if_neg e]
  ·rw [if_neg e2,if_neg e,if_neg e,if_neg e2]
attribute [go_sem] del_same del_upd del_nil
theorem mg_del1 {k i:Nat} {H:Hp} (h:¬ k=i):H9 [k] H (I0 (L4 H [k]) (some i))=I0 H (some i):=mg_del (by simpa using h)
attribute [go_sem] mg_del1
theorem X7 {f:Nat} {xs:List DV} {r:DV} {u id n cc:Nat} {H:Hp} {cs:List DV} (h:PC Tryz.prog f [.lst xs] r) (hb:H id=some ⟨u,true,cs⟩) (hcs:cs=A5 xs) (hl:xs.length=n) (hu:∀ x∈xs,x.cells.length=u) :
  AC Tryz.prog f [.slc id 0 n] H cc (fun v H' c'=>v=r/\H'=I0 H (some id)/\c'=cc) :=
 AC.ghost (GL.frzS (id:=id) hb rfl (fun j=>by
  by_cases e:j=id
  ·subst e;exact .inl (by rw [Q7,if_pos rfl])
  ·exact .inr ⟨e,by rw [Q7,if_neg e]⟩) (.cons _ _ _ _ (N6 hl hu ⟨[],by rw [hcs];simp⟩) .nil)) (h.at _ cc)
def wT (x:List UInt8):List Tok:=[A4 x]
theorem Y5 (x:List UInt8):1<=(wT x).length/\(wT x).length<=1000000000:=⟨Nat.le_refl _,by show 1<=_;omega⟩
theorem wd1 {x:List UInt8} {id cc:Nat} {H:Hp} (hb:H id=some ⟨1,true,[.str x]⟩) (hx:x.length<=1000000000) :
  AC Tryz.prog 132 [.slc id 0 1] H cc (fun v H' c'=>v=D8 (wT x)/\H'=I0 H (some id)/\c'=cc) :=
 X7 (xs:=[.str x]) (c_words1 [x] (by simp) (by simpa using hx)) hb rfl rfl (J5 [x])
theorem wd2 {x y:List UInt8} {id cc:Nat} {H:Hp} (hb:H id=some ⟨1,true,[.str x,.str y]⟩) (hx:x.length<=1000000000) (hy:y.length<=1000000000) :
  AC Tryz.prog 132 [.slc id 0 2] H cc (fun v H' c'=>v=D8 [A4 x,A4 y]/\H'=I0 H (some id)/\c'=cc) :=
 X7 (xs:=[.str x,.str y]) (c_words1 [x,y] (by simp) (by simp [hx,hy])) hb rfl rfl (J5 [x,y])
theorem A2l (l:List (List Tok)):∀ x∈l.map D8,x.cells.length=1:=fun x hx=>by obtain ⟨y, -,rfl⟩:=List.mem_map.1 hx;rfl
theorem jn2 {a b:List Tok} {id cc:Nat} {H:Hp} (hH:H id=some ⟨1,true,[D8 a,D8 b]⟩) (ha:1<=a.length/\a.length<=1000000000) (hb:1<=b.length/\b.length<=1000000000) :
  AC Tryz.prog 131 [.slc id 0 2] H cc (fun v H' c'=>v=D8 (a++b)/\H'=I0 H (some id)/\c'=cc):=by
 have:=X7 (id:=id) (cc:=cc) (H:=H) (u:=1) (n:=2) (c_join1 [a,b] (by simp) (by simp [ha,hb])) hH rfl rfl (A2l [a,b])
 rwa [List.flatten_cons,List.flatten_cons,List.flatten_nil,List.append_nil] at this
theorem jn3 {a b c:List Tok} {id cc:Nat} {H:Hp} (hH:H id=some ⟨1,true,[D8 a,D8 b,D8 c]⟩) (ha:1<=a.length/\a.length<=1000000000) (hb:1<=b.length/\b.length<=1000000000) (hc:1<=c.length/\c.length<=1000000000) :
  AC Tryz.prog 131 [.slc id 0 3] H cc (fun v H' c'=>v=D8 (a++b++c)/\H'=I0 H (some id)/\c'=cc):=by
 have:=X7 (id:=id) (cc:=cc) (H:=H) (u:=1) (n:=3) (c_join1 [a,b,c] (by simp) (by simp [ha,hb,hc])) hH rfl rfl (A2l [a,b,c])
 rwa [List.flatten_cons,List.flatten_cons,List.flatten_cons,List.flatten_nil,List.append_nil, <- List.append_assoc] at this
theorem nm_len (x:List UInt8):1<=(D0 x).length/\(D0 x).length<=1000000000:=by rw [A3];omega
theorem c_operand (e:Ex) (n:Int) (hT:(exT e).length<=100000000) (h:PC Tryz.prog 100 [e.v] (D8 (exT e))):PC Tryz.prog 137 [e.v,I64 n] (D8 (E4 (e.kind,exT e) n)):=by
 refine PC.of A9 isU137 (Nat.le_of_ble_eq_true rfl) (by simp [DV.nlL,DV.nl,Ex.nl]) (K2 _) ?_;rw [Ex.v_w] at h ⊢;show IW Tryz.prog 20 u137_1 ⟨B6 _,_,_⟩ (rt [.tmp 4] _);have hlv:=c_level e.kind;obtain ⟨hl1, -⟩:=Z7 e;obtain ⟨R,hR⟩:∃ R,R=D8 (E4 (e.kind,exT e) n):=⟨_,rfl⟩;rw [<- hR];unfold E4 at hR;dsimp only at hR;generalize exT e=T at h hT hl1 hR;by_cases hlt:B3 e.kind<n
 ·have hd:decide (B3 e.kind<n)=true:=by simpa using hlt
  rw [if_pos hlt] at hR;repeat' ((first|(with_reducible first|refine wr ?_|refine cpc hlv ?_|refine cpc h ?_)|(refine AC.call (wd1 rfl (by decide)) ?_<;>rintro _ _ _ ⟨rfl,rfl,rfl⟩ -)|(refine AC.call (jn3 rfl (Y5 _) ⟨hl1,by omega⟩ (Y5 _)) ?_<;>rintro _ _ _ ⟨rfl,rfl,rfl⟩ -)|fail)<;>try simp only [go_sem,seval,hd])
  exact ⟨_,by rw [hR];exact GL.refl _ _⟩
 ·have hd:decide (B3 e.kind<n)=false:=by simpa using hlt
  rw [if_neg hlt] at hR;repeat' ((with_reducible first|apply wr|refine cpc hlv ?_|refine cpc h ?_|fail)<;>try simp only [go_sem,seval,hd])
  exact ⟨_,by rw [hR];exact GL.refl _ _⟩
theorem r_iad1 {sz:Nat} {xs:List DV} {k:IntKind}:M4 sz (.lst xs) (.int k 1)=iadO sz xs[1]? := r_iadn (l:=1)
theorem c_exprT:∀ (m:Nat) (e:Ex),e.sz<m->e.sz<=10000000->PC Tryz.prog 100 [e.v] (D8 (exT e)):=by
 intro m
 induction m with
 | zero=>intro e h;omega
 | succ m ih =>
 intro e hm hB;have ihx:∀ x∈e.args,PC Tryz.prog 100 [x.v] (D8 (exT x)):=fun x hx=>ih x (by have:=Ex.sz_arg hx;omega) (by have:=Ex.sz_arg hx;omega);have hop:∀ x∈e.args, ∀ n,PC Tryz.prog 137 [x.v,I64 n] (D8 (E4 (x.kind,exT x) n)):=fun x hx n=>c_operand x n (by have:=(Z7 x).2;have:=Ex.sz_arg hx;omega) (ihx x hx);have hle:∀ x∈e.args, ∀ n,1<=(E4 (x.kind,exT x) n).length/\(E4 (x.kind,exT x) n).length<=1000000000:=fun x hx n=>by
  have h1:=Z7 x;have h2:=Ex.sz_arg hx;have h3:=A1f (x.kind,exT x) n;dsimp only at h3;omega
 clear ih ihx;obtain ⟨R,hR⟩:∃ R,R=D8 (exT e):=⟨_,rfl⟩;have hnm:=e.sz_name;refine PC.of A9 isU100 (Nat.le_of_ble_eq_true rfl) (by simp [DV.nlL,DV.nl,Ex.nl]) (K2 _) ?_;rw [Ex.v_w, <- hR];cases e with|mk k v n a p =>
 rw [exT,A3g] at hR;dsimp only [Ex.w,Ex.kind,Ex.value,Ex.name,Ex.args,Ex.pos] at hop hle hnm ⊢;unfold J7 at hR;dsimp only at hR;show IW Tryz.prog 140 u100_1 ⟨B6 _,_,_⟩ (rt [.tmp 2] _);have hlv:=c_level k;have hnu:=c_number31 v;have hna:=c_named n (by omega);by_cases h1:k=1
 ·subst h1;rw [if_pos rfl] at hR;repeat' ((with_reducible first|apply wr|refine cpc hlv ?_|refine cpc hnu ?_|fail)<;>try simp only [go_sem,seval])
  exact ⟨_,by rw [hR];exact GL.refl _ _⟩
 have d1:(k == 1)=false:=by simpa using h1
 rw [if_neg h1] at hR;by_cases h2:k=2
 ·subst h2;rw [if_pos rfl] at hR;repeat' ((with_reducible first|apply wr|refine cpc hlv ?_|refine cpc hna ?_|fail)<;>try simp only [go_sem,seval])
  exact ⟨_,by rw [hR];exact GL.refl _ _⟩
 have d2:(k == 2)=false:=by simpa using h2
 rw [if_neg h2] at hR;by_cases h3:k=3
 ·subst h3;rw [if_pos rfl] at hR;repeat' ((first|(with_reducible first|refine wr ?_|refine cpc hlv ?_)|(refine AC.call (wd1 rfl (by decide)) ?_<;>rintro _ _ _ ⟨rfl,rfl,rfl⟩ -)|fail)<;>try simp only [go_sem,seval])
  exact ⟨_,by rw [hR];exact GL.refl _ _⟩
 have d3:(k == 3)=false:=by simpa using h3
 rw [if_neg h3] at hR;by_cases h4:k=4
 ·subst h4;rw [if_pos rfl] at hR;repeat' ((first|(with_reducible first|refine wr ?_|refine cpc hlv ?_)|(refine AC.call (wd1 rfl (by decide)) ?_<;>rintro _ _ _ ⟨rfl,rfl,rfl⟩ -)|fail)<;>try simp only [go_sem,seval])
  exact ⟨_,by rw [hR];exact GL.refl _ _⟩
 have d4:(k == 4)=false:=by simpa using h4
 rw [if_neg h4] at hR;by_cases h8:k=8
 ·subst h8;rw [if_pos rfl] at hR;repeat' ((first|(with_reducible first|refine wr ?_|refine cpc hlv ?_)|(refine AC.call (wd1 rfl (by decide)) ?_<;>rintro _ _ _ ⟨rfl,rfl,rfl⟩ -)|fail)<;>try simp only [go_sem,seval])
  exact ⟨_,by rw [hR];exact GL.refl _ _⟩
 have d8:(k == 8)=false:=by simpa using h8
 rw [if_neg h8] at hR;by_cases h9:k=9
 ·subst h9;rw [if_pos rfl] at hR;repeat' ((first|(with_reducible first|refine wr ?_|refine cpc hlv ?_)|(refine AC.call (wd1 rfl (by decide)) ?_<;>rintro _ _ _ ⟨rfl,rfl,rfl⟩ -)|fail)<;>try simp only [go_sem,seval])
  exact ⟨_,by rw [hR];exact GL.refl _ _⟩
 have d9:(k == 9)=false:=by simpa using h9
 rw [if_neg h9] at hR;by_cases h5:k=5
 ·subst h5;rw [if_pos rfl] at hR;repeat' ((first|(with_reducible first|refine wr ?_|refine cpc hlv ?_|refine cpc hna ?_)|(refine AC.call (wd1 rfl (by decide)) ?_<;>rintro _ _ _ ⟨rfl,rfl,rfl⟩ -)|(refine AC.call (jn2 rfl (Y5 _) (nm_len _)) ?_<;>rintro _ _ _ ⟨rfl,rfl,rfl⟩ -)|fail)<;>try simp only [go_sem,seval])
  exact ⟨_,by rw [hR];exact GL.refl _ _⟩
 have d5:(k == 5)=false:=by simpa using h5
 rw [if_neg h5] at hR;by_cases h6:k=6
 ·subst h6;rw [if_pos rfl] at hR;repeat' ((first|(with_reducible first|refine wr ?_|refine cpc hlv ?_|refine cpc hna ?_)|(refine AC.call (wd1 rfl (by decide)) ?_<;>rintro _ _ _ ⟨rfl,rfl,rfl⟩ -)|(refine AC.call (jn2 rfl (Y5 _) (nm_len _)) ?_<;>rintro _ _ _ ⟨rfl,rfl,rfl⟩ -)|fail)<;>try simp only [go_sem,seval])
  exact ⟨_,by rw [hR];exact GL.refl _ _⟩
 have d6:(k == 6)=false:=by simpa using h6
 rw [if_neg h6] at hR;by_cases h7:k=7
 ·subst h7;rw [if_pos rfl] at hR;repeat' ((first|(with_reducible first|refine wr ?_|refine cpc hlv ?_|refine cpc hna ?_)|(refine AC.call (wd1 rfl (by decide)) ?_<;>rintro _ _ _ ⟨rfl,rfl,rfl⟩ -)|(refine AC.call (jn2 rfl (Y5 _) (nm_len _)) ?_<;>rintro _ _ _ ⟨rfl,rfl,rfl⟩ -)|fail)<;>try simp only [go_sem,seval])
  exact ⟨_,by rw [hR];exact GL.refl _ _⟩
 have d7:(k == 7)=false:=by simpa using h7
 rw [if_neg h7] at hR;have hbad:∀ q:List Tok,R=D8 q->q=[Q0]->∃ H2,GL ((nil.upd 0 ⟨0,true,[I64 k,I64 v,.str n,F4 a,I64 p]⟩).upd 1 ⟨4,true,[I64 0,.str [],I64 0,I64 0]⟩) [.slc 1 0 1] H2 [R]:=fun q h1 h2=>by
  rw [h1,h2];exact L7 (id:=1) A0 rfl rfl (E3 [Q0]) ⟨[],rfl⟩
 have w0:IntKind.i64.wrap 0=0:=by decide
 have w1:IntKind.i64.wrap 1=1:=by decide
 match a with
 | [] =>
  have e1:((0:Int) == 1)=false:=rfl;have e2:((0:Int) == 2)=false:=rfl;try dsimp only [List.map_nil] at hR
  by_cases l6:B3 k=6
  ·have m6:(B3 k == 6)=true:=by simpa using l6
   have m5:decide (B3 k<6)=false:=by simp;omega
   repeat' ((with_reducible first|apply wr|refine cpc hlv ?_|fail)<;>try simp only [go_sem,seval,d1,d2,d3,d4,d8,d9,d5,d6,d7,m6,m5,List.length_nil,List.map_nil,List.length_map])
   exact hbad _ hR rfl
  ·have m6:(B3 k == 6)=false:=by simpa using l6
   by_cases l5:B3 k<6
   ·have m5:decide (B3 k<6)=true:=by simpa using l5
    repeat' ((with_reducible first|apply wr|refine cpc hlv ?_|fail)<;>try simp only [go_sem,seval,d1,d2,d3,d4,d8,d9,d5,d6,d7,m6,m5,List.length_nil,List.map_nil,List.length_map])
    exact hbad _ hR rfl
   ·have m5:decide (B3 k<6)=false:=by simpa using l5
    repeat' ((with_reducible first|apply wr|refine cpc hlv ?_|fail)<;>try simp only [go_sem,seval,d1,d2,d3,d4,d8,d9,d5,d6,d7,m6,m5,List.length_nil,List.map_nil,List.length_map])
    exact hbad _ hR rfl
 | [x] =>
  have hx:=fun n=>by have:=hop x List.mem_cons_self n;rwa [Ex.v_w] at this
  have hxl:=hle x List.mem_cons_self;simp only [List.map_cons,List.map_nil] at hR;by_cases l6:B3 k=6
  ·have m6:(B3 k == 6)=true:=by simpa using l6
   rw [if_pos l6] at hR;have hk:k=10\/k=11:=by
    unfold B3 at l6;repeat' split at l6
    all_goals omega
   rcases hk with rfl|rfl
   ·rw [if_pos rfl] at hR;repeat' ((first|(with_reducible first|refine wr ?_|refine cpc hlv ?_|refine cpc (hx 6) ?_)|(refine AC.call (wd1 rfl (by decide)) ?_<;>rintro _ _ _ ⟨rfl,rfl,rfl⟩ -)|(refine AC.call (jn2 rfl (Y5 _) (hxl 6)) ?_<;>rintro _ _ _ ⟨rfl,rfl,rfl⟩ -)|fail)<;>try simp only [go_sem,seval,d1,d2,d3,d4,d8,d9,d5,d6,d7,m6,w0,w1,Ex.v_w])
    exact ⟨_,by rw [hR];exact GL.refl _ _⟩
   ·rw [if_neg (by decide)] at hR;repeat' ((first|(with_reducible first|refine wr ?_|refine cpc hlv ?_|refine cpc (hx 6) ?_)|(refine AC.call (wd1 rfl (by decide)) ?_<;>rintro _ _ _ ⟨rfl,rfl,rfl⟩ -)|(refine AC.call (jn2 rfl (Y5 _) (hxl 6)) ?_<;>rintro _ _ _ ⟨rfl,rfl,rfl⟩ -)|fail)<;>try simp only [go_sem,seval,d1,d2,d3,d4,d8,d9,d5,d6,d7,m6,w0,w1,Ex.v_w])
    exact ⟨_,by rw [hR];exact GL.refl _ _⟩
  ·have m6:(B3 k == 6)=false:=by simpa using l6
   rw [if_neg l6] at hR;by_cases l5:B3 k<6
   ·have m5:decide (B3 k<6)=true:=by simpa using l5
    repeat' ((with_reducible first|apply wr|refine cpc hlv ?_|fail)<;>try simp only [go_sem,seval,d1,d2,d3,d4,d8,d9,d5,d6,d7,m6,m5])
    exact hbad _ hR rfl
   ·have m5:decide (B3 k<6)=false:=by simpa using l5
    repeat' ((with_reducible first|apply wr|refine cpc hlv ?_|fail)<;>try simp only [go_sem,seval,d1,d2,d3,d4,d8,d9,d5,d6,d7,m6,m5])
    exact hbad _ hR rfl
 | [x,y] =>
  have hx:=fun n=>by have:=hop x List.mem_cons_self n;rwa [Ex.v_w] at this
  have hxl:=hle x List.mem_cons_self;have hy:=fun n=>by have:=hop y (List.mem_cons_of_mem _ List.mem_cons_self) n;rwa [Ex.v_w] at this
  have hyl:=hle y (List.mem_cons_of_mem _ List.mem_cons_self);simp only [List.map_cons,List.map_nil] at hR;by_cases l5:B3 k<6
  ·have m5:decide (B3 k<6)=true:=by simpa using l5
   have m6:(B3 k == 6)=false:=by simp;omega
   rw [if_pos l5] at hR;obtain ⟨k1,k2⟩:=B0a (k:=k) (by omega);have k3:12<=k:=by
    apply Classical.byContradiction;intro hc;have:k=10\/k=11:=by omega
    rw [A3a this] at l5;omega
   obtain ⟨j,hj⟩:∃ j:Nat,k=12+(j:Int):=⟨(k-12).toNat,by omega⟩;have hjw:IntKind.i64.wrap (k-12)=(j:Int):=by rw [w64 (by omega) (by omega)];omega
   have hjn:(k-12).toNat=j:=by omega
   rw [hjn] at hR;have hj13:j<13:=by omega
   have hgj:D2[j]? = some (D2.getD j []):=by
    rw [List.getD_eq_getElem?_getD,List.getElem?_eq_getElem (show j<D2.length from hj13)];rfl
   have hsl:(D2.getD j []).length<=1000000000:=by
    have:∀ i:Nat,i<13->(D2.getD i []).length<=1000000000:=by decide
    exact this j hj13
   generalize D2.getD j []=S at hR hgj hsl;have hw1:IntKind.i64.wrap (B3 k+1)=B3 k+1:=w64 (by have:=T9 k;omega) (by have:=T9 k;omega);by_cases l3:B3 k=3
   ·have m3:(B3 k == 3)=true:=by simpa using l3
    rw [if_pos l3] at hR;repeat' ((first|(with_reducible first|refine wr ?_|refine cpc hlv ?_|refine cpc (hx 4) ?_|refine cpc c_signs31 ?_|refine cpc (hy (B3 k+1)) ?_)|(refine AC.call (wd1 rfl hsl) ?_<;>rintro _ _ _ ⟨rfl,rfl,rfl⟩ -)|(refine AC.call (jn3 rfl (hxl 4) (Y5 _) (hyl (B3 k+1))) ?_<;>rintro _ _ _ ⟨rfl,rfl,rfl⟩ -)|fail)<;>try simp only [go_sem,seval,d1,d2,d3,d4,d8,d9,d5,d6,d7,m6,m5,m3,hjw,hgj,hw1,Ex.v_w,r_iad1,List.getElem?_cons_succ,List.getElem?_cons_zero])
    exact ⟨_,by rw [hR];exact GL.refl _ _⟩
   ·have m3:(B3 k == 3)=false:=by simpa using l3
    rw [if_neg l3] at hR;repeat' ((first|(with_reducible first|refine wr ?_|refine cpc hlv ?_|refine cpc (hx (B3 k)) ?_|refine cpc c_signs31 ?_|refine cpc (hy (B3 k+1)) ?_)|(refine AC.call (wd1 rfl hsl) ?_<;>rintro _ _ _ ⟨rfl,rfl,rfl⟩ -)|(refine AC.call (jn3 rfl (hxl (B3 k)) (Y5 _) (hyl (B3 k+1))) ?_<;>rintro _ _ _ ⟨rfl,rfl,rfl⟩ -)|fail)<;>try simp only [go_sem,seval,d1,d2,d3,d4,d8,d9,d5,d6,d7,m6,m5,m3,hjw,hgj,hw1,Ex.v_w,r_iad1,List.getElem?_cons_succ,List.getElem?_cons_zero])
    exact ⟨_,by rw [hR];exact GL.refl _ _⟩
  ·have m5:decide (B3 k<6)=false:=by simpa using l5
   rw [if_neg l5] at hR;by_cases l6:B3 k=6
   ·have m6:(B3 k == 6)=true:=by simpa using l6
    repeat' ((with_reducible first|apply wr|refine cpc hlv ?_|fail)<;>try simp only [go_sem,seval,d1,d2,d3,d4,d8,d9,d5,d6,d7,m6,m5])
    exact hbad _ hR rfl
   ·have m6:(B3 k == 6)=false:=by simpa using l6
    repeat' ((with_reducible first|apply wr|refine cpc hlv ?_|fail)<;>try simp only [go_sem,seval,d1,d2,d3,d4,d8,d9,d5,d6,d7,m6,m5])
    exact hbad _ hR rfl
 | x :: y :: z :: l =>
  simp only [List.map_cons] at hR;obtain ⟨A,hA⟩:∃ A,A=(x :: y :: z :: l).map Ex.v:=⟨_,rfl⟩;have n1:((A.length:Int) == 1)=false:=by rw [hA];simp;omega
  have n2:((A.length:Int) == 2)=false:=by rw [hA];simp;omega
  have hex:F4 (x :: y :: z :: l)=.lst A:=by rw [hA]
  rw [hex] at hbad ⊢;by_cases l6:B3 k=6
  ·have m6:(B3 k == 6)=true:=by simpa using l6
   have m5:decide (B3 k<6)=false:=by simp;omega
   repeat' ((with_reducible first|apply wr|refine cpc hlv ?_|fail)<;>try simp only [go_sem,seval,d1,d2,d3,d4,d8,d9,d5,d6,d7,m6,m5,n1,n2])
   exact hbad _ hR rfl
  ·have m6:(B3 k == 6)=false:=by simpa using l6
   by_cases l5:B3 k<6
   ·have m5:decide (B3 k<6)=true:=by simpa using l5
    repeat' ((with_reducible first|apply wr|refine cpc hlv ?_|fail)<;>try simp only [go_sem,seval,d1,d2,d3,d4,d8,d9,d5,d6,d7,m6,m5,n1,n2])
    exact hbad _ hR rfl
   ·have m5:decide (B3 k<6)=false:=by simpa using l5
    repeat' ((with_reducible first|apply wr|refine cpc hlv ?_|fail)<;>try simp only [go_sem,seval,d1,d2,d3,d4,d8,d9,d5,d6,d7,m6,m5,n1,n2])
    exact hbad _ hR rfl
end Go.Proofs.YtnmkkggfgdfmeaaGreatDoor
end

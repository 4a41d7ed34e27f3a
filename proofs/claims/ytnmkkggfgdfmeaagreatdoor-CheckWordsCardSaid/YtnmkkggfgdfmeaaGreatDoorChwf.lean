/-
  HELPERS of the claim: part 6 of its texts.
-/
import Derived.Shelf.Strings.Fields
import Derived.Test.YtnmkkggfgdfmeaaGreatDoorProg
import Derived.KernelRfl
import Derived.Lib.Join
import Derived.Test.YtnmkkggfgdfmeaaGreatDoorChwe
noncomputable section
set_option linter.unusedVariables false
namespace Go.Proofs
open Go.Shelf
def Tryz.lays157_ren:Go.Shelf.Ren:=⟨fun | 157=>165 | 229=>167 | 199=>168 | 261=>169 | 311=>170 | 312=>171|n=>n,fun | 9=>9 | 31=>36 | 3=>3 | 5=>5 | 4=>4 | 119=>175 | 0=>0 | 40=>177 | 152=>178 | 21=>21 | 154=>180 | 51=>181 | 141=>183 | 196=>187 | 193=>184 | 198=>190 | 49=>188 | 194=>185 | 201=>193 | 226=>195 | 46=>196 | 227=>197|n=>n,fun | 0=>0 | 6=>1|n=>n⟩
theorem Tryz.lays157:Go.Proofs.Lays.n157 Tryz.prog Tryz.lays157_ren:={
 mixed:=by kernel_rfl
 f157:=Tryz.func165.trans (congrArg some (by kernel_rfl))
 f199:=Tryz.func168.trans (congrArg some (by kernel_rfl))
 f229:=Tryz.func167.trans (congrArg some (by kernel_rfl))
 f261:=Tryz.func169.trans (congrArg some (by kernel_rfl))
 f311:=Tryz.func170.trans (congrArg some (by kernel_rfl))
 f312:=Tryz.func171.trans (congrArg some (by kernel_rfl))
 t0:=Tryz.underlying0
 a0:=Tryz.isAgg0
 z0:=Tryz.sizeOf0
 v0:=Tryz.zeroValue0
 t3:=Tryz.underlying3
 a3:=Tryz.isAgg3
 z3:=Tryz.sizeOf3
 v3:=Tryz.zeroValue3
 t4:=Tryz.underlying4
 a4:=Tryz.isAgg4
 z4:=Tryz.sizeOf4
 v4:=Tryz.zeroValue4
 t5:=Tryz.underlying5
 a5:=Tryz.isAgg5
 z5:=Tryz.sizeOf5
 v5:=Tryz.zeroValue5
 t9:=Tryz.underlying9
 a9:=Tryz.isAgg9
 z9:=Tryz.sizeOf9
 v9:=Tryz.zeroValue9
 t21:=Tryz.underlying21
 a21:=Tryz.isAgg21
 z21:=Tryz.sizeOf21
 v21:=Tryz.zeroValue21
 t31:=Tryz.underlying36
 a31:=Tryz.isAgg36
 z31:=Tryz.sizeOf36
 v31:=Tryz.zeroValue36
 t40:=Tryz.underlying177
 a40:=Tryz.isAgg177
 z40:=Tryz.sizeOf177
 v40:=Tryz.zeroValue177
 t46:=Tryz.underlying196
 a46:=Tryz.isAgg196
 z46:=Tryz.sizeOf196
 v46:=Tryz.zeroValue196
 t49:=Tryz.underlying188
 a49:=Tryz.isAgg188
 z49:=Tryz.sizeOf188
 v49:=Tryz.zeroValue188
 t51:=Tryz.underlying181
 a51:=Tryz.isAgg181
 z51:=Tryz.sizeOf181
 v51:=Tryz.zeroValue181
 t119:=Tryz.underlying175
 a119:=Tryz.isAgg175
 z119:=Tryz.sizeOf175
 t141:=Tryz.underlying183
 a141:=Tryz.isAgg183
 z141:=Tryz.sizeOf183
 v141:=Tryz.zeroValue183
 t152:=Tryz.underlying178
 a152:=Tryz.isAgg178
 z152:=Tryz.sizeOf178
 v152:=Tryz.zeroValue178
 t154:=Tryz.underlying180
 a154:=Tryz.isAgg180
 z154:=Tryz.sizeOf180
 v154:=Tryz.zeroValue180
 t193:=Tryz.underlying184
 a193:=Tryz.isAgg184
 z193:=Tryz.sizeOf184
 v193:=Tryz.zeroValue184
 t194:=Tryz.underlying185
 a194:=Tryz.isAgg185
 z194:=Tryz.sizeOf185
 v194:=Tryz.zeroValue185
 t196:=Tryz.underlying187
 a196:=Tryz.isAgg187
 z196:=Tryz.sizeOf187
 v196:=Tryz.zeroValue187
 t198:=Tryz.underlying190
 a198:=Tryz.isAgg190
 z198:=Tryz.sizeOf190
 v198:=Tryz.zeroValue190
 t201:=Tryz.underlying193
 a201:=Tryz.isAgg193
 z201:=Tryz.sizeOf193
 v201:=Tryz.zeroValue193
 t226:=Tryz.underlying195
 a226:=Tryz.isAgg195
 z226:=Tryz.sizeOf195
 v226:=Tryz.zeroValue195
 t227:=Tryz.underlying197
 a227:=Tryz.isAgg197
 z227:=Tryz.sizeOf197
 v227:=Tryz.zeroValue197
 g0:=by kernel_rfl
 g6:=by kernel_rfl }
open Go.RowKit Go.Lib in
theorem Tryz.strings_Fields (s : ByteArray) (w : World) (hs : s.size < 4294967281) (hascii : ∀ (j : Nat) b, s.data.toList[j]? = some b → b.toNat < 128) (htab : Lib.TabIs Tryz.prog w "strings.asciiSpace" .u8 Lib.asciiSpaceTab) :
  Calls Tryz.prog 165 #[.string s] w fun e w' =>
   e=.returned (.slice (some ⟨w.heap.size,0,none⟩) (Lib.fields s.data.toList).length (Lib.fields s.data.toList).length)/\w'=w.alloc (.cells ((Lib.fields s.data.toList).map fun l=>Value.string ⟨l.toArray⟩).toArray 9):=Any.strings_Fields Tryz.lays157 (by kernel_rfl) (by kernel_rfl) s w hs hascii htab
end Go.Proofs
set_option maxHeartbeats 4000000
set_option maxRecDepth 100000
set_option linter.unusedSimpArgs false
namespace Go.Proofs.YtnmkkggfgdfmeaaGreatDoor
open Go.Eng (IC IOper DReg IFn A7 I1)
open Go.Sym Go.Pb Go.RowKit
theorem arg1 {ρ : Ren} {x:DV} {u:Value} {vs:Array Value} (hA:F2 ρ [x] vs) (h:∀ y,VRel ρ x y->y=u):vs = #[u]:=by
 obtain ⟨y,h1,h2⟩:=hA.get (i:=0) rfl;have hs:vs.size=1:=hA.1.symm;obtain rfl:=h y h2;cases vs with|mk l=>match l,hs,h1 with
  | [a],_,h1=>simp at h1;subst h1;rfl
def C3e:List UInt8:=w8 [115,119,105,116,99,104,32,99,111,105,108,32,108,97,109,112,32,115,111,117,110,100,32,115,104,111,119,32,118,97,114,32,116,105,109,101,114,32,101,118,101,110,116,32,109,111,100,101,32,111,110,32,115,116,97,114,116,32,115,116,111,112,32,99,108,111,115,101,32,111,112,101,110,32,105,102,32,101,108,115,101,32,114,101,112,101,97,116,32,115,99,111,114,101,32,102,105,114,101,32,104,111,108,100,32,114,101,108,101,97,115,101,32,108,105,103,104,116,32,98,108,105,110,107,32,98,101,103,105,110,32,101,110,100,32,112,111,115,116,32,112,108,97,121,32,114,117,110,32,104,97,108,116,32,116,101,120,116,32,99,111,110,115,117,109,101,32,99,108,111,115,101,100,32,97,99,116,105,118,101,32,108,101,102,116,32,112,108,97,121,101,114,32,98,97,108,108,32,116,114,117,101,32,102,97,108,115,101]
theorem C7o:Lib.fields C3e=E3:=by kernel_rfl
theorem C7p:C3e.all (fun b=>decide (b.toNat<128))=true:=by kernel_rfl
theorem c_Fields:PC Tryz.prog 165 [.str C3e] (.lst (E3.map DV.str)):=by
 refine PC.of_callsF (by kernel_rfl) rfl (N0 _) fun ρ w vs hf hA=>?_;rw [arg1 hA (fun y h=>h.str_inv)];obtain ⟨r,hr,rfl⟩ := ρ.tab _ (A0P _ A0O);obtain ⟨e,fr,hb⟩:=hf _ _ hr;have ht : Lib.TabIs Tryz.prog w "strings.asciiSpace" .u8 Lib.asciiSpaceTab := by
  unfold Lib.TabIs World.var?;rw [show Tryz.prog.globalNamed "strings.asciiSpace" = some 0 by kernel_rfl]
  show (match w.heap[0]? with|some (.cells cs _ _)=>some cs|_=>none)=_;have hb':w.heap[0]? = _:=hb;rw [hb']
 refine (Tryz.strings_Fields _ w (by decide) ?_ ht).mono ?_
 ·intro j b hj;have:=A0R.1 C7p b (A0V hj);simpa using this
 ·rintro e w' ⟨rfl,rfl⟩;have hl:Lib.fields (⟨C3e.toArray⟩:ByteArray).data.toList=E3:=C7o;rw [hl];refine ⟨_,w.heap.size,_,9,_,rfl,A0I _,(by show (w.heap.push _)[w.heap.size]? = _;rw [Array.getElem?_push_size]),fun ρ' hρ => VRel.strs hρ rfl (A0I _) (by decide),Below.alloc (Below.refl _ _) (A0I _) _⟩
open Go.Eng (IC IOper DReg IFn A7)
open Go.Sym Go.Pb
theorem c_Fields':PC Tryz.prog 165 [.str [115,119,105,116,99,104,32,99,111,105,108,32,108,97,109,112,32,115,111,117,110,100,32,115,104,111,119,32,118,97,114,32,116,105,109,101,114,32,101,118,101,110,116,32,109,111,100,101,32,111,110,32,115,116,97,114,116,32,115,116,111,112,32,99,108,111,115,101,32,111,112,101,110,32,105,102,32,101,108,115,101,32,114,101,112,101,97,116,32,115,99,111,114,101,32,102,105,114,101,32,104,111,108,100,32,114,101,108,101,97,115,101,32,108,105,103,104,116,32,98,108,105,110,107,32,98,101,103,105,110,32,101,110,100,32,112,111,115,116,32,112,108,97,121,32,114,117,110,32,104,97,108,116,32,116,101,120,116,32,99,111,110,115,117,109,101,32,99,108,111,115,101,100,32,97,99,116,105,118,101,32,108,101,102,116,32,112,108,97,121,101,114,32,98,97,108,108,32,116,114,117,101,32,102,97,108,115,101]] (.lst (E3.map DV.str)):=c_Fields
theorem B6v:∀ k:Nat,k<38->(E3.take k).contains (E3.getD k [])=false:=by decide +kernel
theorem c_words:PC Tryz.prog 157 [] (.mp .s (E3.map DV.str) (E3.map fun _=>DV.bool true)):=by
 refine PC.of A9 isU157 (A0B rfl) rfl (by simp only [DV.nl];rw [N0,K8 (fun _=>rfl)];rfl) ?_;show IW Tryz.prog 15 u157_1 ⟨B7 _,_,_⟩ (rt [.tmp 0] _);have hf:=c_Fields';repeat' ((with_reducible first|apply wr|refine cpc hf ?_|fail)<;>try simp only [go_sem,seval])
 clear hf;refine B9 (fun k:Nat=>[(1,.mid 0),(5,.lst (E3.map DV.str)),(6,I64 E3.length),(7,I64 k)]) (fun k=>Sym.nil.upd 0 ⟨0,true,[.mpc .s ((E3.take k).map DV.str) ((E3.take k).map fun _=>DV.bool true)]⟩) (fun k _=>k<=E3.length) (fun k=>E3.length-k) 0 (by simp [C1,tm,Tm.upd]) (Sub.refl _) (by simp) ?_;rintro k c hk;have hlen:E3.length=38:=rfl;by_cases hlt:k<E3.length
 ·have hd:decide ((k:Int)<E3.length)=true:=by simpa using hlt
  have hg:=A0C hlt;have hw:IntKind.i64.wrap ((k:Int)+1)=((k+1:Nat):Int):=by rw [w64 (by omega) (by omega)];omega
  have hn:(E3.take k).contains E3[k]=false:=by
   have:=B6v k (by omega)
   rwa [A1C,hg,A3Q] at this
  have hm:=A7a hn 0;have e1:E3.take (k+1)=E3.take k++[E3[k]]:=by rw [A0X,hg];rfl
  repeat' ((with_reducible apply wr)<;>try simp only [go_sem,seval,hd,hg,hw,hm])
  refine ⟨k+1,rfl,?_,inv hlt,by omega⟩;rw [e1,A0W,A0W];intro j b hj;by_cases e:j=0
  ·subst e;rw [A0] at hj ⊢;exact hj
  ·rw [A2 e] at hj;cases hj
 ·have hd:decide ((k:Int)<E3.length)=false:=by simpa using hlt
  repeat' ((with_reducible apply wr)<;>try simp only [go_sem,seval,hd])
  rw [A0J (by omega)];exact C0i A0
abbrev A4e:DV:=.mp .s (E3.map DV.str) (E3.map fun _=>DV.bool true)
theorem C9z (w:List UInt8):lkV (.bool false) false (E3.map fun _=>DV.bool true) (E4 (.str w) (E3.map DV.str) 0)=some (.bool (G7 w)):=by
 cases h:G7 w with
 | false=>rw [A7a h 0];rfl
 | true =>
  obtain ⟨j,hj⟩:=B4g h 0;have hlt:=(A7b hj).2;rw [A0D] at hlt;rw [hj,C1d,A2F,A0C (by omega)];rfl
theorem c_IsWord (s:List UInt8):PC Tryz.prog 147 [.str s] (.bool (G7 s)):=by
 refine PC.of A9 isU147 (A0B rfl) (by simp [DV.nlL,DV.nl]) (by simp [DV.nlL,DV.nl]) ?_;show IW Tryz.prog 6 u147_1 ⟨B7 _,_,_⟩ (rt [.tmp 2] _);have hw:=c_words;have hlk:=C9z s;repeat' ((with_reducible first|apply wr|refine cpc hw ?_|fail)<;>try simp only [go_sem,seval,hlk])
 exact A6 rfl
theorem c_IsName (s:List UInt8) (hs:s.length<=1000000000):PC Tryz.prog 121 [.str s] (.bool (D7 s)):=by
 refine PC.of A9 isU121 (A0B rfl) (by simp [DV.nlL,DV.nl]) (by simp [DV.nlL,DV.nl]) ?_;show IW Tryz.prog 28 u121_1 ⟨B7 _,_,_⟩ (rt [.tmp 2] _);have hw:=c_IsWord s;have hsp:=c_spanPt s (by omega);cases s with
 | nil =>
  repeat' ((with_reducible apply wr)<;>try simp only [go_sem,seval])
  exact A6 rfl
 | cons c r =>
  have hx:B2h (DV.str (c :: r)) (.int .i64 0)=some (.int .u8 (c.toNat:Int)):=rfl;have hlt:=c_letter c;have hd1:decide (((r.length+1:Nat):Int)≥1)=true:=by simp;omega
  repeat' ((with_reducible first|refine wr ?_|refine cpc hw ?_|refine cpc hsp ?_|refine cpc hlt ?_|refine wb2 ?_ ?_<;>(intro hb;try simp only [hb])|fail)<;>try simp only [go_sem,seval,hx,hd1])
  all_goals (refine A6 (congrArg DV.bool ?_);simp_all [D7]<;>omega)
end Go.Proofs.YtnmkkggfgdfmeaaGreatDoor
set_option linter.unusedSectionVars false
namespace Go.Pb
variable [Go.Sym.Tab]
open Go.Sym
def okN (kind:Int) (text:List UInt8) (value:Int) (i n:Nat):DV:=.tup [.agg [I64 kind,.str text,I64 value,I64 i],I64 ((i+n:Nat):Int),I64 0]
def S7 (e:Int) (i:Nat):DV:=.tup [.agg [I64 0,.str [],I64 0,I64 0],I64 i,I64 e]
def nxR (x:Nx) (i:Nat):DV:=if x.err=0 then okN x.kind x.text x.value i x.n else S7 x.err i
theorem B4b (x:Nx) (i:Nat):(nxR x i).nl=true:=by unfold nxR;split<;>rfl
theorem A6x {k:Int} {t:List UInt8} {v:Int} {n i:Nat}:nxR ⟨k,t,v,n,0⟩ i=okN k t v i n:=if_pos rfl
theorem A3e {e:Int} {i:Nat} (h:e≠0):nxR (nxE e) i=S7 e i:=if_neg h
def B0u (s:List UInt8):Bool:=decide (2147483647<O4 s)
def smV (s:List UInt8):Nat:=if 2147483647<O4 s then 0 else O4 s
theorem B9j (s:List UInt8):smV s<=2147483647:=by unfold smV;split<;>omega
theorem B9k {s:List UInt8} (h:¬ 2147483647<O4 s):smV s=O4 s:=if_neg h
theorem C6n {s:List UInt8} (h:2147483647<O4 s):smV s=0:=if_pos h
theorem A6s {p:UInt8->Bool} {s:List UInt8} {i j:Nat} {c:UInt8} (h:s[i+j]? = some c) (hj:j<=D0 p (s.drop i)):(p c=true->j+1<=D0 p (s.drop i))/\(p c=false->D0 p (s.drop i)=j) :=
 A5x (by rw [A1L];exact h) hj
theorem A3y {p:UInt8->Bool} {s:List UInt8} {i j:Nat} (h:s.length<=i+j) (hj:j<=D0 p (s.drop i)):D0 p (s.drop i)=j :=
 B1j (by rw [A1D];omega) hj
theorem B1l {s:List UInt8} {i n:Nat} (h:i+n<=s.length):slsR s (some (.int .i64 (i:Int))) (some (.int .i64 ((i+n:Nat):Int)))=some (.str ((s.drop i).take n)):=by
 have b1:∀ k:Nat,boundOf s.length (some (.int .i64 (k:Int)))=some k:=fun k=>by simp [boundOf]
 have b2:∀ k:Nat,boundOf 0 (some (.int .i64 (k:Int)))=some k:=fun k=>by simp [boundOf]
 simp only [slsR,b1,b2];rw [if_pos ⟨h,by omega⟩,show i+n-i=n by omega]
theorem B7l (x:Nx) (i:Nat):∃ (k:Int) (t:List UInt8) (v p n e:Int),nxR x i=.tup [.agg [I64 k,.str t,I64 v,I64 p],I64 n,I64 e]:=by
 unfold nxR;split
 ·exact ⟨_,_,_,_,_,_,rfl⟩
 ·exact ⟨_,_,_,_,_,_,rfl⟩
def C2y:Blk:=⟨0,true,[I64 0,.str [],I64 0,I64 0]⟩
def quR (i:Nat):Option (List UInt8 × Nat)->DV
 | none=>S7 48 i
 | some x=>if 32<x.1.length then S7 9 i else .tup [.agg [I64 4,.str x.1,I64 0,I64 i],I64 (x.2:Int),I64 0]
theorem C9h (i:Nat) (q:Option (List UInt8 × Nat)):(quR i q).nl=true:=by
 cases q with
 | none=>rfl
 | some x=>simp only [quR];split<;>rfl
theorem C0b {s:List UInt8} {i:Nat} {c:UInt8} (h:s[i]? = some c) (h1:ltB c=false) (h2:dgB c=false) (h3:c.toNat=34):quR i (quA [] (i+1) (quM (s.drop (i+1))))=nxR (B6 (s.drop i)) i:=by
 rw [L0 h,B6,if_neg (by rw [h1];simp),if_neg (by rw [h2];simp),if_pos h3];cases hq:quM (s.drop (i+1)) with
 | none=>rfl
 | some x =>
  simp only [quA,A3D,List.nil_append,quR];split
  ·rw [A3e (by decide)]
  ·rw [A6x,okN];have:x.2+(i+1)=i+(x.2+1):=by omega
   rw [this]
theorem A5t {X:Hp} {o:Option Nat} {c:Nat} {b b2 b3 b3':Blk} (hX:∀ j q,X j=some q->j<c) (ho:∀ i,o=some i->X i=none) (h:b3=b3') :
  Sub (C0 X (some (c+1)) b3) ((H9 ((C0 X o b).upd c b2) o).upd (c+1) b3'):=by
 subst h;intro j q hj;simp only [C0] at hj;by_cases e:j=c+1
 ·subst e;rw [A0] at hj ⊢;exact hj
 ·rw [A2 e] at hj ⊢;have h1:=hX j q hj;have h2:∀ i,o=some i->¬ j=i:=fun i hi e2=>by rw [e2,ho i hi] at hj;cases hj
  rw [E9 h2,A2 (by omega),C7 h2];exact hj
theorem A5r {b:Blk} {c j:Nat} {q:Blk} (hc:1<=c) (h:(Sym.nil.upd 0 b) j=some q):j<c:=by
 by_cases e:j=0
 ·omega
 ·rw [A2 e] at h;cases h
theorem A5q {b:Blk} {i:Nat} (h:¬ i=0):(Sym.nil.upd 0 b) i=none:=by rw [A2 h];rfl
def O6:List (List UInt8):=[[60,61],[62,61],[61,61],[33,61],[38,38],[124,124],[123],[125],[40],[41],[59],[44],[61],[43],[45],[42],[47],[37],[33],[60],[62]]
theorem B9p:∀ k:Nat,k<6->∃ a b,O6.getD k []=[a,b]/\A9n a b=true:=by
 intro k hk;have:∀ k:Nat,k<6->(match O6.getD k [] with | [a,b]=>A9n a b|_=>false)=true:=by decide
 have:=this k hk;split at this
 ·rename_i a b e;exact ⟨a,b,e,this⟩
 ·cases this
theorem B9q:∀ k:Nat,6<=k->k<21->∃ a,O6.getD k []=[a]/\B2b a=true:=by
 intro k h6 hk;have:∀ k:Nat,k<21->6<=k->(match O6.getD k [] with | [a]=>B2b a|_=>false)=true:=by decide
 have:=this k hk h6;split at this
 ·rename_i a e;exact ⟨a,e,this⟩
 ·cases this
theorem B8t {c d:UInt8} (h:A9n c d=true):∃ k,k<6/\O6.getD k []=[c,d]:=by
 rw [C3j] at h;simp only [A1A,A1I] at h;rcases h with ((((h|h)|h)|h)|h)|h
 ·exact ⟨0,by omega,h.symm⟩
 ·exact ⟨1,by omega,h.symm⟩
 ·exact ⟨2,by omega,h.symm⟩
 ·exact ⟨3,by omega,h.symm⟩
 ·exact ⟨4,by omega,h.symm⟩
 ·exact ⟨5,by omega,h.symm⟩
theorem C9i {c:UInt8} (h:B2b c=true):∃ k,6<=k/\k<21/\O6.getD k []=[c]:=by
 have key:∀ n:Nat,n<256->B2b (UInt8.ofNat n)=true->∃ k,k<21/\6<=k/\O6.getD k []=[UInt8.ofNat n]:=by decide +kernel
 obtain ⟨k,h1,h2,h3⟩:=key c.toNat c.toNat_lt (by rw [UInt8.ofNat_toNat];exact h);rw [UInt8.ofNat_toNat] at h3;exact ⟨k,h2,h1,h3⟩
def A4j (l s:List UInt8):Bool:=decide (l.length<=s.length) && (s.take l.length == l)
theorem B7d {s:List UInt8} {k:Nat} (hk:k<21) (hno:∀ j,j<k->A4j (O6.getD j []) s=false) (h:A4j (O6.getD k []) s=true):J7 s=(O6.getD k []).length/\(O6.getD k [])=s.take (O6.getD k []).length:=by
 simp only [A4j,A0G,A0L,A1I] at h;refine ⟨?_,h.2.symm⟩;by_cases h6:k<6
 ·obtain ⟨a,b,e,ht⟩:=B9p k h6;rw [e] at h ⊢
  match s,h with
  | [],h=>simp at h
  | [x],h=>simp at h
  | x :: y :: r,h =>
   simp at h;obtain ⟨rfl,rfl⟩:=h;simp [J7,ht]
 ·obtain ⟨a,e,ho⟩:=B9q k (by omega) hk;rw [e] at h ⊢
  match s,h with
  | [],h=>simp at h
  | [x],h =>
   simp at h;subst h;simp [J7,ho]
  | x :: y :: r,h =>
   simp at h;subst h;have h2:A9n x y=false:=by
    cases ht:A9n x y with
    | false=>rfl
    | true =>
     obtain ⟨j,hj,e2⟩:=B8t ht;have:=hno j (by omega);rw [e2] at this;simp [A4j] at this
   simp [J7,h2,ho]
theorem B9o {s:List UInt8} (hno:∀ j,j<21->A4j (O6.getD j []) s=false):J7 s=0:=by
 have h1:∀ x r,s=x :: r->B2b x=false:=by
  intro x r e;cases ho:B2b x with
  | false=>rfl
  | true =>
   obtain ⟨j, -,hj,e2⟩:=C9i ho;have:=hno j hj;rw [e2,e] at this;simp [A4j] at this
 match s,hno,h1 with
 | [],_,_=>rfl
 | [x],_,h1=>simp [J7,h1 x [] rfl]
 | x :: y :: r,hno,h1 =>
  have h2:A9n x y=false:=by
   cases ht:A9n x y with
   | false=>rfl
   | true =>
    obtain ⟨j,hj,e2⟩:=B8t ht;have:=hno j (by omega);rw [e2] at this;simp [A4j] at this
  simp [J7,h2,h1 x _ rfl]
end Go.Pb
namespace Go.Proofs.YtnmkkggfgdfmeaaGreatDoor
open Go.Eng (IC IOper DReg IFn A7)
open Go.Sym Go.Pb
theorem c_wordsR:PC Tryz.prog 154 [] (.lst (E3.map DV.str)):=by
 refine PC.of A9 isU154 (A0B rfl) rfl (N0 _) ?_;show IW Tryz.prog 2 u154_1 ⟨B7 _,_,_⟩ (rt [.tmp 0] _);repeat' ((with_reducible apply wr)<;>try simp only [go_sem,seval])
 exact L6 (xs:=E3.map DV.str) (u:=1) A0 rfl rfl (I4 _) ⟨[],rfl⟩
theorem c_signsR:PC Tryz.prog 113 [] (.lst (O6.map DV.str)):=by
 refine PC.of A9 isU113 (A0B rfl) rfl (N0 _) ?_;show IW Tryz.prog 2 u113_1 ⟨B7 _,_,_⟩ (rt [.tmp 0] _);repeat' ((with_reducible apply wr)<;>try simp only [go_sem,seval])
 exact L6 (xs:=O6.map DV.str) (u:=1) A0 rfl rfl (I4 _) ⟨[],rfl⟩
theorem c_IsWordR (s:List UInt8):PC Tryz.prog 140 [.str s] (.bool (G7 s)):=by
 refine PC.of A9 isU140 (A0B rfl) (by simp [DV.nlL,DV.nl]) (by simp [DV.nlL,DV.nl]) ?_;show IW Tryz.prog 18 u140_1 ⟨B7 _,_,_⟩ (rt [.tmp 2] _);have hw:=c_wordsR;repeat' ((with_reducible first|apply wr|refine cpc hw ?_|fail)<;>try simp only [go_sem,seval])
 refine B9 (fun k:Nat=>[(0,.str s),(3,.lst (E3.map DV.str)),(4,I64 k)]) (fun _=>nil) (fun k _=>k<=E3.length/\(E3.take k).contains s=false) (fun k=>E3.length-k) 0 (by simp [C1,tm,Tm.upd]) (Sub.nil _) (by simp) ?_;rintro k c ⟨hk,he⟩;have hlen:E3.length=38:=rfl;by_cases hlt:k<E3.length
 ·have hd:decide ((k:Int)<E3.length)=true:=by simpa using hlt
  have hg:=A0C hlt;have hw:IntKind.i64.wrap ((k:Int)+1)=((k+1:Nat):Int):=by rw [w64 (by omega) (by omega)];omega
  repeat' ((with_reducible first|refine wr ?_|refine wb2 ?_ ?_<;>(intro hb;try simp only [hb])|fail)<;>try simp only [go_sem,seval,hd,hg,hw])
  ·refine A6 (congrArg DV.bool ?_);have:s=E3[k]:=(A1I.1 hb).symm;unfold G7;rw [A2K.2 (by rw [this];exact A0M hlt)]
  ·refine ⟨k+1,rfl,Sub.refl _,inv ⟨hlt,?_⟩,by omega⟩;rw [A0X,hg,List.contains_append,he];have:¬ s=E3[k]:=fun e=>by rw [e] at hb;simp at hb
   simpa using this
 ·have hd:decide ((k:Int)<E3.length)=false:=by simpa using hlt
  repeat' ((with_reducible apply wr)<;>try simp only [go_sem,seval,hd])
  refine A6 (congrArg DV.bool ?_);rw [A0J (by omega)] at he;exact he.symm
theorem c_skipR (s:List UInt8) (hs:s.length<=1000000000) (i:Nat) (hi:i<=s.length):PC Tryz.prog 70 [.str s,I64 i] (I64 ((i+skM false (s.drop i):Nat):Int)):=by
 refine PC.of A9 isU70 (A0B rfl) (by simp [DV.nlL,DV.nl]) (by simp [DV.nlL,DV.nl]) ?_;show IW Tryz.prog 45 u70_1 ⟨B7 _,_,_⟩ (rt [.tmp 4] _);repeat' ((with_reducible apply wr)<;>try simp only [go_sem,seval])
 refine B9 (fun k:Nat=>[(0,.str s),(1,I64 k)]) (fun _=>nil) (fun k _=>k<=s.length/\i+skM false (s.drop i)=k+skM false (s.drop k)) (fun k=>s.length-k) i (by simp [C1,tm,Tm.upd]) (Sub.nil _) ⟨hi,rfl⟩ ?_;rintro k c ⟨hk,he⟩;by_cases hlt:k<s.length
 ·have hd:decide ((k:Int)<s.length)=true:=by simpa using hlt
  have hg:=A0C hlt;have hw:=w64 (n:=(k:Int)+1) (by omega) (by omega);have hsep:A5e s[k]=true->∃ b,DV.int IntKind.i64 ((k:Int)+1)=I64 ((b:Nat):Int)/\Sym.Sub Sym.nil Sym.nil/\B3c (fun k _=>k<=s.length/\i+skM false (s.drop i)=k+skM false (s.drop k)) b c/\s.length-b<s.length-k :=
   fun h=>⟨k+1,rfl,Sub.refl _,inv ⟨by omega,by rw [he,C8i hg h];omega⟩,by omega⟩
  repeat' ((with_reducible first|refine wr ?_|refine wb2 ?_ ?_<;>(intro hb;try simp only [hb])|fail)<;>try simp only [go_sem,seval,hd,hg,hw])
  ·have h35:=A8d (b:=35) hb;have h1:=C3x hg h35;have h2:=C8k hg h35;refine B9 (fun j:Nat=>[(0,.str s),(1,I64 ((k+j:Nat):Int))]) (fun _=>nil) (fun j _=>k+j<=s.length/\j<=D0 (fun c=>decide (c.toNat≠10)) (s.drop k)) (fun j=>s.length-(k+j)) 0 (by simp [C1,tm,Tm.upd]) (Sub.nil _) (by simp;omega) ?_;rintro j c ⟨hkj,hej⟩;have hend:D0 (fun c=>decide (c.toNat≠10)) (s.drop k)=j->∃ b,I64 ((k+j:Nat):Int)=I64 ((b:Nat):Int)/\Sym.Sub Sym.nil Sym.nil/\B3c (fun k _=>k<=s.length/\i+skM false (s.drop i)=k+skM false (s.drop k)) b c/\s.length-b<s.length-k:=by
    intro e;rw [e] at h1 h2;exact ⟨k+j,rfl,Sub.refl _,inv ⟨hkj,by rw [he,h2];omega⟩,by omega⟩
   by_cases hlt2:k+j<s.length
   ·have hd2:decide (((k+j:Nat):Int)<s.length)=true:=by simp;omega
    have hg2:=A0C hlt2;have hw2:IntKind.i64.wrap (((k+j:Nat):Int)+1)=((k+(j+1):Nat):Int):=by rw [w64 (by omega) (by omega)];omega
    have hst:=A6s hg2 hej;repeat' ((with_reducible first|refine wr ?_|refine wb2 ?_ ?_<;>(intro hb;try simp only [hb])|fail)<;>try simp only [go_sem,seval,hd2,hg2,hw2])
    ·exact ⟨j+1,rfl,Sub.refl _,inv ⟨hlt2,hst.1 (by simpa using C6f (b:=10) hb)⟩,by omega⟩
    ·exact hend (hst.2 (by simpa using D1d (b:=10) hb))
   ·have hd2:decide (((k+j:Nat):Int)<s.length)=false:=by simp;omega
    repeat' ((with_reducible apply wr)<;>try simp only [go_sem,seval,hd2])
    exact hend (A3y (by omega) hej)
  ·exact hsep (by simp [A5e,A8d (b:=9) hb])
  ·exact hsep (by simp [A5e,A8d (b:=10) hb])
  ·exact hsep (by simp [A5e,A8d (b:=13) hb])
  ·exact hsep (by simp [A5e,A8d (b:=32) hb])
  ·refine A6 ?_;have h9:=A3r (a:=s[k].toNat) (b:=9) (by assumption);have h10:=A3r (a:=s[k].toNat) (b:=10) (by assumption);have h13:=A3r (a:=s[k].toNat) (b:=13) (by assumption);have h32:=A3r (a:=s[k].toNat) (b:=32) (by assumption);have h35:=A3r (a:=s[k].toNat) (b:=35) (by assumption);rw [he,C3w hg (by simp [A5e,h9,h10,h13,h32]) h35];simp
 ·have hd:decide ((k:Int)<s.length)=false:=by simpa using hlt
  repeat' ((with_reducible apply wr)<;>try simp only [go_sem,seval,hd])
  refine A6 ?_;rw [he,C8j (by omega)];simp
theorem c_wordR (s:List UInt8) (hs:s.length<=1000000000) (i:Nat) (hi:i<s.length) (hl:ltB s[i]=true):PC Tryz.prog 109 [.str s,I64 i] (nxR (B6 (s.drop i)) i):=by
 have hM:B6 (s.drop i)=if 12<D0 ptB (s.drop i) then nxE 9 else ⟨if G7 ((s.drop i).take (D0 ptB (s.drop i)))=true then 2 else 1,(s.drop i).take (D0 ptB (s.drop i)),0,D0 ptB (s.drop i),0⟩:=by
  rw [L0 (A0C hi),B6,if_pos hl]
 rw [hM];have hle:=T5 ptB (s.drop i);rw [A1D] at hle;refine PC.of A9 isU109 (A0B rfl) rfl (B4b _ _) ?_;show IW Tryz.prog 52 u109_1 ⟨B7 _,_,_⟩ (rt [.cell 4 4 true,.tmp 5,.tmp 6] _);repeat' ((with_reducible apply wr)<;>try simp only [go_sem,seval])
 refine B9 (fun j:Nat=>[(0,.str s),(1,I64 i),(4,.ptr 0 0),(7,I64 ((i+j:Nat):Int))]) (fun _=>Sym.nil.upd 0 ⟨0,true,[I64 0,.str [],I64 0,I64 0]⟩) (fun j cc=>1<=cc/\i+j<=s.length/\j<=D0 ptB (s.drop i)) (fun j=>s.length-(i+j)) 0 (by simp [C1,tm,Tm.upd]) (Sub.refl _) (by simp;omega) ?_;rintro j c ⟨h1c,hk,he⟩;have hw2:IntKind.i64.wrap (((i+j:Nat):Int)-i)=(j:Int):=by rw [w64 (by omega) (by omega)];omega
 have hsx:=B1l hk;have hiw:=c_IsWordR ((s.drop i).take j);have hR9:D0 ptB (s.drop i)=j->12<j->S7 9 i=nxR (if 12<D0 ptB (s.drop i) then nxE 9 else ⟨if G7 ((s.drop i).take (D0 ptB (s.drop i)))=true then 2 else 1,(s.drop i).take (D0 ptB (s.drop i)),0,D0 ptB (s.drop i),0⟩) i:=by
  intro e h;rw [e,if_pos h,A3e (by decide)]
 have hRw:D0 ptB (s.drop i)=j->¬ 12<j->G7 ((s.drop i).take j)=true->okN 2 ((s.drop i).take j) 0 i j=nxR (if 12<D0 ptB (s.drop i) then nxE 9 else ⟨if G7 ((s.drop i).take (D0 ptB (s.drop i)))=true then 2 else 1,(s.drop i).take (D0 ptB (s.drop i)),0,D0 ptB (s.drop i),0⟩) i:=by
  intro e h h2;rw [e,if_neg h,A6x,if_pos h2]
 have hRn:D0 ptB (s.drop i)=j->¬ 12<j->G7 ((s.drop i).take j)=false->okN 1 ((s.drop i).take j) 0 i j=nxR (if 12<D0 ptB (s.drop i) then nxE 9 else ⟨if G7 ((s.drop i).take (D0 ptB (s.drop i)))=true then 2 else 1,(s.drop i).take (D0 ptB (s.drop i)),0,D0 ptB (s.drop i),0⟩) i:=by
  intro e h h2;rw [e,if_neg h,A6x,if_neg (by rw [h2];simp)]
 by_cases hlt:i+j<s.length
 ·have hd:decide (((i+j:Nat):Int)<s.length)=true:=by simp;omega
  have hg:=A0C hlt;have hw:IntKind.i64.wrap (((i+j:Nat):Int)+1)=((i+(j+1):Nat):Int):=by rw [w64 (by omega) (by omega)];omega
  have h1:=c_letterR s[i+j];have h2:=c_digitR s[i+j];have hst:=A6s hg he;have hlp:ptB s[i+j]=true->∃ b,DV.int IntKind.i64 ((i+(j+1):Nat):Int)=I64 ((i+b:Nat):Int)/\Sym.Sub (Sym.nil.upd 0 ⟨0,true,[I64 0,.str [],I64 0,I64 0]⟩) (Sym.nil.upd 0 ⟨0,true,[I64 0,.str [],I64 0,I64 0]⟩) /\
    B3c (fun j cc=>1<=cc/\i+j<=s.length/\j<=D0 ptB (s.drop i)) b c/\s.length-(i+b)<s.length-(i+j) :=
   fun h=>⟨j+1,rfl,Sub.refl _,inv ⟨h1c,hlt,hst.1 h⟩,by omega⟩
  have ne0:=L2 c 0 (by omega);repeat' ((with_reducible first|refine wr ?_|refine cpc h1 ?_|refine cpc h2 ?_|refine cpc hiw ?_|refine wb2 ?_ ?_<;>(intro hb;try simp only [hb])|fail)<;>try simp only [go_sem,seval,hd,hg,hw,hw2,hsx,ne0])
  ·exact hlp (by simp [ptB,hb])
  ·exact hlp (by simp [ptB,hb])
  ·exact hlp (by simp [ptB,A8d (b:=95) hb])
  ·have hj:=hst.2 (by simp only [ptB];rw [‹ltB s[i+j]=false›, ‹dgB s[i+j]=false›];simpa using A3r (a:=s[i+j].toNat) (b:=95) (by assumption));rw [E7 (v:=S7 9 i) rfl];exact A6 (hR9 hj (B7x hb))
  ·have hj:=hst.2 (by simp only [ptB];rw [‹ltB s[i+j]=false›, ‹dgB s[i+j]=false›];simpa using A3r (a:=s[i+j].toNat) (b:=95) (by assumption));rw [E7 (v:=okN 2 ((s.drop i).take j) 0 i j) rfl];exact A6 (hRw hj (A8a (a:=j) (b:=12) (by assumption)) hb)
  ·have hj:=hst.2 (by simp only [ptB];rw [‹ltB s[i+j]=false›, ‹dgB s[i+j]=false›];simpa using A3r (a:=s[i+j].toNat) (b:=95) (by assumption));rw [E7 (v:=okN 1 ((s.drop i).take j) 0 i j) rfl];exact A6 (hRn hj (A8a (a:=j) (b:=12) (by assumption)) hb)
 ·have hd:decide (((i+j:Nat):Int)<s.length)=false:=by simp;omega
  have hj:=A3y (p:=ptB) (s:=s) (by omega) he;have ne0:=L2 c 0 (by omega);repeat' ((with_reducible first|refine wr ?_|refine cpc hiw ?_|refine wb2 ?_ ?_<;>(intro hb;try simp only [hb])|fail)<;>try simp only [go_sem,seval,hd,hw2,hsx,ne0])
  ·rw [E7 (v:=S7 9 i) rfl];exact A6 (hR9 hj (B7x hb))
  ·rw [E7 (v:=okN 2 ((s.drop i).take j) 0 i j) rfl];exact A6 (hRw hj (A8a (a:=j) (b:=12) (by assumption)) hb)
  ·rw [E7 (v:=okN 1 ((s.drop i).take j) 0 i j) rfl];exact A6 (hRn hj (A8a (a:=j) (b:=12) (by assumption)) hb)
theorem c_numberR (s:List UInt8) (hs:s.length<=1000000000) (i:Nat) (hi:i<s.length) (hl:ltB s[i]=false) (hg0:dgB s[i]=true):PC Tryz.prog 111 [.str s,I64 i] (nxR (B6 (s.drop i)) i):=by
 have hM:B6 (s.drop i)=if 1<D0 dgB (s.drop i)/\s[i].toNat=48 then nxE 47
   else if 2147483647<O4 ((s.drop i).take (D0 dgB (s.drop i))) then nxE 5
   else ⟨3,[],(O4 ((s.drop i).take (D0 dgB (s.drop i))):Int),D0 dgB (s.drop i),0⟩:=by
  have hdr:=L0 (A0C hi);have:∀ r,s.drop i=s[i] :: r->B6 (s.drop i)=if 1<D0 dgB (s.drop i)/\s[i].toNat=48 then nxE 47
   else if 2147483647<O4 ((s.drop i).take (D0 dgB (s.drop i))) then nxE 5
   else ⟨3,[],(O4 ((s.drop i).take (D0 dgB (s.drop i))):Int),D0 dgB (s.drop i),0⟩:=by
   intro r e;rw [e,B6,if_neg (by rw [hl];simp),if_pos hg0]
  exact this _ hdr
 have hle:=T5 dgB (s.drop i);rw [A1D] at hle;obtain ⟨D,hD⟩:∃ D,D=s.drop i:=⟨_,rfl⟩;refine PC.of A9 isU111 (A0B rfl) rfl (B4b _ _) ?_;show IW Tryz.prog 58 u111_1 ⟨B7 _,_,_⟩ (rt [.cell 4 4 true,.tmp 5,.tmp 6] _);repeat' ((with_reducible apply wr)<;>try simp only [go_sem,seval])
 refine B9 (fun j:Nat=>[(0,.str s),(1,I64 i),(4,.ptr 0 0),(7,I64 ((i+j:Nat):Int)),(8,I64 (smV (D.take j))),(9,.bool (B0u (D.take j)))]) (fun _=>Sym.nil.upd 0 ⟨0,true,[I64 0,.str [],I64 0,I64 0]⟩) (fun j _=>i+j<=s.length/\j<=D0 dgB (s.drop i)) (fun j=>s.length-(i+j)) 0 (by simp [C1,tm,Tm.upd,smV,B0u,O4]) (Sub.refl _) (by simp;omega) ?_;rintro j c ⟨hk,he⟩;have hw2:IntKind.i64.wrap (((i+j:Nat):Int)-i)=(j:Int):=by rw [w64 (by omega) (by omega)];omega
 have hgi:=A0C hi;have hRz:D0 dgB (s.drop i)=j->1<j->s[i].toNat=48->S7 47 i=nxR (B6 (s.drop i)) i:=by
  intro e h h2;rw [hM,e,if_pos ⟨h,h2⟩,A3e (by decide)]
 have hRb:D0 dgB (s.drop i)=j->¬ (1<j/\s[i].toNat=48)->B0u (D.take j)=true->S7 5 i=nxR (B6 (s.drop i)) i:=by
  intro e h h2;rw [hM,e,if_neg h, <- hD,if_pos (of_decide_eq_true h2),A3e (by decide)]
 have hRk:D0 dgB (s.drop i)=j->¬ (1<j/\s[i].toNat=48)->B0u (D.take j)=false->okN 3 [] (smV (D.take j)) i j=nxR (B6 (s.drop i)) i:=by
  intro e h h2;have h3:=of_decide_eq_false h2;rw [hM,e,if_neg h, <- hD,if_neg h3,A6x,B9k h3]
 by_cases hlt:i+j<s.length
 ·have hd:decide (((i+j:Nat):Int)<s.length)=true:=by simp;omega
  have hg:=A0C hlt;have hw:IntKind.i64.wrap (((i+j:Nat):Int)+1)=((i+(j+1):Nat):Int):=by rw [w64 (by omega) (by omega)];omega
  have h2:=c_digitR s[i+j];have hst:=A6s hg he;by_cases hdg:dgB s[i+j]=true
  ·rw [hdg] at h2;have hgD:D[j]? = some s[i+j]:=by rw [hD,A1L];exact hg
   have hn:=B7m hgD;have hdd:48<=s[i+j].toNat/\s[i+j].toNat<=57:=by simpa [dgB] using hdg
   obtain ⟨z,hz⟩:∃ z:Nat,z=s[i+j].toNat-48:=⟨_,rfl⟩;rw [<- hz] at hn;have w1:IntKind.i64.wrap (10 * (smV (D.take j):Int))=((10 * smV (D.take j):Nat):Int):=by have:=B9j (D.take j);rw [w64 (by omega) (by omega)];omega
   have w2:IntKind.u8.wrap ((s[i+j].toNat:Int)-48)=(z:Int):=by rw [wu8 (by omega) (by omega)];omega
   have w3:IntKind.i64.wrap (z:Int)=(z:Int):=w64 (by omega) (by omega);have w4:IntKind.i64.wrap (((10 * smV (D.take j):Nat):Int)+z)=((10 * smV (D.take j)+z:Nat):Int):=by have:=B9j (D.take j);rw [w64 (by omega) (by omega)];omega
   by_cases hbg:2147483647<O4 (D.take j)
   ·have hb1:B0u (D.take j)=true:=decide_eq_true hbg;have e1:B0u (D.take (j+1))=true:=decide_eq_true (by omega);have e2:smV (D.take (j+1))=0:=C6n (by omega);rw [hb1];repeat' ((with_reducible first|apply wr|refine cpc h2 ?_|fail)<;>try simp only [go_sem,seval,hd,hg,hw,w1,w2,w3,w4])
    exact ⟨j+1,⟨rfl,by rw [e2];rfl,by rw [e1]⟩,Sub.refl _,inv ⟨hlt,hst.1 hdg⟩,by omega⟩
   ·have hb1:B0u (D.take j)=false:=decide_eq_false hbg;have hs1:=B9k hbg;rw [hb1];by_cases hbn:2147483647<O4 (D.take (j+1))
    ·have e1:B0u (D.take (j+1))=true:=decide_eq_true hbn;have e2:smV (D.take (j+1))=0:=C6n hbn;have hd5:decide (((10 * smV (D.take j)+z:Nat):Int)>2147483647)=true:=by simp only [A0L];omega
     repeat' ((with_reducible first|apply wr|refine cpc h2 ?_|fail)<;>try simp only [go_sem,seval,hd,hg,hw,w1,w2,w3,w4,hd5])
     exact ⟨j+1,⟨rfl,by rw [e2];rfl,by rw [e1]⟩,Sub.refl _,inv ⟨hlt,hst.1 hdg⟩,by omega⟩
    ·have e1:B0u (D.take (j+1))=false:=decide_eq_false hbn;have e2:smV (D.take (j+1))=10 * smV (D.take j)+z:=by rw [B9k hbn,hn,hs1]
     have hd5:decide (((10 * smV (D.take j)+z:Nat):Int)>2147483647)=false:=by simp only [A1S];omega
     repeat' ((with_reducible first|apply wr|refine cpc h2 ?_|fail)<;>try simp only [go_sem,seval,hd,hg,hw,w1,w2,w3,w4,hd5])
     exact ⟨j+1,⟨rfl,by rw [e2],by rw [e1]⟩,Sub.refl _,inv ⟨hlt,hst.1 hdg⟩,by omega⟩
  ·have hdg0:dgB s[i+j]=false:=by simpa using hdg
   rw [hdg0] at h2;have hj:=hst.2 hdg0;repeat' ((with_reducible first|refine wr ?_|refine cpc h2 ?_|refine wb2 ?_ ?_<;>(intro hb;try simp only [hb])|fail)<;>try simp only [go_sem,seval,hd,hg,hw2,hgi])
   ·rw [E7 (v:=S7 47 i) rfl];exact A6 (hRz hj (B7x hb) (A8d (b:=48) (by assumption)))
   ·rw [E7 (v:=S7 5 i) rfl];exact A6 (hRb hj (fun h=>A8a (a:=j) (b:=1) (by assumption) h.1) hb)
   ·rw [E7 (v:=okN 3 [] (smV (D.take j)) i j) rfl];exact A6 (hRk hj (fun h=>A8a (a:=j) (b:=1) (by assumption) h.1) hb)
   ·rw [E7 (v:=S7 5 i) rfl];exact A6 (hRb hj (fun h=>A3r (b:=48) (by assumption) h.2) hb)
   ·rw [E7 (v:=okN 3 [] (smV (D.take j)) i j) rfl];exact A6 (hRk hj (fun h=>A3r (b:=48) (by assumption) h.2) hb)
 ·have hd:decide (((i+j:Nat):Int)<s.length)=false:=by simp;omega
  have hj:=A3y (p:=dgB) (s:=s) (by omega) he;repeat' ((with_reducible first|refine wr ?_|refine wb2 ?_ ?_<;>(intro hb;try simp only [hb])|fail)<;>try simp only [go_sem,seval,hd,hw2,hgi])
  ·rw [E7 (v:=S7 47 i) rfl];exact A6 (hRz hj (B7x hb) (A8d (b:=48) (by assumption)))
  ·rw [E7 (v:=S7 5 i) rfl];exact A6 (hRb hj (fun h=>A8a (a:=j) (b:=1) (by assumption) h.1) hb)
  ·rw [E7 (v:=okN 3 [] (smV (D.take j)) i j) rfl];exact A6 (hRk hj (fun h=>A8a (a:=j) (b:=1) (by assumption) h.1) hb)
  ·rw [E7 (v:=S7 5 i) rfl];exact A6 (hRb hj (fun h=>A3r (b:=48) (by assumption) h.2) hb)
  ·rw [E7 (v:=okN 3 [] (smV (D.take j)) i j) rfl];exact A6 (hRk hj (fun h=>A3r (b:=48) (by assumption) h.2) hb)
theorem c_quotedR (s:List UInt8) (hs:s.length<=100000) (i:Nat) (hi:i<s.length):PC Tryz.prog 112 [.str s,I64 i] (quR i (quA [] (i+1) (quM (s.drop (i+1))))):=by
 refine PC.of A9 isU112 (A0B rfl) rfl (C9h _ _) ?_;show IW Tryz.prog 76 u112_1 ⟨B7 _,_,_⟩ (rt [.cell 4 4 true,.tmp 5,.tmp 6] _);have hw0:IntKind.i64.wrap ((i:Int)+1)=((i+1:Nat):Int):=by rw [w64 (by omega) (by omega)];omega
 repeat' ((with_reducible apply wr)<;>try simp only [go_sem,seval,hw0])
 refine B9 (fun q:Nat × Option Nat × List UInt8=>[(0,.str s),(1,I64 i),(4,.ptr 0 0),(7,B3 q.2.1 q.2.2.length),(8,I64 q.1)]) (fun q=>C0 (Sym.nil.upd 0 C2y) q.2.1 ⟨1,true,bytesC q.2.2⟩)
  (fun q c=>1<=c/\i+1<=q.1/\q.2.2.length<=q.1/\q.1<=s.length+1/\(q.2.1=none->q.2.2=[])/\(∀ i,q.2.1=some i->1<=i/\i<c)/\quA [] (i+1) (quM (s.drop (i+1)))=quA q.2.2 q.1 (quM (s.drop q.1))) (fun q=>s.length+1-q.1) (i+1,none,[])
  (by simp [C1,tm,Tm.upd,B3]) (Sub.refl _) ⟨by simp,by simp,by simp,by simp only;omega,fun _=>rfl,(fun i hi=>by cases hi),rfl⟩ ?_
 rintro ⟨k,o,acc⟩ c ⟨h1c,h1,hal,hk,hno,ho,he⟩;simp only at h1 hal hk hno ho he;simp only;rw [he];have hH0:C0 (Sym.nil.upd 0 C2y) o ⟨1,true,bytesC acc⟩ 0=some ⟨0,true,[I64 0,.str [],I64 0,I64 0]⟩:=by rw [C7 (fun i hi=>by have:=ho i hi;omega),A0];rfl
 have hlt0:=A4f (o:=o) (n:=acc.length) (fun e=>by rw [hno e];rfl);by_cases hlt:k<s.length
 ·have hd:decide ((k:Int)<s.length)=true:=by simpa using hlt
  have hg:=A0C hlt;have hw:IntKind.i64.wrap ((k:Int)+1)=((k+1:Nat):Int):=by rw [w64 (by omega) (by omega)];omega
  have hw2:IntKind.i64.wrap (((k+1:Nat):Int)+1)=((k+2:Nat):Int):=by rw [w64 (by omega) (by omega)];omega
  have hcv:=B9z (H:=C0 (Sym.nil.upd 0 C2y) o ⟨1,true,bytesC acc⟩) (u:=1) hno (fun i hi=>by subst hi;exact A0);have hc0:∀ n:Nat,((s[k].toNat:Int) == (n:Int))=true->s[k].toNat=n:=fun n h=>by have:=A1I.1 h;omega
  have hc1:∀ n:Nat,((s[k].toNat:Int) == (n:Int))=false->s[k].toNat≠n:=fun n h h2=>by rw [h2] at h;simp at h
  by_cases hlt2:k+1<s.length
  ·have hd2:decide (((k+1:Nat):Int)≥s.length)=false:=by simp;omega
   have hg2:=A0C hlt2;have hc2:∀ n:Nat,((s[k+1].toNat:Int) == (n:Int))=true->s[k+1].toNat=n:=fun n h=>by have:=A1I.1 h;omega
   have hc3:∀ n:Nat,((s[k+1].toNat:Int) == (n:Int))=false->s[k+1].toNat≠n:=fun n h h2=>by rw [h2] at h;simp at h
   have ne0:=T8 c (c+1) 0 (by omega);have hap:=B1u (X:=Sym.nil.upd 0 C2y) hno (fun i hi=>(ho i hi).2) (by omega);repeat' ((with_reducible first|refine wr ?_|refine wb2 ?_ ?_<;>(intro hb;try simp only [hb])|fail)<;>try simp only [go_sem,seval,hd,hg,hw,hcv,hlt0,hd2,hg2,hw2,ne0,hap,hH0])
   ·rw [E7 (v:=S7 9 i) rfl];refine A6 ?_;rw [A3b hg (hc0 34 (by assumption)),quR,if_pos (B7x hb)]
   ·rw [E7 (v:=.tup [.agg [I64 4,.str acc,I64 0,I64 i],I64 ((k+1:Nat):Int),I64 0]) rfl];refine A6 ?_;rw [A3b hg (hc0 34 (by assumption)),quR,if_neg (A8a hb)]
   ·rw [E7 (v:=S7 48 i) rfl];refine A6 ?_;rw [A9x hg (hc1 34 (by assumption)) (.inl (by have:=of_decide_eq_true hb;omega))];rfl
   ·rw [E7 (v:=S7 48 i) rfl];refine A6 ?_;rw [A9x hg (hc1 34 (by assumption)) (.inr (by have:=of_decide_eq_true hb;omega))];rfl
   ·rw [E7 (v:=S7 48 i) rfl];refine A6 ?_;rw [B5p hg (hc0 92 (by assumption)) (fun d hd=>by
     rw [hg2] at hd;cases hd;exact ⟨C6f (b:=34) (by assumption),C6f (b:=92) hb⟩)];rfl
   ·have hq:=C0a (acc:=acc) hg (hc0 92 (by assumption)) hg2 (.inr (D1d (b:=92) hb));exact ⟨(k+2,some (c+1),acc++[s[k+1]]),⟨by simp only [A0A,A0H];rfl,rfl⟩,A5t (fun j q=>A5r h1c) (fun i hi=>A5q (by have:=ho i hi;omega)) rfl,inv ⟨by omega,by simp only;omega,by simp;omega,by simp only;omega,(fun h=>by cases h),(fun i hi=>by cases hi;omega),hq⟩,by simp only;omega⟩
   ·have hq:=C0a (acc:=acc) hg (hc0 92 (by assumption)) hg2 (.inl (D1d (b:=34) hb));exact ⟨(k+2,some (c+1),acc++[s[k+1]]),⟨by simp only [A0A,A0H];rfl,rfl⟩,A5t (fun j q=>A5r h1c) (fun i hi=>A5q (by have:=ho i hi;omega)) rfl,inv ⟨by omega,by simp only;omega,by simp;omega,by simp only;omega,(fun h=>by cases h),(fun i hi=>by cases hi;omega),hq⟩,by simp only;omega⟩
   ·have hq:=B5q (acc:=acc) hg (hc1 34 (by assumption)) (by have:=of_decide_eq_false (by assumption:decide (((s[k].toNat:Int))<32)=false);omega) (by have:=of_decide_eq_false (by assumption:decide (((s[k].toNat:Int))>126)=false);omega) (hc1 92 (by assumption));exact ⟨(k+1,some (c+1),acc++[s[k]]),⟨by simp only [A0A,A0H];rfl,rfl⟩,A5t (fun j q=>A5r h1c) (fun i hi=>A5q (by have:=ho i hi;omega)) rfl,inv ⟨by omega,by simp only;omega,by simp;omega,by simp only;omega,(fun h=>by cases h),(fun i hi=>by cases hi;omega),hq⟩,by simp only;omega⟩
  ·have hd2:decide (((k+1:Nat):Int)≥s.length)=true:=by simp;omega
   have ne0:=T8 c (c+1) 0 (by omega);have hap:=B1u (X:=Sym.nil.upd 0 C2y) hno (fun i hi=>(ho i hi).2) (by omega);repeat' ((with_reducible first|refine wr ?_|refine wb2 ?_ ?_<;>(intro hb;try simp only [hb])|fail)<;>try simp only [go_sem,seval,hd,hg,hw,hcv,hlt0,hd2,ne0,hap,hH0])
   ·rw [E7 (v:=S7 9 i) rfl];refine A6 ?_;rw [A3b hg (hc0 34 (by assumption)),quR,if_pos (B7x hb)]
   ·rw [E7 (v:=.tup [.agg [I64 4,.str acc,I64 0,I64 i],I64 ((k+1:Nat):Int),I64 0]) rfl];refine A6 ?_;rw [A3b hg (hc0 34 (by assumption)),quR,if_neg (A8a hb)]
   ·rw [E7 (v:=S7 48 i) rfl];refine A6 ?_;rw [A9x hg (hc1 34 (by assumption)) (.inl (by have:=of_decide_eq_true hb;omega))];rfl
   ·rw [E7 (v:=S7 48 i) rfl];refine A6 ?_;rw [A9x hg (hc1 34 (by assumption)) (.inr (by have:=of_decide_eq_true hb;omega))];rfl
   ·rw [E7 (v:=S7 48 i) rfl];refine A6 ?_;rw [B5p hg (hc0 92 (by assumption)) (fun d hd=>by rw [A2J (by omega)] at hd;cases hd)];rfl
   ·have hq:=B5q (acc:=acc) hg (hc1 34 (by assumption)) (by have:=of_decide_eq_false (by assumption:decide (((s[k].toNat:Int))<32)=false);omega) (by have:=of_decide_eq_false (by assumption:decide (((s[k].toNat:Int))>126)=false);omega) (hc1 92 (by assumption));exact ⟨(k+1,some (c+1),acc++[s[k]]),⟨by simp only [A0A,A0H];rfl,rfl⟩,A5t (fun j q=>A5r h1c) (fun i hi=>A5q (by have:=ho i hi;omega)) rfl,inv ⟨by omega,by simp only;omega,by simp;omega,by simp only;omega,(fun h=>by cases h),(fun i hi=>by cases hi;omega),hq⟩,by simp only;omega⟩
 ·have hd:decide ((k:Int)<s.length)=false:=by simpa using hlt
  have ne0:=L2 c 0 (by omega);repeat' ((with_reducible apply wr)<;>try simp only [go_sem,seval,hd,ne0,hH0])
  rw [E7 (v:=S7 48 i) rfl];refine A6 ?_;rw [C9g (by omega)];rfl
theorem c_oneR (s:List UInt8) (hs:s.length<=100000) (i:Nat) (hi:i<s.length):PC Tryz.prog 71 [.str s,I64 i] (nxR (B6 (s.drop i)) i):=by
 refine PC.of A9 isU71 (A0B rfl) rfl (B4b _ _) ?_;show IW Tryz.prog 83 u71_1 ⟨B7 _,_,_⟩ (rt [.cell 4 4 true,.tmp 5,.tmp 6] _);have hg:=A0C hi;have hlt:=c_letterR s[i];have hdg:=c_digitR s[i];obtain ⟨k,t,v,p,n,e,hsh⟩:=B7l (B6 (s.drop i)) i;by_cases hl:ltB s[i]=true
 ·have hw:=c_wordR s (by omega) i hi hl;rw [hsh] at hw ⊢;repeat' ((with_reducible first|apply wr|refine cpc hlt ?_|refine cpc hw ?_|fail)<;>try simp only [go_sem,seval,hl,hg])
  rw [E7 (v:=.tup [.agg [I64 k,.str t,I64 v,I64 p],I64 n,I64 e]) rfl];exact A6 rfl
 have hl0:ltB s[i]=false:=by simpa using hl
 by_cases hd:dgB s[i]=true
 ·have hw:=c_numberR s (by omega) i hi hl0 hd;rw [hsh] at hw ⊢;repeat' ((with_reducible first|apply wr|refine cpc hlt ?_|refine cpc hdg ?_|refine cpc hw ?_|fail)<;>try simp only [go_sem,seval,hl0,hd,hg])
  rw [E7 (v:=.tup [.agg [I64 k,.str t,I64 v,I64 p],I64 n,I64 e]) rfl];exact A6 rfl
 have hd0:dgB s[i]=false:=by simpa using hd
 by_cases hq:s[i].toNat=34
 ·have hw:=c_quotedR s hs i hi;rw [C0b hg hl0 hd0 hq,hsh] at hw;rw [hsh];have hb34:((s[i].toNat:Int) == 34)=true:=by rw [hq];rfl
  repeat' ((with_reducible first|apply wr|refine cpc hlt ?_|refine cpc hdg ?_|refine cpc hw ?_|fail)<;>try simp only [go_sem,seval,hl0,hd0,hg,hb34])
  rw [E7 (v:=.tup [.agg [I64 k,.str t,I64 v,I64 p],I64 n,I64 e]) rfl];exact A6 rfl
 clear hsh;have hb34:((s[i].toNat:Int) == 34)=false:=by simpa using (fun h=>hq (by omega))
 have hM:B6 (s.drop i)=if J7 (s.drop i)=0 then nxE 47 else ⟨5,(s.drop i).take (J7 (s.drop i)),0,J7 (s.drop i),0⟩:=by
  have hdr:=L0 hg;have:∀ r,s.drop i=s[i] :: r->B6 (s.drop i)=if J7 (s.drop i)=0 then nxE 47 else ⟨5,(s.drop i).take (J7 (s.drop i)),0,J7 (s.drop i),0⟩:=by
   intro r e;rw [e,B6,if_neg hl,if_neg hd,if_neg hq]
  exact this _ hdr
 rw [hM];have hsg:=c_signsR;repeat' ((with_reducible first|apply wr|refine cpc hlt ?_|refine cpc hdg ?_|refine cpc hsg ?_|fail)<;>try simp only [go_sem,seval,hl0,hd0,hg,hb34])
 have hlen:O6.length=21:=rfl;refine B9 (fun k:Nat=>[(0,.str s),(1,I64 i),(4,.ptr 0 0),(8,.lst (O6.map DV.str)),(9,I64 k)]) (fun _=>Sym.nil.upd 0 ⟨0,true,[I64 0,.str [],I64 0,I64 0]⟩) (fun k _=>k<=O6.length/\∀ j,j<k->A4j (O6.getD j []) (s.drop i)=false) (fun k=>O6.length-k) 0 (by simp [C1,tm,Tm.upd]) (Sub.refl _) (by simp) ?_;rintro k c ⟨hk,he⟩;by_cases hkl:k<O6.length
 ·have hd:decide ((k:Int)<O6.length)=true:=by simpa using hkl
  have hgk:=A0C hkl;have hget:O6.getD k []=O6[k]:=by rw [A1C,hgk];rfl
  have hw:IntKind.i64.wrap ((k:Int)+1)=((k+1:Nat):Int):=by rw [w64 (by omega) (by omega)];omega
  obtain ⟨L,hL⟩:∃ L,L=O6[k]:=⟨_,rfl⟩;rw [<- hL] at hgk hget;have hLl:1<=L.length/\L.length<=2:=by
   have:∀ x∈O6,1<=x.length/\x.length<=2:=by decide
   rw [hL];exact this _ (A0M hkl)
  have hw1:IntKind.i64.wrap ((s.length:Int)-i)=((s.length-i:Nat):Int):=by rw [w64 (by omega) (by omega)];omega
  have hw2:IntKind.i64.wrap ((i:Int)+L.length)=((i+L.length:Nat):Int):=by rw [w64 (by omega) (by omega)];omega
  have hnext:A4j L (s.drop i)=false->B3c (fun k _=>k<=O6.length/\∀ j,j<k->A4j (O6.getD j []) (s.drop i)=false) (k+1) c:=fun h=>inv ⟨hkl,fun j hj=>by
   by_cases e:j=k
   ·rw [e,hget];exact h
   ·exact he j (by omega)⟩
  by_cases hln:L.length<=s.length-i
  ·have hd2:decide (((s.length-i:Nat):Int)≥L.length)=true:=by simp only [A0L];omega
   have hsx:=B1l (s:=s) (i:=i) (n:=L.length) (by omega);have hpr:A4j L (s.drop i)=((s.drop i).take L.length == L):=by
    unfold A4j;rw [decide_eq_true (by rw [A1D];exact hln),A1P]
   repeat' ((with_reducible first|refine wr ?_|refine wb2 ?_ ?_<;>(intro hb;try simp only [hb])|fail)<;>try simp only [go_sem,seval,hd,hgk,hw,hw1,hw2,hd2,hsx])
   ·have hp:=hpr.trans hb;have:=B7d (s:=s.drop i) (k:=k) (by omega) he (by rw [hget];exact hp);rw [hget] at this;rw [E7 (v:=okN 5 L 0 i L.length) rfl];refine A6 ?_;rw [this.1,if_neg (by omega),A6x, <- this.2]
   ·exact ⟨k+1,rfl,Sub.refl _,hnext (hpr.trans hb),by omega⟩
  ·have hd2:decide (((s.length-i:Nat):Int)≥L.length)=false:=by simp only [A1S];omega
   repeat' ((with_reducible apply wr)<;>try simp only [go_sem,seval,hd,hgk,hw,hw1,hd2])
   exact ⟨k+1,rfl,Sub.refl _,hnext (by unfold A4j;rw [decide_eq_false (by rw [A1D];exact hln),Bool.false_and]),by omega⟩
 ·have hd:decide ((k:Int)<O6.length)=false:=by simpa using hkl
  repeat' ((with_reducible apply wr)<;>try simp only [go_sem,seval,hd])
  rw [E7 (v:=S7 47 i) rfl];refine A6 ?_;rw [if_pos (B9o fun j hj=>he j (by omega)),A3e (by decide)]
theorem c_ScanR (s:List UInt8) (hs:s.length<=1000000000):PC Tryz.prog 36 [.str s] (B9u (F4 s)):=by
 refine PC.of A9 isU36 (A0B rfl) rfl (B9t _) ?_;show IW Tryz.prog 39 u36_1 ⟨B7 _,_,_⟩ (rt [.tmp 2,.tmp 3,.tmp 4] _);have hsk:=c_skipR s hs 0 (by omega);rw [A2U,A1N] at hsk;by_cases h20:20000<s.length
 ·have hd0:decide ((s.length:Int)>20000)=true:=by simp;omega
  have hM:F4 s=([],0,9):=if_pos h20;rw [hM];repeat' ((with_reducible apply wr)<;>try simp only [go_sem,seval,hd0])
  exact B1o
 have hd0:decide ((s.length:Int)>20000)=false:=by simp;omega
 have hM:F4 s=M4 (s.length+1) s (skM false s) []:=if_neg h20;rw [hM];have hle0:=U4 false s;repeat' ((with_reducible first|apply wr|refine cpc hsk ?_|fail)<;>try simp only [go_sem,seval,hd0])
 refine B9 (fun q:Nat × Nat × Option Nat × List Tok=>[(0,.str s),(5,B3 q.2.2.1 q.2.2.2.length),(6,I64 q.2.1)]) (fun q=>C0 Sym.nil q.2.2.1 ⟨4,true,A4 (q.2.2.2.map Tok.v)⟩)
  (fun q c=>q.2.1<=s.length/\s.length<q.1+q.2.1/\q.2.2.2.length<=q.2.1/\(q.2.2.1=none->q.2.2.2=[])/\(∀ i,q.2.2.1=some i->i<c)/\M4 (s.length+1) s (skM false s) []=M4 q.1 s q.2.1 q.2.2.2) (fun q=>q.1) (s.length+1,skM false s,none,[])
  (by simp [C1,tm,Tm.upd,B3]) (Sub.nil _) ⟨by simp only;omega,by simp only;omega,by simp,fun _=>rfl,(fun i hi=>by cases hi),rfl⟩ ?_
 rintro ⟨f,at_,o,acc⟩ c ⟨h1,hf,hal,hno,ho,he⟩;simp only at h1 hf hal hno ho he;simp only;rw [he];by_cases hlt:at_<s.length
 ·have hd:decide ((at_:Int)<s.length)=true:=by simpa using hlt
  have hnx:=c_oneR s (by omega) at_ hlt;obtain ⟨f,rfl⟩:∃ g,f=g+1:=⟨f-1,by omega⟩;by_cases hz:(B6 (s.drop at_)).err=0
  ·have hn:=A6a hz;rw [A1D] at hn;have hst:M4 (f+1) s at_ acc=M4 f s (at_+(B6 (s.drop at_)).n+skM false (s.drop (at_+(B6 (s.drop at_)).n))) (acc++[⟨(B6 (s.drop at_)).kind,(B6 (s.drop at_)).text,(B6 (s.drop at_)).value,(at_:Int)⟩]):=by
    rw [M4,if_neg (by omega),if_neg (by simpa using hz)]
   rw [hst];obtain ⟨x,hx⟩:∃ x,x=B6 (s.drop at_):=⟨_,rfl⟩;rw [<- hx] at hnx hz hn ⊢;rw [nxR,if_pos hz,okN] at hnx;have hsk2:=c_skipR s hs (at_+x.n) (by omega);have hkl:=U4 false (s.drop (at_+x.n));rw [A1D] at hkl;obtain ⟨z,hzz⟩:∃ z,z=skM false (s.drop (at_+x.n)):=⟨_,rfl⟩;rw [<- hzz] at hsk2 hkl ⊢;have ne0:=T8 c (c+1) (c+2) (by omega);repeat' ((with_reducible first|apply wr|refine cpc hnx ?_|refine cpc hsk2 ?_|fail)<;>try simp only [go_sem,seval,hd,ne0])
   refine F3 (F0 (cs:=A4 (acc.map Tok.v)) (fun e=>by rw [hno e];exact ⟨rfl,rfl⟩) (fun i hi=>?_) (by rw [C2 (u:=4) (D8 _)];simp) (by omega) (by omega) (by omega)) ?_
   ·have:=ho i hi;rw [A2 (by omega),A2 (by omega),A2 (by omega)];exact A0p hi
   simp only [go_sem,seval,ne0];repeat' ((with_reducible first|apply wr|refine cpc hnx ?_|refine cpc hsk2 ?_|fail)<;>try simp only [go_sem,seval,hd,ne0])
   exact ⟨(f,at_+x.n+z,some (c+1+1),acc++[⟨x.kind,x.text,x.value,(at_:Int)⟩]),⟨by simp only [A0A,A0H];rfl,rfl⟩,
    R4 (by simp only [A0W,C5];rfl),inv ⟨by simp only;omega,by simp only;omega,by simp only [A0A,A0H];omega,(fun h=>by cases h),(fun i hi=>by cases hi;omega),rfl⟩,by simp only;omega⟩
  ·have hst:M4 (f+1) s at_ acc=([],(at_:Int),(B6 (s.drop at_)).err):=by
    rw [M4,if_neg (by omega),if_pos hz]
   rw [hst];obtain ⟨x,hx⟩:∃ x,x=B6 (s.drop at_):=⟨_,rfl⟩;rw [<- hx] at hnx hz ⊢;rw [nxR,if_neg hz,S7] at hnx;have hz':(x.err != 0)=true:=by simpa using hz
   have ne0:=L2 c (c+1) (by omega);repeat' ((with_reducible first|apply wr|refine cpc hnx ?_|fail)<;>try simp only [go_sem,seval,hd,hz',ne0])
   exact B1o
 ·have hd:decide ((at_:Int)<s.length)=false:=by simpa using hlt
  repeat' ((with_reducible apply wr)<;>try simp only [go_sem,seval,hd])
  have hM2:M4 f s at_ acc=(acc,0,0):=by
   cases f with
   | zero=>rfl
   | succ f=>rw [M4,if_pos (by omega)]
  rw [hM2];exact C0f (fun e=>by rw [hno e];rfl) (by simp) (D8 acc)
theorem c_IsNameR (s:List UInt8) (hs:s.length<=1000000000):PC Tryz.prog 152 [.str s] (.bool (D7 s)):=by
 refine PC.of A9 isU152 (A0B rfl) (by simp [DV.nlL,DV.nl]) (by simp [DV.nlL,DV.nl]) ?_;show IW Tryz.prog 46 u152_1 ⟨B7 _,_,_⟩ (rt [.tmp 2] _);have hw:=c_IsWordR s;cases s with
 | nil =>
  repeat' ((with_reducible apply wr)<;>try simp only [go_sem,seval])
  exact A6 rfl
 | cons c r =>
  have hx:B2h (DV.str (c :: r)) (.int .i64 0)=some (.int .u8 (c.toNat:Int)):=rfl;have hlt:=c_letterR c;have hd1:decide (((r.length+1:Nat):Int)<1)=false:=by simp;omega
  have hN:D7 (c :: r)=(decide ((r.length+1)<=12) && ltB c && decide (D0 ptB (c :: r)=r.length+1) && !G7 (c :: r)):=by
   simp [D7]
  rw [hN];have hN2:∀ b:Bool,decide (((r.length+1:Nat):Int)>12)=b->decide ((r.length+1)<=12) = !b:=by
   intro b hb;subst hb;rw [A1W];simp;omega
  obtain ⟨dd,hdd⟩:∃ dd,dd=decide ((r.length+1)<=12):=⟨_,rfl⟩;rw [<- hdd] at hN2 ⊢;obtain ⟨ee,hee⟩:∃ ee,ee=decide (D0 ptB (c :: r)=r.length+1):=⟨_,rfl⟩;rw [<- hee];obtain ⟨ff,hff⟩:∃ ff,ff=G7 (c :: r):=⟨_,rfl⟩;rw [<- hff] at hw ⊢;repeat' ((with_reducible first|refine wr ?_|refine cpc hw ?_|refine cpc hlt ?_|refine wb2 ?_ ?_<;>(intro hb;try simp only [hb])|fail)<;>try simp only [go_sem,seval,hx,hd1])
  ·refine A6 (congrArg DV.bool ?_);rw [hN2 _ hb];rfl
  ·refine A6 (congrArg DV.bool ?_);have:ltB c=false:=by simpa using hb
   rw [this];simp
  ·refine A6 (congrArg DV.bool ?_);simp
  ·have hN3:=hN2 _ (by assumption);have hl:ltB c=true:=by simpa using (by assumption:(!ltB c)=false)
   rw [hN3,hl];refine B9 (fun k:Nat=>[(0,.str (c :: r)),(3,I64 k)]) (fun _=>nil) (fun k _=>k<=(c :: r).length/\k<=D0 ptB (c :: r)) (fun k=>(c :: r).length-k) 0 (by simp [C1,tm,Tm.upd]) (Sub.nil _) (by simp) ?_;rintro k cc ⟨hk,he⟩;have hsl:=T5 ptB (c :: r);have hS:(c :: r).length=r.length+1:=rfl;by_cases hlt2:k<(c :: r).length
   ·have hd:decide ((k:Int)<((r.length+1:Nat):Int))=true:=by simp only [A0L];omega
    have hg:=A0C hlt2;have hw:IntKind.i64.wrap ((k:Int)+1)=((k+1:Nat):Int):=by rw [w64 (by omega) (by omega)];omega
    have hst:=A5x hg he;obtain ⟨x,hxx⟩:∃ x,x=(c :: r)[k]:=⟨_,rfl⟩;rw [<- hxx] at hg hst;have h1:=c_letterR x;have h2:=c_digitR x;obtain ⟨L,hL⟩:∃ L,L=c :: r:=⟨_,rfl⟩;have hd3:decide ((k:Int)<(L.length:Int))=true:=by rw [hL];exact hd
    rw [<- hL] at hg hst hk he hsl hee ⊢;by_cases hp:ptB x=true
    ·have hgo:∃ b,DV.int IntKind.i64 ((k+1:Nat):Int)=I64 ((b:Nat):Int)/\Sym.Sub Sym.nil Sym.nil/\B3c (fun k _=>k<=L.length/\k<=D0 ptB L) b cc/\L.length-b<L.length-k :=
      ⟨k+1,rfl,Sub.refl _,inv ⟨by rw [hL];exact hlt2,hst.1 hp⟩,by rw [hL];omega⟩
     simp only [ptB,A1A,A0L] at hp;repeat' ((with_reducible first|refine wr ?_|refine cpc h1 ?_|refine cpc h2 ?_|refine wb2 ?_ ?_<;>(intro hb;try simp only [hb])|fail)<;>try simp only [go_sem,seval,hd3,hg,hw])
     ·exfalso;have p1:ltB x=false:=by simpa using (by assumption:(!ltB x)=true)
      have p2:dgB x=false:=by simpa using (by assumption:(!dgB x)=true)
      have p3:=C6f (b:=95) hb;rw [p1,p2] at hp;rcases hp with (hp|hp)|hp
      ·cases hp
      ·cases hp
      ·exact p3 hp
     ·exact hgo
     ·exact hgo
     ·exact hgo
    ·have hp':ptB x=false:=by simpa using hp
     have hj:=hst.2 hp';simp only [ptB,Bool.or_eq_false_iff,A1S] at hp';obtain ⟨⟨q1,q2⟩,q3⟩:=hp';have q4:((x.toNat:Int) != 95)=true:=by simp;omega
     repeat' ((with_reducible first|apply wr|refine cpc h1 ?_|refine cpc h2 ?_|fail)<;>try simp only [go_sem,seval,hd3,hg,hw,q1,q2,q4])
     refine A6 (congrArg DV.bool ?_);rw [hee,hj,decide_eq_false];have:L.length=r.length+1:=by rw [hL];rfl
     have:k<L.length:=by rw [hL];exact hlt2
     omega
   ·have hd:decide ((k:Int)<((r.length+1:Nat):Int))=false:=by simp only [A1S];omega
    repeat' ((with_reducible apply wr)<;>try simp only [go_sem,seval,hd])
    refine A6 (congrArg DV.bool ?_);rw [hee,decide_eq_true (by omega)]
end Go.Proofs.YtnmkkggfgdfmeaaGreatDoor
namespace Go.Pb
variable [Go.Sym.Tab]
open Go.Sym
def T0:Tok:=⟨0,[],0,0⟩
theorem C7f {g:Bool} {a b d a' b' d':Int} {s t:List UInt8}:B8c g [0,2,0,0] (.agg [I64 a,.str s,I64 b,I64 d]) (.agg [I64 a',.str t,I64 b',I64 d'])=some (.bool (g != (a == a' && (s == t && (b == b' && d == d'))))):=by
 simp only [B8c,P6,A4u,if_true];cases h1:a == a'<;>cases h2:s == t<;>cases h3:b == b'<;>cases h4:d == d'<;>simp
theorem A8n:∀ (f:Nat) (s:List UInt8) (k:Nat) (acc:List Tok),acc.length<=k->k<=s.length->(M4 f s k acc).1.length<=s.length
 | 0,s,k,acc,h1,h2=>by simp only [M4];omega
 | f+1,s,k,acc,h1,h2=>by
  rw [M4];split
  ·simp only;omega
  ·split
   ·simp
   ·rename_i h3 h4;have h4:(B6 (s.drop k)).err=0:=by simpa using h4
    have hn:=A6a h4;rw [A1D] at hn;have hk:=U4 false (s.drop (k+(B6 (s.drop k)).n));rw [A1D] at hk;exact A8n f s _ _ (by rw [A0A,A0H];omega) (by omega)
theorem B7e (s:List UInt8):(F4 s).1.length<=s.length:=by
 unfold F4;split
 ·simp
 ·have:=U4 false s;exact A8n _ _ _ _ (by simp) this
end Go.Pb
namespace Go.Pb
variable [Go.Sym.Tab]
open Go.Sym
def A1v (t:Tok):List UInt8:=if t.kind=1\/t.kind=2\/t.kind=5 then t.text else if t.kind=3 then Q5 t.value else if t.kind=4 then A6v t.text else []
def nxT (x:Nx) (p:Int):Tok:=⟨x.kind,x.text,x.value,p⟩
theorem C0p (s:List UInt8) (c:UInt8):O4 (s++[c])=10 * O4 s+(c.toNat-48):=by
 unfold O4;rw [A3E];rfl
theorem C2o {c:UInt8} (h:dgB c=true):Y3 (c.toNat-48)=c:=by
 simp only [dgB,A0G,A0L] at h;rw [<- UInt8.toNat_inj];unfold Y3;simp;omega
theorem C5z:∀ (m:Nat) (d:List UInt8),d.length=m->d≠[]->(∀ c∈d,dgB c=true)->(1<d.length->∀ c,d.head? = some c->c.toNat≠48)->A7p (O4 d)=d:=by
 intro m
 induction m with
 | zero=>intro d h h0;exact absurd (A1R h) h0
 | succ m ih =>
  intro d h h0 hd h1;obtain ⟨e,c,rfl⟩:∃ e c,d=e++[c]:=⟨d.dropLast,d.getLast h0,(List.dropLast_concat_getLast h0).symm⟩;have hc:=hd c (by simp);have hb:=C2o hc;simp only [dgB,A0G,A0L] at hc;rw [C0p];cases e with
  | nil =>
   show A7p (10 * 0+(c.toNat-48))=[c];rw [A3p (by omega),show 10 * 0+(c.toNat-48)=c.toNat-48 by omega,hb]
  | cons x e =>
   have hx:=hd x (by simp);simp only [dgB,A0G,A0L] at hx;have hx48:x.toNat≠48:=h1 (by simp) x rfl;have hpos:1<=O4 (x :: e):=by
    have h2:O4 (x :: e)=C9m (10 * 0+(x.toNat-48)) e:=rfl;have:=B5v e (10 * 0+(x.toNat-48));rw [h2];omega
   rw [A6h (by omega),show (10 * O4 (x :: e)+(c.toNat-48)) / 10=O4 (x :: e) by omega,show (10 * O4 (x :: e)+(c.toNat-48)) % 10=c.toNat-48 by omega,hb];rw [ih (x :: e) (by simp at h ⊢;omega) (by simp) (fun y hy=>hd y (A3W _ hy)) (fun _ y hy=>by cases hy;exact hx48)]
theorem A9y:∀ {s t:List UInt8} {n:Nat},quM s=some (t,n)->t.flatMap quB++[34]=s.take n
 | [],t,n,h=>by simp [quM] at h
 | c :: q,t,n,h=>by
  have h8:∀ x:UInt8,x.toNat=34->x=34:=fun x hx=>by rw [<- UInt8.toNat_inj,hx];rfl
  have h9:∀ x:UInt8,x.toNat=92->x=92:=fun x hx=>by rw [<- UInt8.toNat_inj,hx];rfl
  rw [S0] at h;by_cases h1:c.toNat=34
  ·rw [if_pos h1] at h;cases h;rw [h8 c h1];rfl
  ·rw [if_neg h1] at h;by_cases h2:c.toNat<32\/126<c.toNat
   ·rw [if_pos h2] at h;cases h
   ·rw [if_neg h2] at h;by_cases h3:c.toNat=92
    ·rw [if_pos h3] at h;cases q with
     | nil=>cases h
     | cons d q =>
      simp only at h;by_cases h4:d.toNat=34\/d.toNat=92
      ·rw [if_pos h4] at h;obtain ⟨⟨t',n'⟩,g1,g2⟩:=A0Q.1 h;have ih:=A9y g1;cases g2;rw [A0U,A0U,A1V,quB,if_pos h4,h9 c h3];simp only [List.cons_append,List.nil_append];rw [ih]
      ·rw [if_neg h4] at h;cases h
    ·rw [if_neg h3] at h;obtain ⟨⟨t',n'⟩,g1,g2⟩:=A0Q.1 h;have ih:=A9y g1;cases g2;rw [A0U,A1V,quB,if_neg (by omega)];simp only [List.cons_append,List.nil_append];rw [ih]
theorem C0l {s:List UInt8} (h:(B6 s).err=0) (p:Int):A1v (nxT (B6 s) p)=s.take (B6 s).n:=by
 cases s with
 | nil=>simp [B6,nxE] at h
 | cons c q =>
  by_cases hl:ltB c=true
  ·by_cases h12:12<D0 ptB (c :: q)
   ·rw [B6,if_pos hl,if_pos h12] at h;simp [nxE] at h
   ·rw [B6,if_pos hl,if_neg h12,nxT,A1v];simp only;rw [if_pos (by split<;>simp)]
  ·by_cases hd:dgB c=true
   ·by_cases h1:1<D0 dgB (c :: q)/\c.toNat=48
    ·rw [B6,if_neg hl,if_pos hd,if_pos h1] at h;simp [nxE] at h
    ·by_cases h2:2147483647<O4 ((c :: q).take (D0 dgB (c :: q)))
     ·rw [B6,if_neg hl,if_pos hd,if_neg h1,if_pos h2] at h;simp [nxE] at h
     ·rw [B6,if_neg hl,if_pos hd,if_neg h1,if_neg h2,nxT,A1v];simp only;rw [if_neg (by omega),if_pos trivial,Q5,if_neg (by omega),Int.natAbs_natCast];have hle:=T5 dgB (c :: q);have hn1:1<=D0 dgB (c :: q):=by simp [D0,hd]
      refine C5z _ _ rfl (fun e=>?_) (B1k (c :: q)) (fun hlen x hx=>?_)
      ·have:=congrArg List.length e;rw [A0S,A0F] at this;omega
      ·rw [A0S] at hlen;obtain ⟨k,hk⟩:∃ k,D0 dgB (c :: q)=k+1:=⟨D0 dgB (c :: q)-1,by omega⟩;rw [hk,A0U] at hx;cases hx;exact fun e=>h1 ⟨by omega,e⟩
   ·by_cases h34:c.toNat=34
    ·cases hq:quM q with
     | none=>rw [B6,if_neg hl,if_neg hd,if_pos h34,hq] at h;simp [nxE] at h
     | some x =>
      obtain ⟨t,m⟩:=x;by_cases h32:32<t.length
      ·rw [B6,if_neg hl,if_neg hd,if_pos h34,hq] at h;simp only at h;rw [if_pos h32] at h;simp [nxE] at h
      ·rw [B6,if_neg hl,if_neg hd,if_pos h34,hq];simp only;rw [if_neg h32,nxT,A1v];simp only;rw [if_neg (by omega),if_neg (by omega),if_pos trivial,A6v,A4g,A0T,A9y hq,A0U];have:c=34:=by rw [<- UInt8.toNat_inj,h34];rfl
       rw [this];rfl
    ·by_cases hs:J7 (c :: q)=0
     ·rw [B6,if_neg hl,if_neg hd,if_neg h34,if_pos hs] at h;simp [nxE] at h
     ·rw [B6,if_neg hl,if_neg hd,if_neg h34,if_neg hs,nxT,A1v];exact if_pos (.inr (.inr rfl))
def A5d (s:List UInt8):Nat->List Tok->Prop
 | k,[]=>s.length<=k
 | k,t :: l=>k<s.length/\(B6 (s.drop k)).err=0/\t=nxT (B6 (s.drop k)) (k:Int)/\A5d s (k+(B6 (s.drop k)).n+skM false (s.drop (k+(B6 (s.drop k)).n))) l
theorem A4z:∀ (f:Nat) (s:List UInt8) (k:Nat) (acc:List Tok),s.length+1<=k+f->(M4 f s k acc).2.2=0->∃ l,(M4 f s k acc).1=acc++l/\A5d s k l
 | 0,s,k,acc,hf,h=>⟨[],by simp [M4],by show s.length<=k;omega⟩
 | f+1,s,k,acc,hf,h=>by
  rw [M4] at h ⊢;by_cases h1:s.length<=k
  ·rw [if_pos h1];exact ⟨[],by simp,h1⟩
  ·rw [if_neg h1] at h ⊢;by_cases h2:(B6 (s.drop k)).err=0
   ·rw [if_neg (by simpa using h2)] at h ⊢;have hn:=A6a h2;obtain ⟨l,e,hr⟩:=A4z f s _ _ (by omega) h;exact ⟨_ :: l,by rw [e,A0T];rfl,by omega,h2,rfl,hr⟩
   ·rw [if_pos h2] at h;exact absurd h h2
theorem A0o {s:List UInt8} (h:(F4 s).2.2=0):s.length<=20000/\A5d s (skM false s) (F4 s).1:=by
 unfold F4 at h ⊢;by_cases h1:20000<s.length
 ·rw [if_pos h1] at h;cases h
 ·rw [if_neg h1] at h ⊢;have:=U4 false s;obtain ⟨l,e,hr⟩:=A4z _ s _ [] (by omega) h;rw [e];exact ⟨by omega,hr⟩
def TOk (t:Tok):Prop:=∃ s p,(B6 s).err=0/\t=nxT (B6 s) p
theorem A5d.ok {s:List UInt8}:∀ {k:Nat} {l:List Tok},A5d s k l->∀ t∈l,TOk t
 | k,[],_,t,h=>by cases h
 | k,x :: l,h,t,ht=>by
  rcases A2L.1 ht with rfl|ht
  ·exact ⟨_,_,h.2.1,h.2.2.1⟩
  ·exact A5d.ok h.2.2.2 t ht
def A0l (l:List Tok):Nat:=(l.map fun t=>(A1v t).length).sum
theorem A5d.len {s:List UInt8}:∀ {k:Nat} {l:List Tok},A5d s k l->k<=s.length->k+l.length<=s.length/\k+A0l l<=s.length
 | k,[],h,hk=>⟨hk,hk⟩
 | k,x :: l,h,hk=>by
  obtain ⟨h1,h2,h3,h4⟩:=h;have hn:=A6a h2;rw [A1D] at hn;have hz:=U4 false (s.drop (k+(B6 (s.drop k)).n));rw [A1D] at hz;have ih:=h4.len (by omega);have ho:(A1v x).length=(B6 (s.drop k)).n:=by rw [h3,C0l h2,A0S,A1D];omega
  simp only [A0l,A0Z,A2Z,A0E] at ih ⊢;omega
def V2 (sp:Nat->List UInt8):Nat->List Tok->List UInt8
 | _,[]=>[]
 | i,t :: l=>sp i++A1v t++V2 sp (i+1) l
theorem B2k (sp:Nat->List UInt8) (t:Tok):∀ (l:List Tok) (i:Nat),V2 sp i (l++[t])=V2 sp i l++sp (i+l.length)++A1v t
 | [],i=>by simp [V2]
 | x :: l,i=>by
  simp only [List.cons_append,V2];rw [B2k sp t l (i+1),show i+1+l.length=i+(x :: l).length by simp;omega];simp only [A0T]
theorem B7y {sp:Nat->List UInt8} {l:List Tok} {k:Nat} {t:Tok} (h:l[k]? = some t):V2 sp 0 (l.take (k+1))=V2 sp 0 (l.take k)++sp k++A1v t:=by
 have hk:=(A0K.1 h).1;rw [A0X,h,Option.toList_some,B2k,A0S,show 0+min k l.length=k by omega]
theorem A7h {sp:Nat->List UInt8} {m:Nat} (h:∀ i,(sp i).length<=m):∀ (l:List Tok) (i:Nat),(V2 sp i l).length<=m * l.length+A0l l
 | [],i=>by simp [V2]
 | t :: l,i=>by
  have ih:=A7h h l (i+1);have hi:=h i;simp only [V2,A0A,A0l,A0Z,A2Z,A0E,Nat.mul_succ] at ih ⊢;omega
end Go.Pb
namespace Go.Pb
variable [Go.Sym.Tab]
open Go.Sym
def spB (i:Nat):List UInt8:=if i=0 then [] else [32]
def A2u (l:List Tok):List UInt8:=V2 spB 0 l
theorem B5h (i:Nat):(spB i).length<=1:=by unfold spB;split<;>simp
theorem B7h (s:List UInt8):(A6v s).length<=2 * s.length+2:=by
 have:=B1v s;unfold A6v;rw [A0A,A0H];omega
def Fit (t:Tok):Prop:=t.text.length<=100000/\I6 t.value
theorem B2a {t:Tok} (h:Fit t):(A1v t).length<=200024:=by
 have h1:=B7h t.text;have h2:=P5 h.2.1 h.2.2;have h3:=h.1;unfold A1v;split
 ·omega
 ·split
  ·omega
  ·split
   ·omega
   ·simp
theorem B5d:∀ {l:List Tok},(∀ t∈l,Fit t)->A0l l<=200024 * l.length
 | [],_=>by simp [A0l]
 | t :: l,h=>by
  have h1:=B2a (h t A0O);have h2:=B5d (l:=l) fun x hx=>h x (A0P _ hx);simp only [A0l,A0Z,A2Z,A0E] at h2 ⊢;omega
theorem B6z {l:List Tok} (h:∀ t∈l,Fit t):(A2u l).length<=200025 * l.length:=by
 have h1:=A7h B5h l 0;have h2:=B5d h;unfold A2u;omega
theorem TOk.fit {t:Tok} (h:TOk t):Fit t:=by
 obtain ⟨s,p,h1,rfl⟩:=h;unfold Fit I6;cases s with
 | nil=>simp [B6,nxE] at h1
 | cons c q =>
  by_cases hl:ltB c=true
  ·by_cases h12:12<D0 ptB (c :: q)
   ·rw [B6,if_pos hl,if_pos h12] at h1;simp [nxE] at h1
   ·rw [B6,if_pos hl,if_neg h12,nxT];refine ⟨?_,by simp only;omega,by simp only;omega⟩;simp only [A0S];omega
  ·by_cases hd:dgB c=true
   ·by_cases h3:1<D0 dgB (c :: q)/\c.toNat=48
    ·rw [B6,if_neg hl,if_pos hd,if_pos h3] at h1;simp [nxE] at h1
    ·by_cases h2:2147483647<O4 ((c :: q).take (D0 dgB (c :: q)))
     ·rw [B6,if_neg hl,if_pos hd,if_neg h3,if_pos h2] at h1;simp [nxE] at h1
     ·rw [B6,if_neg hl,if_pos hd,if_neg h3,if_neg h2,nxT];exact ⟨by simp,by simp only;omega,by simp only;omega⟩
   ·by_cases h34:c.toNat=34
    ·cases hq:quM q with
     | none=>rw [B6,if_neg hl,if_neg hd,if_pos h34,hq] at h1;simp [nxE] at h1
     | some x =>
      obtain ⟨t,m⟩:=x;by_cases h32:32<t.length
      ·rw [B6,if_neg hl,if_neg hd,if_pos h34,hq] at h1;simp only at h1;rw [if_pos h32] at h1;simp [nxE] at h1
      ·rw [B6,if_neg hl,if_neg hd,if_pos h34,hq];simp only;rw [if_neg h32,nxT];exact ⟨by simp only;omega,by simp only;omega,by simp only;omega⟩
    ·by_cases hs:J7 (c :: q)=0
     ·rw [B6,if_neg hl,if_neg hd,if_neg h34,if_pos hs] at h1;simp [nxE] at h1
     ·rw [B6,if_neg hl,if_neg hd,if_neg h34,if_neg hs,nxT];have h2:J7 (c :: q)<=2:=by
       cases q with
       | nil=>simp only [J7];split<;>omega
       | cons d q=>simp only [J7];split<;>(try split)<;>omega
      refine ⟨?_,by simp only;omega,by simp only;omega⟩;simp only [A0S];omega
theorem A9v {s:List UInt8} (h:(F4 s).2.2=0):∀ t∈(F4 s).1,TOk t:=(A0o h).2.ok
end Go.Pb
namespace Go.Proofs.YtnmkkggfgdfmeaaGreatDoor
open Go.Eng (IC IOper DReg IFn A7 I1)
open Go.Sym Go.Pb Go.RowKit
theorem c_Dec:∀ (m:Nat) (n:Int),n.natAbs<m -> -9223372036854775808<=n->n<=9223372036854775807->PC Tryz.prog 55 [I64 n] (.str (Q5 n)):=by
 intro m
 induction m with
 | zero=>intro n h;omega
 | succ m ih =>
  intro n h h1 h2;have b:=D0w (d:=S2 n) (B6g n);have hl:=B6g n;by_cases h0:n<0
  ·have hd:decide (n<0)=true:=by simpa using h0
   have e1:=C4p h0;have e2:=C4o h0;have hh:=B6k (n:=n) (by omega);have w1:=w64 (n := -((W1 n:Nat):Int)) (by omega) (by omega);have w2:=w64 (n:=0 - -((S2 n:Nat):Int)) (by omega) (by omega);have w3:0 - -((S2 n:Nat):Int)=(S2 n:Int):=by omega
   rw [w3] at w2;have hlen:=P5 (n := -((W1 n:Nat):Int)) (by omega) (by omega);have a0:=M8 (s:=Q5 (-((W1 n:Nat):Int))) (t:=[Y3 (S2 n)]) (by simp;omega);have a2:Y4 (nil.upd 5 ⟨1,true,[DV.int .u8 ((Y3 (S2 n)).toNat:Int)]⟩) (.slc 5 0 1)=some (.str [Y3 (S2 n)]):=A4t A0 rfl rfl;have a1:=M8 (s:=[45]) (t:=[Y3 (S2 n)]) (by simp);refine PC.of A9 isU55 (A0B rfl) (by simp [DV.nlL,DV.nl]) (by simp [DV.nlL,DV.nl]) ?_;show IW Tryz.prog 43 u55_1 ⟨B7 _,_,_⟩ (rt [.tmp 2] _);repeat' ((first|(with_reducible first|refine wr ?_|refine cpc (ih (-((W1 n:Nat):Int)) (by omega) (by omega) (by omega)) ?_)|(with_reducible refine wb2 ?_ ?_<;>(intro hb;try simp only [hb]))|((with_reducible refine C1f (A4t (l:=[Y3 (S2 n)]) A0 rfl rfl) ?_))|fail)<;>try simp only [go_sem,seval,hd,A8p,B1t,e1,e2,w1,w3,w2,b,a0,a1,a2])
   ·rw [B8f h0 (by simpa using hb)];exact A6 rfl
   ·rw [C2q h0 (by simpa using hb)];exact A6 rfl
  ·have hd:decide (n<0)=false:=by simpa using h0
   have e1:=C4h (n:=n) (by omega);have e2:=C4g (n:=n) (by omega);have hh:W1 n<=n.natAbs:=by unfold W1;omega
   have w1:=w64 (n:=((W1 n:Nat):Int)) (by omega) (by omega);have hlen:=P5 (n:=((W1 n:Nat):Int)) (by omega) (by omega);have a0:=M8 (s:=Q5 ((W1 n:Nat):Int)) (t:=[Y3 (S2 n)]) (by simp;omega);by_cases h9:n<10
   ·have hd9:decide (n<10)=true:=by simpa using h9
    refine PC.of A9 isU55 (A0B rfl) (by simp [DV.nlL,DV.nl]) (by simp [DV.nlL,DV.nl]) ?_;show IW Tryz.prog 43 u55_1 ⟨B7 _,_,_⟩ (rt [.tmp 2] _);repeat' ((first|(with_reducible first|refine wr ?_)|((with_reducible refine C1f (A4t (l:=[Y3 (S2 n)]) A0 rfl rfl) ?_))|fail)<;>try simp only [go_sem,seval,hd,hd9,A8p,B1t,e1,e2,w1,b])
    rw [C6a (by omega) h9];exact A6 rfl
   ·have hd9:decide (n<10)=false:=by simpa using h9
    have hh:=B6k (n:=n) (by omega);refine PC.of A9 isU55 (A0B rfl) (by simp [DV.nlL,DV.nl]) (by simp [DV.nlL,DV.nl]) ?_;show IW Tryz.prog 43 u55_1 ⟨B7 _,_,_⟩ (rt [.tmp 2] _);repeat' ((first|(with_reducible first|refine wr ?_|refine cpc (ih ((W1 n:Nat):Int) (by omega) (by omega) (by omega)) ?_)|((with_reducible refine C1f (A4t (l:=[Y3 (S2 n)]) A0 rfl rfl) ?_))|fail)<;>try simp only [go_sem,seval,hd,hd9,A8p,B1t,e1,e2,w1,b,a0])
    rw [C6b h9];exact A6 rfl
theorem c_Dec' (n:Int) (h1 : -9223372036854775808<=n) (h2:n<=9223372036854775807):PC Tryz.prog 55 [I64 n] (.str (Q5 n)):=c_Dec (n.natAbs+1) n (by omega) h1 h2
theorem c_QuoteR (s:List UInt8) (hs:s.length<=100000):PC Tryz.prog 119 [.str s] (.str (A6v s)):=by
 refine PC.of A9 isU119 (A0B rfl) (by simp [DV.nlL,DV.nl]) (by simp [DV.nlL,DV.nl]) ?_;show IW Tryz.prog 35 u119_1 ⟨B7 _,_,_⟩ (rt [.tmp 2] _);repeat' ((with_reducible apply wr)<;>try simp only [go_sem,seval])
 refine B9 (fun q:Nat × Nat=>[(0,.str s),(3,.slc q.2 0 (A4g (s.take q.1)).length),(4,I64 q.1)]) (fun q=>Sym.nil.upd q.2 ⟨1,true,bytesC (A4g (s.take q.1))⟩)
  (fun q c=>q.1<=s.length/\q.2<c) (fun q=>s.length-q.1) (0,0) (by simp [C1,tm,Tm.upd,A4g]) (Sub.refl _) (by simp) ?_
 rintro ⟨k,id⟩ c ⟨hk,hid⟩;simp only at hk hid;simp only;have hal:(A4g (s.take k)).length<=2 * k+1:=by
  have:=B1v (s.take k);rw [A0S] at this;omega
 obtain ⟨acc,hacc⟩:∃ acc,acc=A4g (s.take k):=⟨_,rfl⟩;rw [<- hacc] at hal ⊢;by_cases hlt:k<s.length
 ·have hd:decide ((k:Int)<s.length)=true:=by simpa using hlt
  have hg:=A0C hlt;have hw:IntKind.i64.wrap ((k:Int)+1)=((k+1:Nat):Int):=by rw [w64 (by omega) (by omega)];omega
  have hA:∀ H c id,apB H c id 1 1 acc.length 1 [.int .u8 92] (some ⟨1,true,bytesC acc⟩)=some (.slc c 0 (acc.length+1),(H.del id).upd c ⟨1,true,bytesC (acc++[92])⟩,c+1):=fun H c id=>C6i (x:=92) rfl (by omega);have hB:∀ H c id,apB H c id 1 1 (acc.length+1) 1 [.int .u8 (s[k].toNat:Int)] (some ⟨1,true,bytesC (acc++[92])⟩)=some (.slc c 0 (acc.length+1+1),(H.del id).upd c ⟨1,true,bytesC (acc++[92]++[s[k]])⟩,c+1):=fun H c id=>C6i (by simp) (by omega);have hC:∀ H c id,apB H c id 1 1 acc.length 1 [.int .u8 (s[k].toNat:Int)] (some ⟨1,true,bytesC acc⟩)=some (.slc c 0 (acc.length+1),(H.del id).upd c ⟨1,true,bytesC (acc++[s[k]])⟩,c+1):=fun H c id=>C6i rfl (by omega);have est:A4g (s.take (k+1))=acc++quB s[k]:=by rw [hacc,B7i hg]
  have ne0:=A0q id c (c+1) (c+2) (c+3) (by omega);repeat' ((with_reducible first|refine wr ?_|refine wb2 ?_ ?_<;>(intro hb;try simp only [hb])|fail)<;>try simp only [go_sem,seval,hd,hg,hw,ne0,hA,hB,hC])
  ·have e2:quB s[k]=[92,s[k]]:=if_pos (.inl (A8d (b:=34) hb));exact ⟨(k+1,c+1+1+1),⟨by simp only [est,e2,A0A];rfl,rfl⟩,R4 (by simp only [est,e2,A0T];rfl),inv ⟨hlt,by simp only;omega⟩,by simp only;omega⟩
  ·have e2:quB s[k]=[92,s[k]]:=if_pos (.inr (A8d (b:=92) hb));exact ⟨(k+1,c+1+1+1),⟨by simp only [est,e2,A0A];rfl,rfl⟩,R4 (by simp only [est,e2,A0T];rfl),inv ⟨hlt,by simp only;omega⟩,by simp only;omega⟩
  ·have e2:quB s[k]=[s[k]]:=if_neg (fun h=>h.elim (A3r (b:=34) (by assumption)) (A3r (b:=92) hb));exact ⟨(k+1,c+1),⟨by simp only [est,e2,A0A];rfl,rfl⟩,R4 (by simp only [est,e2]),inv ⟨hlt,by simp only;omega⟩,by simp only;omega⟩
 ·have hd:decide ((k:Int)<s.length)=false:=by simpa using hlt
  have hZ:∀ H c id,apB H c id 1 1 acc.length 1 [.int .u8 34] (some ⟨1,true,bytesC acc⟩)=some (.slc c 0 (acc.length+1),(H.del id).upd c ⟨1,true,bytesC (acc++[34])⟩,c+1):=fun H c id=>C6i (x:=34) rfl (by omega);have ne0:=T8 id c (c+1) (by omega);have hcv:∀ (H:Hp) u,Y4 (H.upd (c+1) ⟨u,true,bytesC (acc++[34])⟩) (.slc (c+1) 0 (acc.length+1))=some (.str (acc++[34])):=fun H u=>A4t A0 rfl (by simp);repeat' ((with_reducible apply wr)<;>try simp only [go_sem,seval,hd,ne0,hZ,hcv])
  refine A6 ?_;rw [hacc,A0J (by omega)];rfl
theorem c_OneR (t:Tok) (ht:Fit t):PC Tryz.prog 78 [t.v] (.str (A1v t)):=by
 refine PC.of A9 isU78 (A0B rfl) (by simp [DV.nlL,DV.nl]) (by simp [DV.nlL,DV.nl]) ?_;show IW Tryz.prog 21 u78_1 ⟨B7 _,_,_⟩ (rt [.tmp 2] _);have hq:=c_QuoteR t.text ht.1;have hd:=c_Dec' t.value ht.2.1 ht.2.2;repeat' ((with_reducible first|refine wr ?_|refine cpc hq ?_|refine cpc hd ?_|refine wb2 ?_ ?_<;>(intro hb;try simp only [hb])|fail)<;>try simp only [go_sem,seval])
 all_goals (refine A6 (congrArg DV.str ?_);unfold A1v;simp_all)
theorem c_TextR (l:List Tok) (hl:l.length<=100000) (hx:∀ t∈l,Fit t):PC Tryz.prog 39 [C9 l] (.str (A2u l)):=by
 refine PC.of A9 isU39 (A0B rfl) (by simp only [DV.nlL,DV.nl,J5,A2E]) rfl ?_;show IW Tryz.prog 23 u39_1 ⟨B7 _,_,_⟩ (rt [.tmp 2] _);repeat' ((with_reducible apply wr)<;>try simp only [go_sem,seval])
 refine B9 (fun k:Nat=>[(0,C9 l),(3,.str (V2 spB 0 (l.take k))),(4,I64 k)]) (fun _=>nil) (fun k _=>k<=l.length) (fun k=>l.length-k) 0 (by simp [C1,tm,Tm.upd,V2]) (Sub.nil _) (by simp) ?_;rintro k c hk;by_cases hlt:k<l.length
 ·have hd:decide ((k:Int)<l.length)=true:=by simpa using hlt
  have hg:=A0C hlt;have hw:IntKind.i64.wrap ((k:Int)+1)=((k+1:Nat):Int):=by rw [w64 (by omega) (by omega)];omega
  have hst:=B7y (sp:=spB) hg;have hfit:=hx _ (A0M hlt);have hal:(V2 spB 0 (l.take k)).length<=200025 * (l.take k).length:=B6z (fun x hx'=>hx x (A3F hx'));rw [A0S] at hal;obtain ⟨t,ht⟩:∃ t,t=l[k]:=⟨_,rfl⟩;rw [<- ht] at hg hst hfit;obtain ⟨acc,hacc⟩:∃ acc,acc=V2 spB 0 (l.take k):=⟨_,rfl⟩;rw [<- hacc] at hst hal ⊢;have h1:=c_OneR t hfit;have h1l:=B2a hfit;by_cases h0:k=0
  ·have hp:decide ((k:Int)>0)=false:=by simp;omega
   have a2:=M8 (s:=acc) (t:=A1v t) (by omega);repeat' ((with_reducible first|apply wr|refine cpc h1 ?_|fail)<;>try simp only [go_sem,seval,hd,hg,hw,hp,a2])
   exact ⟨k+1,⟨by rw [hst,spB,if_pos h0,A1T],rfl⟩,Sub.nil _,inv hlt,by omega⟩
  ·have hp:decide ((k:Int)>0)=true:=by simp;omega
   have a1:=M8 (s:=acc) (t:=[32]) (by rw [A0H];omega);have a2:=M8 (s:=acc++[32]) (t:=A1v t) (by rw [A0A,A0H];omega);repeat' ((with_reducible first|apply wr|refine cpc h1 ?_|fail)<;>try simp only [go_sem,seval,hd,hg,hw,hp,a1,a2])
   exact ⟨k+1,⟨by rw [hst,spB,if_neg h0],rfl⟩,Sub.nil _,inv hlt,by omega⟩
 ·have hd:decide ((k:Int)<l.length)=false:=by simpa using hlt
  repeat' ((with_reducible apply wr)<;>try simp only [go_sem,seval,hd])
  refine A6 ?_;rw [A0J (by omega)];rfl
end Go.Proofs.YtnmkkggfgdfmeaaGreatDoor
namespace Go.Pb
variable [Go.Sym.Tab]
open Go.Sym
def Evt {α : Type} (g:Nat->Option α) (r : α):Prop:=∃ N, ∀ f,N<=f->g f=some r
theorem Evt.one {α : Type} {g:Nat->Option α} {r : α} (h:∀ f,g (f+1)=some r):Evt g r :=
 ⟨1,fun f hf=>by obtain ⟨k,rfl⟩:∃ k,f=k+1:=⟨f-1,by omega⟩;exact h k⟩
theorem Evt.ext {α β : Type} {g:Nat->Option α} {h:Nat->Option β} {r : α} {q : β} (hg:Evt g r) (e:∀ f,g f=some r->h (f+1)=some q):Evt h q:=by
 obtain ⟨N,hg⟩:=hg;exact ⟨N+1,fun f hf=>by obtain ⟨k,rfl⟩:∃ k,f=k+1:=⟨f-1,by omega⟩;exact e k (hg k (by omega))⟩
theorem Evt.map {α β : Type} {g:Nat->Option α} {h:Nat->Option β} {r : α} {q : β} (hg:Evt g r) (e:∀ f,g f=some r->h f=some q):Evt h q:=by
 obtain ⟨N,hg⟩:=hg;exact ⟨N,fun f hf=>e f (hg f hf)⟩
theorem Evt.and {α β : Type} {g:Nat->Option α} {h:Nat->Option β} {r : α} {q : β} (hg:Evt g r) (hh:Evt h q):Evt (fun f=>match g f,h f with|some a,some b=>some (a,b)|_,_=>none) (r,q):=by
 obtain ⟨N,hg⟩:=hg;obtain ⟨M,hh⟩:=hh;exact ⟨max N M,fun f hf=>by dsimp only;rw [hg f (by omega),hh f (by omega)]⟩
theorem Evt.ext2 {α β γ : Type} {g:Nat->Option α} {h:Nat->Option β} {k:Nat->Option γ} {r : α} {q : β} {w : γ} (hg:Evt g r) (hh:Evt h q) (e:∀ f,g f=some r->h f=some q->k (f+1)=some w):Evt k w:=by
 obtain ⟨N,hg⟩:=hg;obtain ⟨M,hh⟩:=hh;exact ⟨max N M+1,fun f hf=>by obtain ⟨j,rfl⟩:∃ j,f=j+1:=⟨f-1,by omega⟩;exact e j (hg j (by omega)) (hh j (by omega))⟩
theorem Evt.map2 {α β γ : Type} {g:Nat->Option α} {h:Nat->Option β} {k:Nat->Option γ} {r : α} {q : β} {w : γ} (hg:Evt g r) (hh:Evt h q) (e:∀ f,g f=some r->h f=some q->k f=some w):Evt k w:=by
 obtain ⟨N,hg⟩:=hg;obtain ⟨M,hh⟩:=hh;exact ⟨max N M,fun f hf=>e f (hg f (by omega)) (hh f (by omega))⟩
theorem Evt.uniq {α : Type} {g:Nat->Option α} {r q : α} (h1:Evt g r) (h2:Evt g q):r=q:=by
 obtain ⟨N,h1⟩:=h1;obtain ⟨M,h2⟩:=h2;exact Option.some.inj ((h1 (max N M) (by omega)).symm.trans (h2 (max N M) (by omega)))
theorem Evt.get {α : Type} {g:Nat->Option α} {r : α} (h:Evt g r):∃ f,g f=some r:=by
 obtain ⟨N,h⟩:=h;exact ⟨N,h N (A0I _)⟩
section
variable {L:List Tok} {E:Int}
abbrev Bin (L:List Tok) (E n:Int) (s:Rd) (r:Ex × Rd):Prop:=Evt (fun f=>I0 L E f n s) r
abbrev Lop (L:List Tok) (E n:Int) (e:Ex) (s:Rd) (r:Ex × Rd):Prop:=Evt (fun f=>N2 L E f n e s) r
abbrev Un (L:List Tok) (E:Int) (s:Rd) (r:Ex × Rd):Prop:=Evt (fun f=>Q9 L E f s) r
theorem Bin.un {n:Int} {s:Rd} {r:Ex × Rd} (hn:5<n) (h:Un L E s r):Bin L E n s r :=
 h.ext fun f h=>by rw [I0,if_pos hn];exact h
theorem Bin.go {n:Int} {s s1:Rd} {e:Ex} {r:Ex × Rd} (hn:n<=5) (h:Bin L E (n+1) s (e,s1)) (h2:Lop L E n e s1 r):Bin L E n s r :=
 h.ext2 h2 fun f h h2=>by rw [I0,if_neg (by omega),h];exact h2
theorem Lop.stop {n:Int} {e:Ex} {s:Rd} (h:C4 L E s D3<0\/B4 (12+C4 L E s D3)≠n):Lop L E n e s (e,s) :=
 Evt.one fun f=>by rw [N2];dsimp only;rw [if_pos h]
theorem Lop.three {n:Int} {e x:Ex} {s s1:Rd} (h0:0<=C4 L E s D3) (h1:B4 (12+C4 L E s D3)=n) (hn:n=3) (hb:Bin L E (n+1) (B1 s) (x,s1)):Lop L E n e s (.mk (12+C4 L E s D3) 0 [] [e,x] (B8 L E s).pos,s1) :=
 hb.ext fun f h=>by rw [N2];dsimp only;rw [if_neg (by omega),h];dsimp only;rw [if_pos hn]
theorem Lop.more {n:Int} {e x:Ex} {s s1:Rd} {r:Ex × Rd} (h0:0<=C4 L E s D3) (h1:B4 (12+C4 L E s D3)=n) (hn:n≠3) (hb:Bin L E (n+1) (B1 s) (x,s1)) (hl:Lop L E n (.mk (12+C4 L E s D3) 0 [] [e,x] (B8 L E s).pos) s1 r):Lop L E n e s r :=
 hb.ext2 hl fun f h h2=>by rw [N2];dsimp only;rw [if_neg (by omega),h];dsimp only;rw [if_neg hn];exact h2
theorem Un.prim {s:Rd} (h:C4 L E s O3<0):Un L E s (I5 L E s) :=
 Evt.one fun f=>by rw [Q9];dsimp only;rw [if_pos h]
theorem Un.bad {s:Rd} (h:0<=C4 L E s O3) (hl:okR (C8 L E s (s.par+1) 16 50)=false):Un L E s (Ex0,C8 L E s (s.par+1) 16 50) :=
 Evt.one fun f=>by rw [Q9];dsimp only;rw [if_neg (by omega),if_pos hl]
theorem Un.par {s s3:Rd} {e:Ex} (h:C4 L E s O3=2) (hl:okR (C8 L E s (s.par+1) 16 50)=true) (hb:Bin L E 1 { s with i:=s.i+1,par:=s.par+1 } (e,s3)):Un L E s (e, { D6 L E s3 [41] with par:=(D6 L E s3 [41]).par-1 }) :=
 hb.ext fun f hf=>by
  have e0:=(F9 (by decide) hl).2.2;rw [Q9];dsimp only;rw [if_neg (by omega),if_neg (by rw [hl];decide),e0,if_pos h,hf]
theorem Un.pre {s s3:Rd} {e:Ex} (h0:0<=C4 L E s O3) (h:C4 L E s O3≠2) (hl:okR (C8 L E s (s.par+1) 16 50)=true) (hb:Un L E { s with i:=s.i+1,par:=s.par+1 } (e,s3)):Un L E s (.mk (10+C4 L E s O3) 0 [] [e] (B8 L E s).pos, { s3 with par:=s3.par-1 }) :=
 hb.ext fun f hf=>by
  have e0:=(F9 (by decide) hl).2.2;rw [Q9];dsimp only;rw [if_neg (by omega),if_neg (by rw [hl];decide),e0,if_neg h,hf]
theorem E5 {s:Rd} {x:List UInt8}:s.i<=(D6 L E s x).i:=by
 unfold D6;cases k:isR L E s x with
 | false=>rw [if_pos rfl,R8];exact A0I _
 | true=>rw [if_neg (by simp)];exact A2W _
theorem I2 {s:Rd} {x:Int}:s.i<=(B2 L E s x).2.i:=by
 unfold B2;cases k:I9 L E s x with
 | false=>rw [if_pos rfl];show s.i<=(M7 L E s).i;rw [R8];exact A0I _
 | true=>rw [if_neg (by simp)];exact A2W _
theorem B5t {s:Rd}:s.i<=(I5 L E s).2.i:=by
 unfold I5;dsimp only;have h2:(C8 L E { s with ops:=s.ops+1 } (s.ops+1) 32 9).i=s.i:=F6;have h3:(B1 (C8 L E { s with ops:=s.ops+1 } (s.ops+1) 32 9)).i=s.i+1:=by show (C8 L E { s with ops:=s.ops+1 } (s.ops+1) 32 9).i+1=_;rw [h2]
 split
 ·show s.i<=(M7 L E s).i;rw [R8];exact A0I _
 ·split
  ·show s.i<=(C8 L E { s with ops:=s.ops+1 } (s.ops+1) 32 9).i;rw [h2];exact A0I _
  ·have:=I2 (L:=L) (E:=E) (s:=B1 (C8 L E { s with ops:=s.ops+1 } (s.ops+1) 32 9)) (x:=1);repeat' split
   all_goals (first|(show s.i<=(B2 L E _ 1).2.i;omega)|(show s.i<=(B1 _).i;omega))
theorem ET.all:∀ (m:Nat),(∀ s:Rd,L.length-s.i<=m->∃ r,Un L E s r/\s.i<=r.2.i)/\(∀ (n:Int) e (s:Rd),n<=5->1<=n->L.length-s.i<=m->∃ r,Lop L E n e s r/\s.i<=r.2.i)/\(∀ (n:Int) (s:Rd),1<=n->L.length-s.i<=m->∃ r,Bin L E n s r/\s.i<=r.2.i):=by
 intro m
 induction m using Nat.strongRecOn with
 | _ m ih =>
  have A:∀ s:Rd,L.length-s.i<=m->∃ r,Un L E s r/\s.i<=r.2.i:=by
   intro s hs;by_cases hk:C4 L E s O3<0
   ·exact ⟨_,Un.prim hk,B5t⟩
   ·obtain ⟨-,hi, -⟩:=G3 (show 0<=C4 L E s O3 by omega);cases hl:okR (C8 L E s (s.par+1) 16 50) with
    | false=>exact ⟨_,Un.bad (by omega) hl,by show s.i<=(C8 L E s (s.par+1) 16 50).i;rw [F6];exact A0I _⟩
    | true =>
     by_cases h2:C4 L E s O3=2
     ·obtain ⟨⟨e,s3⟩,hb,hge⟩:=(ih (m-1) (by omega)).2.2 1 { s with i:=s.i+1,par:=s.par+1 } (by decide) (by show L.length-(s.i+1)<=m-1;omega);refine ⟨_,Un.par h2 hl hb,?_⟩;have h4:=E5 (L:=L) (E:=E) (s:=s3) (x:=[41]);have h5:s.i+1<=s3.i:=hge;show s.i<=(D6 L E s3 [41]).i;omega
     ·obtain ⟨⟨e,s3⟩,hb,hge⟩:=(ih (m-1) (by omega)).1 { s with i:=s.i+1,par:=s.par+1 } (by show L.length-(s.i+1)<=m-1;omega);refine ⟨_,Un.pre (by omega) h2 hl hb,?_⟩;have h5:s.i+1<=s3.i:=hge;show s.i<=s3.i;omega
  have B:∀ (n:Int) e (s:Rd),n<=5->1<=n->L.length-s.i<=m->∃ r,Lop L E n e s r/\s.i<=r.2.i:=by
   intro n e s h5 h1 hs;by_cases hk:C4 L E s D3<0\/B4 (12+C4 L E s D3)≠n
   ·exact ⟨_,Lop.stop hk,A0I _⟩
   ·have h0:0<=C4 L E s D3:=by omega
    obtain ⟨-,hi, -⟩:=G3 h0;obtain ⟨⟨x,s1⟩,hb,hge⟩:=(ih (m-1) (by omega)).2.2 (n+1) (B1 s) (by omega) (by show L.length-(s.i+1)<=m-1;omega);have hge:s.i+1<=s1.i:=hge;by_cases h3:n=3
    ·exact ⟨_,Lop.three h0 (by omega) h3 hb,by show s.i<=s1.i;omega⟩
    ·obtain ⟨r,hl,hg2⟩:=(ih (m-1) (by omega)).2.1 n (.mk (12+C4 L E s D3) 0 [] [e,x] (B8 L E s).pos) s1 h5 h1 (by omega);exact ⟨_,Lop.more h0 (by omega) h3 hb hl,by omega⟩
  refine ⟨A,B,?_⟩;have C:∀ (j:Nat) (n:Int) (s:Rd),6-n<=j->1<=n->L.length-s.i<=m->∃ r,Bin L E n s r/\s.i<=r.2.i:=by
   intro j
   induction j with
   | zero =>
    intro n s hj h1 hs;obtain ⟨r,h,hg⟩:=A s hs;exact ⟨r,Bin.un (by omega) h,hg⟩
   | succ j ihj =>
    intro n s hj h1 hs;by_cases h5:5<n
    ·obtain ⟨r,h,hg⟩:=A s hs;exact ⟨r,Bin.un h5 h,hg⟩
    ·obtain ⟨⟨e,s1⟩,h,hg⟩:=ihj (n+1) s (by omega) (by omega) hs;have hg:s.i<=s1.i:=hg;obtain ⟨r,h2,hg2⟩:=B n e s1 (by omega) h1 (by omega);exact ⟨r,Bin.go (by omega) h h2,by omega⟩
  exact fun n s h1 hs=>C (6-n).toNat n s (by omega) h1 hs
abbrev Xpn (L:List Tok) (E:Int) (s:Rd) (r:Ex × Rd):Prop:=Evt (fun f=>P3 L E f s) r
theorem A1e (s:Rd):∃ r,Xpn L E s r/\s.i<=r.2.i:=by
 obtain ⟨r,h,hg⟩:=(ET.all (L:=L) (E:=E) (L.length-s.i)).2.2 1 { s with ops:=0,par:=0 } (by decide) (A0I _);exact ⟨r,h,hg⟩
theorem B9b (k p:Int) (s:Rd):∃ r,Evt (fun f=>L4 L E f k p s) r/\s.i<=r.2.i:=by
 by_cases h4:k=4
 ·obtain ⟨⟨e,s1⟩,h,hg⟩:=A1e (L:=L) (E:=E) s;exact ⟨_,h.map fun f h=>by unfold L4;rw [if_pos h4,h],A1G hg E5⟩
 by_cases h18:k=18
 ·obtain ⟨⟨e,s1⟩,h,hg⟩:=A1e (L:=L) (E:=E) (D6 L E (B2 L E s 4).2 [44]);exact ⟨_,h.map fun f h=>by unfold L4;rw [if_neg h4,if_pos h18,h],A1G (A1G I2 (A1G E5 hg)) E5⟩
 by_cases h19:k=19
 ·exact ⟨_,Evt.one fun f=>by unfold L4;rw [if_neg h4,if_neg h18,if_pos h19],E5⟩
 by_cases h8:k=8\/k=9\/k=10
 ·obtain ⟨⟨e,s1⟩,h,hg⟩:=A1e (L:=L) (E:=E) (B2 L E s 1).2;by_cases h9:k=9
  ·obtain ⟨⟨e2,s2⟩,h2,hg2⟩:=A1e (L:=L) (E:=E) (D6 L E s1 [44]);exact ⟨_,h.map2 h2 fun f h h2=>by unfold L4;rw [if_neg h4,if_neg h18,if_neg h19];dsimp only;rw [if_pos h8,h];dsimp only;rw [if_pos h9,h2],A1G (A1G I2 (A1G hg (A1G E5 hg2))) E5⟩
  ·exact ⟨_,h.map fun f h=>by unfold L4;rw [if_neg h4,if_neg h18,if_neg h19];dsimp only;rw [if_pos h8,h];dsimp only;rw [if_neg h9],A1G (A1G I2 hg) E5⟩
 ·exact ⟨_,Evt.one fun f=>by unfold L4;rw [if_neg h4,if_neg h18,if_neg h19];dsimp only;rw [if_neg h8],A1G I2 E5⟩
abbrev A5p (L:List Tok) (E d:Int) (s:Rd) (r:List St × Rd):Prop:=Evt (fun f=>L1 L E f d s) r
abbrev X4 (L:List Tok) (E d:Int) (l:List St) (s:Rd) (r:List St × Rd):Prop:=Evt (fun f=>O1 L E f d l s) r
abbrev Q0 (L:List Tok) (E d:Int) (s:Rd) (r:St × Rd):Prop:=Evt (fun f=>Q4 L E f d s) r
abbrev A5l (L:List Tok) (E d:Int) (s:Rd) (r:List St × Rd):Prop:=Evt (fun f=>O7 L E f d s) r
theorem A5p.mk {d:Int} {s:Rd} {r:List St × Rd} (h:X4 L E d [] (D6 L E s [123]) r):A5p L E d s r :=
 h.ext fun f h=>by rw [L1];exact h
theorem X4.stop {d:Int} {l:List St} {s:Rd} (h:¬ (okR s=true/\isR L E s [125]=false)):X4 L E d l s (l,D6 L E s [125]) :=
 Evt.one fun f=>by rw [O1,if_neg h]
theorem X4.bad {d:Int} {l:List St} {s:Rd} (h:okR s=true/\isR L E s [125]=false) (h2:C4 L E s C3<0/\I9 L E s 1=false):X4 L E d l s ([],M7 L E s) :=
 Evt.one fun f=>by rw [O1,if_pos h,if_pos h2]
theorem X4.more {d:Int} {l:List St} {s s1:Rd} {x:St} {r:List St × Rd} (h:okR s=true/\isR L E s [125]=false) (h2:¬ (C4 L E s C3<0/\I9 L E s 1=false)) (hx:Q0 L E d (C8 L E s ((l.length:Int)+1) 64 9) (x,s1)) (hl:X4 L E d (l++[x]) s1 r):X4 L E d l s r :=
 hx.ext2 hl fun f hx hl=>by rw [O1,if_pos h,if_neg h2,hx];exact hl
theorem Q0.bad {d:Int} {s:Rd} (h:okR (C8 L E s d 8 50)=false):Q0 L E d s (St0,C8 L E s d 8 50) :=
 Evt.one fun f=>by rw [Q4];dsimp only;rw [if_pos h]
theorem Q0.set {d:Int} {s s1:Rd} {e:Ex} (h:okR (C8 L E s d 8 50)=true) (hk:C4 L E s C3<0) (he:Xpn L E (D6 L E (B2 L E s 1).2 [61]) (e,s1)):Q0 L E d s (.mk 1 (B2 L E s 1).1.text [] [e] [] [] (B8 L E s).pos,D6 L E s1 [59]) :=
 he.ext fun f hf=>by
  have e0:=(F9 (by decide) h).2.2;rw [Q4];dsimp only;rw [if_neg (by rw [h];decide),e0,if_pos hk,hf]
theorem Q0.els {d:Int} {s s2 s3 s4:Rd} {e:Ex} {t o:List St} (h:okR (C8 L E s d 8 50)=true) (hk:C4 L E s C3=0) (he:Xpn L E (B1 s) (e,s2)) (ht:A5p L E (d+1) s2 (t,s3)) (hi:isR L E s3 [101,108,115,101]=true) (ho:A5l L E d (B1 s3) (o,s4)):Q0 L E d s (.mk 2 [] [] [e] t o (B8 L E s).pos,s4) :=
 (he.and ht).ext2 ho fun f hf h2=>by
  have e0:=(F9 (by decide) h).2.2;cases h3:P3 L E f (B1 s) with
  | none=>rw [h3] at hf;cases hf
  | some q =>
   cases h4:L1 L E f (d+1) s2 with
   | none=>rw [h3,h4] at hf;cases hf
   | some w =>
    rw [h3,h4] at hf;obtain ⟨rfl,rfl⟩:=Prod.mk.inj (Option.some.inj hf);rw [Q4];dsimp only;rw [if_neg (by rw [h];decide),e0,if_neg (by omega),if_pos (.inl hk),h3];dsimp only;rw [h4];dsimp only;rw [if_pos ⟨hk,hi⟩,h2]
theorem Q0.blk {d:Int} {s s2 s3:Rd} {e:Ex} {t:List St} (h:okR (C8 L E s d 8 50)=true) (hk:C4 L E s C3=0\/C4 L E s C3=1) (he:Xpn L E (B1 s) (e,s2)) (ht:A5p L E (d+1) s2 (t,s3)) (hi:¬ (C4 L E s C3=0/\isR L E s3 [101,108,115,101]=true)):Q0 L E d s (.mk (2+C4 L E s C3) [] [] [e] t [] (B8 L E s).pos,s3) :=
 he.ext2 ht fun f h3 h4=>by
  have e0:=(F9 (by decide) h).2.2;rw [Q4];dsimp only;rw [if_neg (by rw [h];decide),e0,if_neg (by omega),if_pos hk,h3];dsimp only;rw [h4];dsimp only;rw [if_neg hi]
theorem Q0.tail {d:Int} {s:Rd} {r:St × Rd} (h:okR (C8 L E s d 8 50)=true) (hk:2<=C4 L E s C3) (he:Evt (fun f=>L4 L E f (2+C4 L E s C3) (B8 L E s).pos (B1 s)) r):Q0 L E d s r :=
 he.ext fun f h3=>by
  have e0:=(F9 (by decide) h).2.2;rw [Q4];dsimp only;rw [if_neg (by rw [h];decide),e0,if_neg (by omega),if_neg (by omega)];exact h3
theorem A5l.iff {d:Int} {s s1:Rd} {x:St} (h:isR L E s [105,102]=true) (hs:Q0 L E (d+1) s (x,s1)):A5l L E d s ([x],s1) :=
 hs.ext fun f hf=>by rw [O7,if_pos h,hf]
theorem A5l.blk {d:Int} {s:Rd} {r:List St × Rd} (h:isR L E s [105,102]=false) (hs:A5p L E (d+1) s r):A5l L E d s r :=
 hs.ext fun f hf=>by rw [O7,if_neg (by rw [h];decide)];exact hf
theorem ST.all:∀ (m:Nat),(∀ d (s:Rd),L.length-s.i<=m->∃ r,Q0 L E d s r/\s.i<=r.2.i/\(okR (C8 L E s d 8 50)=true->(0<=C4 L E s C3\/I9 L E s 1=true)->s.i<r.2.i)) /\
  (∀ d l (s:Rd),L.length-s.i<=m->∃ r,X4 L E d l s r/\s.i<=r.2.i):=by
 intro m
 induction m using Nat.strongRecOn with
 | _ m ih =>
  have blk:∀ d (s:Rd),L.length-s.i<m->∃ r,A5p L E d s r/\s.i<=r.2.i:=by
   intro d s hs;have h0:=E5 (L:=L) (E:=E) (s:=s) (x:=[123]);obtain ⟨r,h,hg⟩:=(ih _ hs).2 d [] (D6 L E s [123]) (by omega);exact ⟨r,A5p.mk h,by omega⟩
  have oth:∀ d (s:Rd),L.length-s.i<m->∃ r,A5l L E d s r/\s.i<=r.2.i:=by
   intro d s hs;cases hi:isR L E s [105,102] with
   | true =>
    obtain ⟨⟨x,s1⟩,h,hg, -⟩:=(ih _ hs).1 (d+1) s (A0I _);exact ⟨_,A5l.iff hi h,hg⟩
   | false =>
    obtain ⟨r,h,hg⟩:=blk (d+1) s hs;exact ⟨r,A5l.blk hi h,hg⟩
  have A:∀ d (s:Rd),L.length-s.i<=m->∃ r,Q0 L E d s r/\s.i<=r.2.i/\(okR (C8 L E s d 8 50)=true->(0<=C4 L E s C3\/I9 L E s 1=true)->s.i<r.2.i):=by
   intro d s hs;cases hl:okR (C8 L E s d 8 50) with
   | false=>exact ⟨_,Q0.bad hl,by show s.i<=(C8 L E s d 8 50).i;rw [F6];exact A0I _,fun h=>by cases h⟩
   | true =>
    by_cases hk:C4 L E s C3<0
    ·obtain ⟨⟨e,s1⟩,he,hg⟩:=A1e (L:=L) (E:=E) (D6 L E (B2 L E s 1).2 [61]);have hg:(D6 L E (B2 L E s 1).2 [61]).i<=s1.i:=hg;have h1:=E5 (L:=L) (E:=E) (s:=s1) (x:=[59]);have h2:=E5 (L:=L) (E:=E) (s:=(B2 L E s 1).2) (x:=[61]);have h3:=I2 (L:=L) (E:=E) (s:=s) (x:=1);refine ⟨_,Q0.set hl hk he,by show s.i<=(D6 L E s1 [59]).i;omega,fun _ hc=>?_⟩;have h4:I9 L E s 1=true:=hc.resolve_left (by omega);have h5:(B2 L E s 1).2.i=s.i+1:=by unfold B2;rw [if_neg (by rw [h4];decide)];rfl
     show s.i<(D6 L E s1 [59]).i;omega
    ·obtain ⟨-,hi, -,hk18⟩:=G3 (show 0<=C4 L E s C3 by omega);by_cases h01:C4 L E s C3=0\/C4 L E s C3=1
     ·obtain ⟨⟨e,s2⟩,he,hg⟩:=A1e (L:=L) (E:=E) (B1 s);have hg:s.i+1<=s2.i:=hg;obtain ⟨⟨t,s3⟩,ht,hg3⟩:=blk (d+1) s2 (by omega);have hg3:s2.i<=s3.i:=hg3;by_cases hc:C4 L E s C3=0/\isR L E s3 [101,108,115,101]=true
      ·have hi3:=(A0r hc.2).2;obtain ⟨⟨o,s4⟩,ho,hg4⟩:=oth d (B1 s3) (by show L.length-(s3.i+1)<m;omega);have hg4:s3.i+1<=s4.i:=hg4;exact ⟨_,Q0.els hl hc.1 he ht hc.2 ho,by show s.i<=s4.i;omega,fun _ _=>by show s.i<s4.i;omega⟩
      ·exact ⟨_,Q0.blk hl h01 he ht hc,by show s.i<=s3.i;omega,fun _ _=>by show s.i<s3.i;omega⟩
     ·obtain ⟨r,hr,hg⟩:=B9b (L:=L) (E:=E) (2+C4 L E s C3) (B8 L E s).pos (B1 s);have hg:s.i+1<=r.2.i:=hg;exact ⟨_,Q0.tail hl (by omega) hr,by omega,fun _ _=>by omega⟩
  refine ⟨A,fun d l s hs=>?_⟩;by_cases hc:okR s=true/\isR L E s [125]=false
  ·by_cases h2:C4 L E s C3<0/\I9 L E s 1=false
   ·exact ⟨_,X4.bad hc h2,by show s.i<=(M7 L E s).i;rw [R8];exact A0I _⟩
   ·have hlt:s.i<L.length:=by
     by_cases hk:0<=C4 L E s C3
     ·exact (G3 hk).2.1
     ·cases h1:I9 L E s 1 with
      | false=>exact absurd ⟨by omega,h1⟩ h2
      | true=>exact (I8 (by decide) (H4 h1).2).2
    cases hl:okR (C8 L E s ((l.length:Int)+1) 64 9) with
    | false =>
     have hb:okR (C8 L E (C8 L E s ((l.length:Int)+1) 64 9) d 8 50)=false:=by
      cases hz:okR (C8 L E (C8 L E s ((l.length:Int)+1) 64 9) d 8 50) with
      | false=>rfl
      | true=>rw [(F9 (by decide) hz).1] at hl;cases hl
     have hx:=Q0.bad hb;refine ⟨_,X4.more hc h2 hx (X4.stop (by rw [hb];simp)),?_⟩;have h1:=E5 (L:=L) (E:=E) (s:=C8 L E (C8 L E s ((l.length:Int)+1) 64 9) d 8 50) (x:=[125]);rw [F6,F6] at h1;exact h1
    | true =>
     have e0:=(F9 (by decide) hl).2.2;obtain ⟨⟨x,s1⟩,hx,hg,hprog⟩:=A d s hs;have hg:s.i<=s1.i:=hg;cases hd:okR (C8 L E s d 8 50) with
     | false =>
      have hx:=Q0.bad hd;refine ⟨_,X4.more hc h2 (by rw [e0];exact hx) (X4.stop (by rw [hd];simp)),?_⟩;have h1:=E5 (L:=L) (E:=E) (s:=C8 L E s d 8 50) (x:=[125]);rw [F6] at h1;exact h1
     | true =>
      have hlt2:s.i<s1.i:=hprog hd (by
       by_cases hk:0<=C4 L E s C3
       ·exact .inl hk
       ·cases h1:I9 L E s 1 with
        | false=>exact absurd ⟨by omega,h1⟩ h2
        | true=>exact .inr rfl)
      obtain ⟨r,hr,hg2⟩:=(ih (L.length-s1.i) (by omega)).2 d (l++[x]) s1 (A0I _);exact ⟨r,X4.more hc h2 (by rw [e0];exact hx) hr,by omega⟩
  ·exact ⟨_,X4.stop hc,E5⟩
theorem C6g (d:Int) (s:Rd):∃ r,A5p L E d s r/\s.i<=r.2.i:=by
 obtain ⟨r,h,hg⟩:=(ST.all (L:=L) (E:=E) _).2 d [] (D6 L E s [123]) (A0I _);exact ⟨r,A5p.mk h,A1G E5 hg⟩
theorem C4u:∀ (m:Nat) (l:List Hd) (s:Rd),L.length-s.i<=m->∃ r,Evt (fun f=>U9 L E f l s) r/\s.i<=r.2.i:=by
 intro m
 induction m using Nat.strongRecOn with
 | _ m ih =>
  intro l s hs;by_cases hc:okR s=true/\isR L E s [125]=false
  ·cases hon:isR L E s [111,110] with
   | false=>exact ⟨_,Evt.one fun f=>by rw [U9,if_pos hc,if_pos hon],by show s.i<=(M7 L E s).i;rw [R8];exact A0I _⟩
   | true =>
    have hi:=(A0r hon).2;have h1:(C8 L E s ((l.length:Int)+1) 32 9).i=s.i:=F6;generalize hl:C8 L E s ((l.length:Int)+1) 32 9=s1 at h1;have h2:=E5 (L:=L) (E:=E) (s:=s1) (x:=[111,110]);generalize he:D6 L E s1 [111,110]=s2 at h2;by_cases hk:C4 L E s2 E6<0
    ·exact ⟨_,Evt.one fun f=>by rw [U9,if_pos hc,if_neg (by rw [hon];decide),hl];dsimp only;rw [he,if_pos hk],by show s.i<=(M7 L E s2).i;rw [R8];omega⟩
    ·have hi2:=(G3 (show 0<=C4 L E s2 E6 by omega)).2.1;have h4:s2.i+1<=(if 2<=C4 L E s2 E6 then (B2 L E (B1 s2) 1).2 else B1 s2).i:=by
      split
      ·exact I2 (L:=L) (E:=E) (s:=B1 s2) (x:=1)
      ·exact A0I _
     obtain ⟨⟨b,s5⟩,hb,hg⟩:=C6g (L:=L) (E:=E) 1 (if 2<=C4 L E s2 E6 then (B2 L E (B1 s2) 1).2 else B1 s2);have hg:(if 2<=C4 L E s2 E6 then (B2 L E (B1 s2) 1).2 else B1 s2).i<=s5.i:=hg;obtain ⟨r,hr,hg2⟩:=ih (L.length-s5.i) (by omega) (l++[⟨1+C4 L E s2 E6,if 2<=C4 L E s2 E6 then (B2 L E (B1 s2) 1).1.text else [],b,(B8 L E s1).pos⟩]) s5 (A0I _);exact ⟨r,hb.ext2 hr fun f hb hr=>by rw [U9,if_pos hc,if_neg (by rw [hon];decide),hl];dsimp only;rw [he,if_neg hk,hb];exact hr,by omega⟩
  ·exact ⟨_,Evt.one fun f=>by rw [U9,if_neg hc],E5⟩
theorem C4t (s:Rd):∃ r,Evt (fun f=>A3g L E f s) r/\s.i<=r.2.i/\(isR L E s [109,111,100,101]=true->s.i<r.2.i):=by
 obtain ⟨⟨l,s3⟩,h,hg⟩:=C4u (L:=L) (E:=E) _ [] (D6 L E (B2 L E (B2 L E (D6 L E s [109,111,100,101]) 1).2 3).2 [123]) (A0I _);have hg:(D6 L E (B2 L E (B2 L E (D6 L E s [109,111,100,101]) 1).2 3).2 [123]).i<=s3.i:=hg;have h1:=E5 (L:=L) (E:=E) (s:=(B2 L E (B2 L E (D6 L E s [109,111,100,101]) 1).2 3).2) (x:=[123]);have h2:=I2 (L:=L) (E:=E) (s:=(B2 L E (D6 L E s [109,111,100,101]) 1).2) (x:=3);have h3:=I2 (L:=L) (E:=E) (s:=D6 L E s [109,111,100,101]) (x:=1);have h4:=E5 (L:=L) (E:=E) (s:=s) (x:=[109,111,100,101]);refine ⟨_,h.map fun f h=>by unfold A3g;dsimp only;rw [h],by show s.i<=s3.i;omega,fun hi=>?_⟩;have h5:(D6 L E s [109,111,100,101]).i=s.i+1:=by unfold D6;rw [if_neg (by rw [hi];decide)];rfl
 show s.i<s3.i;omega
theorem C2r {k:Int} {s:Rd}:s.i+1<=(R3 L E k s).2.i:=by
 unfold R3;dsimp only;have h1:=I2 (L:=L) (E:=E) (s:=B1 s) (x:=1);have h0:(B1 s).i=s.i+1:=rfl;split
 ·generalize (B2 L E (B1 s) 1).2=s2 at h1 ⊢;have h3:s2.i<=(if (k+1 == 6 && isR L E s2 [45])=true then B1 s2 else s2).i:=by
   split
   ·exact A2W _
   ·exact A0I _
  generalize (if (k+1 == 6 && isR L E s2 [45])=true then B1 s2 else s2)=s3 at h3 ⊢;have h4:=I2 (L:=L) (E:=E) (s:=s3) (x:=3);have h5:=E5 (L:=L) (E:=E) (s:=(B2 L E s3 3).2) (x:=[59]);show s.i+1<=(D6 L E (B2 L E s3 3).2 [59]).i;omega
 ·have h5:=E5 (L:=L) (E:=E) (s:=(B2 L E (B1 s) 1).2) (x:=[59]);show s.i+1<=(D6 L E (B2 L E (B1 s) 1).2 [59]).i;omega
theorem B6r {s:Rd} (h:okR s=false):∀ (l:List (List UInt8)) (k:Nat),Y8 L E s k l = -1
 | [],k=>rfl
 | t :: l,k=>by rw [Y8,show isR L E s t=false by unfold isR;rw [h];rfl,if_neg (by decide),B6r h l]
theorem C4d:∀ (m:Nat) (l:List Dc) (s:Rd),L.length-s.i<=m->∃ r,Evt (fun f=>T2 L E f l s) r/\s.i<=r.2.i:=by
 intro m
 induction m using Nat.strongRecOn with
 | _ m ih =>
  intro l s hs;by_cases hk:C4 L E s E1<0
  ·exact ⟨_,Evt.one fun f=>by rw [T2];dsimp only;rw [if_pos hk],A0I _⟩
  ·have hi:=(G3 (show 0<=C4 L E s E1 by omega)).2.1;have h1:(C8 L E s ((l.length:Int)+1) 128 9).i=s.i:=F6;cases hl:okR (C8 L E s ((l.length:Int)+1) 128 9) with
   | false =>
    have hz:C4 L E (C8 L E s ((l.length:Int)+1) 128 9) E1<0:=by
     show Y8 L E _ 0 E1<0;rw [B6r hl];decide
    have h2:Evt (fun f=>T2 L E f l (C8 L E s ((l.length:Int)+1) 128 9)) (l,C8 L E s ((l.length:Int)+1) 128 9):=Evt.one fun f=>by rw [T2];dsimp only;rw [if_pos hz]
    exact ⟨_,h2.ext fun f h=>by rw [T2];dsimp only;rw [if_neg hk,if_neg (by rw [hl];decide)];exact h,by show s.i<=(C8 L E s ((l.length:Int)+1) 128 9).i;omega⟩
   | true =>
    have h3:=C2r (L:=L) (E:=E) (k:=C4 L E s E1) (s:=C8 L E s ((l.length:Int)+1) 128 9);obtain ⟨r,hr,hg⟩:=ih (L.length-(R3 L E (C4 L E s E1) (C8 L E s ((l.length:Int)+1) 128 9)).2.i) (by omega) (l++[(R3 L E (C4 L E s E1) (C8 L E s ((l.length:Int)+1) 128 9)).1]) _ (A0I _);exact ⟨r,hr.ext fun f h=>by rw [T2];dsimp only;rw [if_neg hk,if_pos hl];exact h,by omega⟩
theorem C4c:∀ (m:Nat) (l:List Md) (s:Rd),L.length-s.i<=m->∃ r,Evt (fun f=>R9 L E f l s) r/\s.i<=r.2.i:=by
 intro m
 induction m using Nat.strongRecOn with
 | _ m ih =>
  intro l s hs;by_cases hc:okR s=true/\s.i<L.length
  ·cases hm:isR L E s [109,111,100,101] with
   | false=>exact ⟨_,Evt.one fun f=>by rw [R9,if_pos hc,if_pos hm],by show s.i<=(M7 L E s).i;rw [R8];exact A0I _⟩
   | true =>
    have h1:(C8 L E s ((l.length:Int)+1) 16 9).i=s.i:=F6;cases hl:okR (C8 L E s ((l.length:Int)+1) 16 9) with
    | false =>
     have h2:Evt (fun f=>R9 L E f l (C8 L E s ((l.length:Int)+1) 16 9)) (l,C8 L E s ((l.length:Int)+1) 16 9):=Evt.one fun f=>by rw [R9,if_neg (by rw [hl];simp)]
     exact ⟨_,h2.ext fun f h=>by rw [R9,if_pos hc,if_neg (by rw [hm];decide)];dsimp only;rw [if_neg (by rw [hl];decide)];exact h,by show s.i<=(C8 L E s ((l.length:Int)+1) 16 9).i;omega⟩
    | true =>
     have e0:=(F9 (by decide) hl).2.2;obtain ⟨⟨md,s2⟩,h2,hg,hlt⟩:=C4t (L:=L) (E:=E) s;have hlt:s.i<s2.i:=hlt hm;obtain ⟨r,hr,hg2⟩:=ih (L.length-s2.i) (by omega) (l++[md]) s2 (A0I _);exact ⟨r,h2.ext2 hr fun f h2 hr=>by rw [R9,if_pos hc,if_neg (by rw [hm];decide)];dsimp only;rw [if_pos hl,e0,h2];exact hr,by omega⟩
  ·exact ⟨_,Evt.one fun f=>by rw [R9,if_neg hc],A0I _⟩
theorem B5m (s:Rd):∃ r,Evt (fun f=>A4a L E f s) r:=by
 obtain ⟨⟨d,s1⟩,h1, -⟩:=C4d (L:=L) (E:=E) _ [] s (A0I _);obtain ⟨⟨m,s2⟩,h2, -⟩:=C4c (L:=L) (E:=E) _ [] s1 (A0I _);exact ⟨_,h1.map2 h2 fun f h1 h2=>by unfold A4a;rw [h1];dsimp only;rw [h2]⟩
end
end Go.Pb
namespace Go.Pb
variable [Go.Sym.Tab]
open Go.Sym
def A5 (s:List UInt8):Tok:=⟨if G7 s=true then 2 else if D7 s=true then 1 else 5,s,0,0⟩
def D1 (s:List UInt8):List Tok:=if D7 s=false then [Q3] else [⟨1,s,0,0⟩]
def S1 (n:Int):List Tok:=if n<0\/2147483647<n then [Q3] else [⟨3,[],n,0⟩]
def txB (c:UInt8):Bool:=decide (32<=c.toNat) && decide (c.toNat<=126)
def A0b (s:List UInt8):List Tok:=if s.all txB=false\/32<s.length then [Q3] else [⟨4,s,0,0⟩]
def E2 (q:Int × List Tok) (least:Int):List Tok:=if B4 q.1<least then [A5 [40]]++q.2++[A5 [41]] else q.2
def J6 (k v:Int) (n:List UInt8) (as1:List (Int × List Tok)):List Tok :=
 let lv:=B4 k
 if k=1 then S1 v
 else if k=2 then D1 n
 else if k=3 then [A5 [116,114,117,101]]
 else if k=4 then [A5 [102,97,108,115,101]]
 else if k=8 then [A5 [112,108,97,121,101,114]]
 else if k=9 then [A5 [98,97,108,108]]
 else if k=5 then [A5 [99,108,111,115,101,100]]++D1 n
 else if k=6 then [A5 [97,99,116,105,118,101]]++D1 n
 else if k=7 then [A5 [108,101,102,116]]++D1 n
 else match as1 with
  | [q]=>if lv=6 then [A5 (if k=10 then [45] else [33])]++E2 q 6 else [Q3]
  | [q,r]=>if lv<6 then E2 q (if lv=3 then 4 else lv)++[A5 (D3.getD (k-12).toNat [])]++E2 r (lv+1) else [Q3]
  | _=>[Q3]
mutual
def exT:Ex->List Tok
 | .mk k v n a p=>J6 k v n (A5j a)
def A5j:List Ex->List (Int × List Tok)
 | []=>[]
 | e :: l=>(e.kind,exT e) :: A5j l
end
def agT (l:List Ex) (i:Nat):List Tok:=match l[i]? with
 | some e=>exT e
 | none=>[Q3]
mutual
def stT:St->List Tok
 | .mk k n t a x y p =>
  if k=1 then D1 n++[A5 [61]]++agT a 0++[A5 [59]]
  else if k<2\/19<k then [Q3]
  else
   let w:=A5 (C3.getD (k-2).toNat [])
   if k=2\/k=3 then
    let o:=[w]++agT a 0++([A5 [123]]++N4 x++[A5 [125]])
    match y with
    | []=>o
    | [s]=>if s.kind=2 then o++[A5 [101,108,115,101]]++stT s else o++[A5 [101,108,115,101]]++([A5 [123]]++stT s++[A5 [125]])
    | s :: s2 :: r=>o++[A5 [101,108,115,101]]++([A5 [123]]++N4 (s :: s2 :: r)++[A5 [125]])
   else if k=4 then [w]++agT a 0++[A5 [59]]
   else if k=18 then [w]++A0b t++[A5 [44]]++agT a 0++[A5 [59]]
   else if k=8\/k=10 then [w]++D1 n++agT a 0++[A5 [59]]
   else if k=9 then [w]++D1 n++agT a 0++[A5 [44]]++agT a 1++[A5 [59]]
   else if k=19 then [w]++[A5 [59]]
   else [w]++D1 n++[A5 [59]]
def N4:List St->List Tok
 | []=>[]
 | s :: l=>stT s++N4 l
end
def blT (l:List St):List Tok:=[A5 [123]]++N4 l++[A5 [125]]
def dcT (d:Dc):List Tok :=
 if d.kind<1\/8<d.kind then [Q3]
 else
  let o:=[A5 (E1.getD (d.kind-1).toNat [])]++D1 d.name
  (if 6<d.kind then o
  else if d.value<0 /\ -2147483647<=d.value/\d.kind=6 then o++[A5 [45]]++S1 (-d.value)
  else o++S1 d.value)++[A5 [59]]
def hdT (h:Hd):List Tok:=[A5 [111,110],A5 (E6.getD (h.trig-1).toNat [])]++(if 2<h.trig then D1 h.name else [])++blT h.body
def S6 (h:Hd):Bool:=decide (h.trig<1) || decide (6<h.trig)
def mdT (m:Md):List Tok:=[A5 [109,111,100,101]]++D1 m.name++S1 m.prio++[A5 [123]]++m.hds.flatMap hdT++[A5 [125]]
def ruT (r:Ru):List Tok:=if (r.modes.any fun m=>m.hds.any S6)=true then [Q3] else r.decls.flatMap dcT++r.modes.flatMap mdT
mutual
def Ex.plain:Ex->Ex
 | .mk k v n a p=>.mk k v n (Ex.plains a) 0
def Ex.plains:List Ex->List Ex
 | []=>[]
 | e :: l=>e.plain :: Ex.plains l
end
mutual
def St.plain:St->St
 | .mk k n t a x y p=>.mk k n t (Ex.plains a) (St.plains x) (St.plains y) 0
def St.plains:List St->List St
 | []=>[]
 | e :: l=>e.plain :: St.plains l
end
def Dc.plain (d:Dc):Dc:={ d with pos:=0 }
def Hd.plain (h:Hd):Hd:=⟨h.trig,h.name,St.plains h.body,0⟩
def Md.plain (m:Md):Md:=⟨m.name,m.prio,m.hds.map Hd.plain,0⟩
def Ru.plain (r:Ru):Ru:=⟨r.decls.map Dc.plain,r.modes.map Md.plain⟩
theorem Ex.plains_map:∀ l:List Ex,Ex.plains l=l.map Ex.plain
 | []=>rfl
 | e :: l=>by rw [Ex.plains,Ex.plains_map l];rfl
theorem St.plains_map:∀ l:List St,St.plains l=l.map St.plain
 | []=>rfl
 | e :: l=>by rw [St.plains,St.plains_map l];rfl
mutual
def A8c (p:Bool):Ex->Ex->Bool
 | .mk k v n a q,.mk k' v' n' a' q'=>k == k' && (v == v' && (n == n' && ((p || q == q') && L9 p a a')))
def L9 (p:Bool):List Ex->List Ex->Bool
 | [],[]=>true
 | e :: l,e' :: l'=>A8c p e e' && L9 p l l'
 | _,_=>false
end
mutual
def B3m:St->St->Bool
 | .mk k n t a x y q,.mk k' n' t' a' x' y' q'=>k == k' && (n == n' && (t == t' && (q == q' && (L9 false a a' && (K2 x x' && K2 y y')))))
def K2:List St->List St->Bool
 | [],[]=>true
 | e :: l,e' :: l'=>B3m e e' && K2 l l'
 | _,_=>false
end
mutual
theorem C1w:∀ a b:Ex,A8c false a b=true↔a=b
 | .mk k v n a q,.mk k' v' n' a' q'=>by
  have:=A4r a a';simp only [A8c,A0G,A1I,Bool.false_or,this,Ex.mk.injEq];constructor
  ·rintro ⟨h1,h2,h3,h4,h5⟩;exact ⟨h1,h2,h3,h5,h4⟩
  ·rintro ⟨h1,h2,h3,h4,h5⟩;exact ⟨h1,h2,h3,h5,h4⟩
theorem A4r:∀ a b:List Ex,L9 false a b=true↔a=b
 | [],[]=>by simp [L9]
 | [],_ :: _=>by simp [L9]
 | _ :: _,[]=>by simp [L9]
 | e :: l,e' :: l'=>by
  have h1:=C1w e e';have h2:=A4r l l';simp only [L9,A0G,h1,h2,List.cons.injEq]
end
mutual
theorem B9i:∀ a b:St,B3m a b=true↔a=b
 | .mk k n t a x y q,.mk k' n' t' a' x' y' q'=>by
  have h1:=A4r a a';have h2:=X8 x x';have h3:=X8 y y';simp only [B3m,A0G,A1I,h1,h2,h3,St.mk.injEq];constructor
  ·rintro ⟨e1,e2,e3,e4,e5,e6,e7⟩;exact ⟨e1,e2,e3,e5,e6,e7,e4⟩
  ·rintro ⟨e1,e2,e3,e4,e5,e6,e7⟩;exact ⟨e1,e2,e3,e7,e4,e5,e6⟩
theorem X8:∀ a b:List St,K2 a b=true↔a=b
 | [],[]=>by simp [K2]
 | [],_ :: _=>by simp [K2]
 | _ :: _,[]=>by simp [K2]
 | e :: l,e' :: l'=>by
  have h1:=B9i e e';have h2:=X8 l l';simp only [K2,A0G,h1,h2,List.cons.injEq]
end
end Go.Pb
namespace Go.Pb
variable [Go.Sym.Tab]
open Go.Sym
def J1 (k:Int):Nat:=if B4 k=6 then 1 else if B4 k<6 then 2 else 0
def B0i (k:Int):Bool:=k == 5 || (k == 6 || k == 7)
def kOk (k:Int):Bool:=decide (B4 k<7) || (decide (1<=k) && decide (k<=24))
def A0i (k:Int) (n:List UInt8):Bool:=if k=2\/B0i k=true then D7 n else n == []
def A0f (k v:Int):Bool:=v == 0 || (k == 1 && (decide (0<v) && decide (v<=2147483647)))
def V7 (k q:Int) (i:Nat):Bool:=decide (B4 q<B4 k) || (B4 q == B4 k && (i == 1 || B4 k == 3))
mutual
def msM:Ex->Option (Nat × Nat)
 | .mk k v n a p =>
  if kOk k=false\/a.length≠J1 k\/A0i k n=false\/A0f k v=false then none
  else if J1 k=0 then some (1,0)
  else match msL k 0 a with
   | none=>none
   | some (o,d)=>some (o,if J1 k=1 then d+1 else d)
def msL (k:Int):Nat->List Ex->Option (Nat × Nat)
 | _,[]=>some (0,0)
 | i,e :: l=>match msM e with
  | none=>none
  | some (o,d)=>match msL k (i+1) l with
   | none=>none
   | some (o2,d2)=>some (o+o2,max (if V7 k e.kind i=true then d+1 else d) d2)
end
def V8 (e:Ex):Bool:=match msM e with
 | some (o,d)=>decide (o<=32) && decide (d<=16)
 | none=>false
structure Shp where
 name:Bool
 text:Bool
 args:Nat
 thn:Bool
 els:Bool
def L5 (k:Int):Shp :=
 if k=1\/k=8\/k=10 then ⟨true,false,1,false,false⟩
 else if k=9 then ⟨true,false,2,false,false⟩
 else if k=2 then ⟨false,false,1,true,true⟩
 else if k=3 then ⟨false,false,1,true,false⟩
 else if k=4 then ⟨false,false,1,false,false⟩
 else if k=18 then ⟨false,true,1,false,false⟩
 else if k=19 then ⟨false,false,0,false,false⟩
 else ⟨true,false,0,false,false⟩
def S4 (s:List UInt8):Bool:=s.all txB && decide (s.length<=32)
mutual
def Q2:Nat->St->Bool
 | d,.mk k n t a x y p =>
  (decide (1<=k) && decide (k<=19)) && (a.length == (L5 k).args && a.all V8) &&
   ((if (L5 k).name=true then D7 n else n == []) && (if (L5 k).text=true then S4 t else t == [])) &&
   (((L5 k).thn || x.isEmpty) && ((L5 k).els || y.isEmpty)) &&
   ((decide (x.length<=64) && (x.isEmpty || decide (d+1<=8)) && G4 (d+1) x) && (decide (y.length<=64) && (y.isEmpty || decide (d+1<=8)) && G4 (d+1) y))
def G4:Nat->List St->Bool
 | _,[]=>true
 | d,s :: l=>Q2 d s && G4 d l
end
def M5 (l:List St) (d:Nat):Bool:=decide (l.length<=64) && (l.isEmpty || decide (d<=8)) && G4 d l
def A0k (d:Dc):Bool:=decide (1<=d.kind) && decide (d.kind<=8) && D7 d.name && decide ((if d.kind=6 then -2147483647 else 0)<=d.value) && decide (d.value<=(if d.kind=7\/d.kind=8 then 0 else 2147483647))
def A0g (h:Hd):Bool:=decide (1<=h.trig) && decide (h.trig<=6) && (if 3<=h.trig then D7 h.name else h.name == []) && M5 h.body 1
def U3 (m:Md):Bool:=D7 m.name && decide (0<=m.prio) && decide (m.prio<=2147483647) && decide (m.hds.length<=32) && m.hds.all A0g
def Q1 (r:Ru):Bool:=decide (r.decls.length<=128) && decide (r.modes.length<=16) && r.decls.all A0k && r.modes.all U3
def H3 (t:Tok):Prop:=(t.kind=1->D7 t.text=true)/\(t.kind=3->0<=t.value/\t.value<=2147483647)/\(t.kind=4->S4 t.text=true)
def SE (n:Int) (s:Rd) (e:Ex) (s':Rd):Prop :=
 okR s=true/\s'.par=s.par/\∃ o d,msM e=some (o,d)/\s'.ops=s.ops+(o:Int)/\s'.ops<=32/\((n<=B4 e.kind/\s.par+(d:Int)<=16)\/s.par+(d:Int)+1<=16)
theorem U2 (k:Int):1<=B4 k/\B4 k<=7:=by
 unfold B4;repeat' split
 all_goals omega
theorem B0m {k:Int} (h:B4 k<7):10<=k/\k<=24:=by
 unfold B4 at h;repeat' split at h
 all_goals omega
theorem C5d {k:Int} (h0:0<=k) (h1:k<13):B4 (12+k)<6:=by
 unfold B4;repeat' split
 all_goals omega
theorem A3j {k:Int} (h:k=10\/k=11):B4 k=6:=by
 rcases h with rfl|rfl<;>rfl
theorem C9u {k:Int} {a b:Ex} {o1 d1 o2 d2:Nat} {p:Int} (hk:B4 k<6) (ha:msM a=some (o1,d1)) (hb:msM b=some (o2,d2)) :
  msM (.mk k 0 [] [a,b] p)=some (o1+o2,max (if V7 k a.kind 0=true then d1+1 else d1) (if V7 k b.kind 1=true then d2+1 else d2)):=by
 have hl:=B0m (k:=k) (by omega);have h1:kOk k=true:=by simp [kOk];left;omega
 have h2:J1 k=2:=by unfold J1;rw [if_neg (by omega),if_pos hk]
 have h3:A0i k []=true:=by
  unfold A0i;rw [if_neg]
  ·rfl
  ·simp only [B0i,A1A,A1I];omega
 have h4:A0f k 0=true:=by simp [A0f]
 unfold msM;rw [if_neg (by simp [h1,h2,h3,h4]),h2,if_neg (by omega)];simp only [msL,ha,hb,A2X,A1N,Nat.max_zero,if_neg (show ¬ 2=1 by omega)]
theorem D2m {k:Int} {a:Ex} {o d:Nat} {p:Int} (hk:k=10\/k=11) (ha:msM a=some (o,d)) :
  msM (.mk k 0 [] [a] p)=some (o,(if V7 k a.kind 0=true then d+1 else d)+1):=by
 have hl:=A3j hk;have h1:kOk k=true:=by simp [kOk];left;omega
 have h2:J1 k=1:=by unfold J1;rw [if_pos hl]
 have h3:A0i k []=true:=by
  unfold A0i;rw [if_neg]
  ·rfl
  ·simp only [B0i,A1A,A1I];omega
 have h4:A0f k 0=true:=by simp [A0f]
 unfold msM;rw [if_neg (by simp [h1,h2,h3,h4]),h2,if_neg (by omega)];simp only [msL,ha,A2X,Nat.max_zero,if_true]
theorem C4s {k v:Int} {n:List UInt8} {p:Int} (hk:B4 k=7) (h1:kOk k=true) (h3:A0i k n=true) (h4:A0f k v=true):msM (.mk k v n [] p)=some (1,0):=by
 have h2:J1 k=0:=by unfold J1;rw [if_neg (by omega),if_neg (by omega)]
 unfold msM;rw [if_neg (by simp [h1,h2,h3,h4]),if_pos h2]
section
variable {L:List Tok} {E:Int}
theorem H5 {s:Rd} {t:List UInt8} (h:okR (D6 L E s t)=true):okR s=true:=(A0r (B0q h).1).1
theorem U7 {s:Rd} {k:Int} (h:okR (B2 L E s k).2=true):okR s=true:=(H4 (A2v h).1).1
theorem B5s {s:Rd} (h:okR (I5 L E s).2=true):okR s=true:=by
 unfold I5 at h;dsimp only at h;split at h
 ·rw [Z1] at h;cases h
 ·split at h
  ·rename_i h1;rw [h1] at h;cases h
  ·rename_i h1;have h2:okR (C8 L E { s with ops:=s.ops+1 } (s.ops+1) 32 9)=true:=by simpa using h1
   exact (F9 (by decide) h2).1
theorem B3x (hG:∀ t∈L,H3 t) {s s':Rd} {e:Ex} (h:I5 L E s=(e,s')) (hok:okR s'=true) (hp:s.par<=16):SE 7 s e s':=by
 have hs:okR s=true:=B5s (L:=L) (E:=E) (by rw [h];exact hok);have leaf:∀ (k v:Int) (n:List UInt8) (p:Int),B4 k=7->kOk k=true->A0i k n=true->A0f k v=true->s.ops+1<=32->∀ s2:Rd,s2.par=s.par->s2.ops=s.ops+1->SE 7 s (.mk k v n [] p) s2:=by
  intro k v n p q1 q2 q3 q4 q6 s2 q7 q8;refine ⟨hs,q7,1,0,C4s q1 q2 q3 q4,by rw [q8];rfl,by omega,.inl ⟨?_,by simpa using hp⟩⟩;show 7<=B4 k;omega
 unfold I5 at h;dsimp only at h;split at h
 ·cases h;rw [Z1] at hok;cases hok
 rename_i hc;split at h
 ·rename_i h1;cases h;rw [h1] at hok;cases hok
 rename_i h1;have h2:okR (C8 L E { s with ops:=s.ops+1 } (s.ops+1) 32 9)=true:=by simpa using h1
 obtain ⟨-,h3,h4⟩:=F9 (by decide) h2;rw [h4] at h;split at h
 ·rename_i hk;obtain ⟨-, -, -,hk7⟩:=G3 hk;have hk7:C4 L E s R1<7:=hk7;generalize C4 L E s R1=k at h hk hk7;split at h
  ·rename_i hk4;cases h;obtain ⟨t1,t2⟩:=A2v hok;obtain ⟨t3,t4⟩:=H4 t1;have hn:=(hG _ (I8 (by decide) t4).1).1 t4;rw [t2];have:k=4\/k=5\/k=6:=by omega
   rcases this with rfl|rfl|rfl
   ·exact leaf 5 _ _ _ (by decide) (by decide) hn (by decide) h3 _ rfl rfl
   ·exact leaf 6 _ _ _ (by decide) (by decide) hn (by decide) h3 _ rfl rfl
   ·exact leaf 7 _ _ _ (by decide) (by decide) hn (by decide) h3 _ rfl rfl
  ·rename_i hk4;cases h;have:k=0\/k=1\/k=2\/k=3:=by omega
   rcases this with rfl|rfl|rfl|rfl
   all_goals exact leaf _ _ _ _ (by decide) (by decide) (by decide) (by decide) h3 _ rfl rfl
 ·rename_i hk;split at h
  ·rename_i hk3;cases h;have hn:=(hG _ (I8 (by decide) hk3).1).2.1 hk3;refine leaf 1 _ _ _ (by decide) (by decide) (by decide) ?_ h3 _ rfl rfl;simp only [A0f,A1A,A0G,A1I,A0L];by_cases h0:(B8 L E s).value=0
   ·exact .inl h0
   ·exact .inr ⟨trivial,by omega,hn.2⟩
  ·rename_i hk3;cases h;have h1k:I9 L E s 1=true:=by
    cases hz:I9 L E s 1 with
    | true=>rfl
    | false =>
     refine absurd ⟨by omega,?_,hz⟩ hc;cases hy:I9 L E s 3 with
     | false=>rfl
     | true=>exact absurd (H4 hy).2 hk3
   have hn:=(hG _ (I8 (by decide) (H4 h1k).2).1).1 (H4 h1k).2;exact leaf 2 _ _ _ (by decide) (by decide) hn (by decide) h3 _ rfl rfl
theorem OB.all:∀ f:Nat,(∀ n s r,I0 L E f n s=some r->okR r.2=true->okR s=true)/\(∀ n e s r,N2 L E f n e s=some r->okR r.2=true->okR s=true)/\(∀ s r,Q9 L E f s=some r->okR r.2=true->okR s=true)
 | 0=>⟨fun n s r h=>by simp [I0] at h,fun n e s r h=>by simp [N2] at h,fun s r h=>by simp [Q9] at h⟩
 | f+1=>by
  obtain ⟨i1,i2,i3⟩:=OB.all f;refine ⟨fun n s r h k=>?_,fun n e s r h k=>?_,fun s r h k=>?_⟩
  ·unfold I0 at h;split at h
   ·exact i3 _ _ h k
   ·split at h
    ·cases h
    ·rename_i hb;exact i1 _ _ _ hb (i2 _ _ _ _ h k)
  ·unfold N2 at h;dsimp only at h;split at h
   ·cases h;exact k
   ·rename_i hk;exact (G3 (show 0<=C4 L E s D3 from Classical.byContradiction fun g=>hk (.inl (by omega)))).1
  ·unfold Q9 at h;dsimp only at h;split at h
   ·cases h;exact B5s k
   ·rename_i hk;exact (G3 (show 0<=C4 L E s O3 by omega)).1
theorem SE.weak {m n:Int} {s s':Rd} {e:Ex} (hmn:n<=m) (h:SE m s e s'):SE n s e s':=by
 obtain ⟨h1,h2,o,d,h3,h4,h5,h6⟩:=h;exact ⟨h1,h2,o,d,h3,h4,h5,h6.imp (fun h=>⟨by omega,h.2⟩) id⟩
theorem SE.all (hG:∀ t∈L,H3 t):∀ f:Nat,(∀ n s r,1<=n->n<=6->I0 L E f n s=some r->okR r.2=true->s.par<=16->SE n s r.1 r.2) /\
  (∀ n m e s s0 r,1<=n->n<=5->(m=n+1\/m=n/\n≠3)->N2 L E f n e s=some r->okR r.2=true->SE m s0 e s->s0.par<=16->SE n s0 r.1 r.2) /\
  (∀ s r,Q9 L E f s=some r->okR r.2=true->s.par<=16->SE 6 s r.1 r.2)
 | 0=>⟨fun n s r _ _ h=>by simp [I0] at h,fun n m e s s0 r _ _ _ h=>by simp [N2] at h,fun s r h=>by simp [Q9] at h⟩
 | f+1=>by
  obtain ⟨i1,i2,i3⟩:=SE.all hG f;refine ⟨fun n s r n1 n6 h k hp=>?_,fun n m e s s0 r n1 n5 hm h k he hp=>?_,fun s r h k hp=>?_⟩
  ·unfold I0 at h;split at h
   ·have:=i3 _ _ h k hp;exact this.weak n6
   ·rename_i hn;split at h
    ·cases h
    ·rename_i e s1 hb;have k1:=(OB.all f).2.1 _ _ _ _ h k;have h1:=i1 _ _ _ (by omega) (by omega) hb k1 hp;exact i2 n (n+1) _ _ s _ n1 (by omega) (.inl rfl) h k h1 hp
  ·unfold N2 at h;dsimp only at h;split at h
   ·cases h;exact he.weak (by omega)
   ·rename_i hk;have hk0:0<=C4 L E s D3:=Classical.byContradiction fun g=>hk (.inl (by omega));have hlv:B4 (12+C4 L E s D3)=n:=Classical.byContradiction fun g=>hk (.inr g);split at h
    ·cases h
    ·rename_i x s1 hb;obtain ⟨e1,e2,o1,d1,e3,e4,e5,e6⟩:=he;have step:okR s1=true->SE n s0 (.mk (12+C4 L E s D3) 0 [] [e,x] (B8 L E s).pos) s1:=by
      intro k1;obtain ⟨x1,x2,o2,d2,x3,x4,x5,x6⟩:=i1 _ _ _ (by omega) (by omega) hb k1 (by show s.par<=16;omega);have x2':s1.par=s.par:=x2;have x4':s1.ops=s.ops+(o2:Int):=x4;have x6':((n+1<=B4 x.kind/\s.par+(d2:Int)<=16)\/s.par+(d2:Int)+1<=16):=x6;refine ⟨e1,by omega,_,_,C9u (by omega) e3 x3,by rw [x4',e4];omega,x5,.inl ⟨?_,?_⟩⟩
      ·show n<=B4 (12+C4 L E s D3);omega
      ·have w1:s0.par+((if V7 (12+C4 L E s D3) e.kind 0=true then d1+1 else d1:Nat):Int)<=16:=by
        split
        ·rename_i hw;simp only [V7,A1A,A0G,A0L,A1I,hlv] at hw;omega
        ·omega
       have w2:s0.par+((if V7 (12+C4 L E s D3) x.kind 1=true then d2+1 else d2:Nat):Int)<=16:=by
        split
        ·rename_i hw;simp only [V7,A1A,A0G,A0L,A1I,hlv] at hw;omega
        ·omega
       omega
     split at h
     ·cases h;exact step k
     ·rename_i hn3;have k1:=(OB.all f).2.1 _ _ _ _ h k;exact i2 n n _ _ s0 _ n1 n5 (.inr ⟨rfl,hn3⟩) h k (step k1) hp
  ·unfold Q9 at h;dsimp only at h;split at h
   ·cases h;exact (B3x hG rfl k hp).weak (by decide)
   ·rename_i hk;obtain ⟨hs,hi, -,hk3⟩:=G3 (show 0<=C4 L E s O3 by omega);have hk3:C4 L E s O3<3:=hk3;split at h
    ·rename_i hl;cases h;rw [hl] at k;cases k
    rename_i hl;have hl:okR (C8 L E s (s.par+1) 16 50)=true:=by simpa using hl
    obtain ⟨-,h2,h3⟩:=F9 (by decide) hl;rw [h3] at h;split at h
    ·split at h
     ·cases h
     ·rename_i e s3 hb;cases h;have k3:okR (D6 L E s3 [41])=true:=k;obtain ⟨-,x2⟩:=B0q k3;obtain ⟨e1,e2,o,d,e3,e4,e5,e6⟩:=i1 1 _ _ (by decide) (by decide) hb (H5 k3) (show s.par+1<=16 from h2);have e2':s3.par=s.par+1:=e2;have e4':s3.ops=s.ops+(o:Int):=e4;have e6':((1<=B4 e.kind/\s.par+1+(d:Int)<=16)\/s.par+1+(d:Int)+1<=16):=e6;rw [x2];refine ⟨hs,by show s3.par-1=s.par;omega,o,d,e3,e4',e5,.inr (by omega)⟩
    ·rename_i hk2;split at h
     ·cases h
     ·rename_i e s3 hb;cases h;have k3:okR s3=true:=k;obtain ⟨e1,e2,o,d,e3,e4,e5,e6⟩:=i3 _ _ hb k3 (show s.par+1<=16 from h2);have e2':s3.par=s.par+1:=e2;have e4':s3.ops=s.ops+(o:Int):=e4;have e6':((6<=B4 e.kind/\s.par+1+(d:Int)<=16)\/s.par+1+(d:Int)+1<=16):=e6;have hk10:10+C4 L E s O3=10\/10+C4 L E s O3=11:=by omega
      refine ⟨hs,by show s3.par-1=s.par;omega,o,_,D2m hk10 e3,e4',e5,.inl ⟨?_,?_⟩⟩
      ·show 6<=B4 (10+C4 L E s O3);rw [A3j hk10];decide
      ·split
       ·rename_i hw;simp only [V7,A1A,A0G,A0L,A1I,A3j hk10] at hw;omega
       ·omega
theorem M0 (hG:∀ t∈L,H3 t) {f:Nat} {s:Rd} {r:Ex × Rd} (h:P3 L E f s=some r) (hok:okR r.2=true):okR s=true/\V8 r.1=true:=by
 obtain ⟨h1,h2,o,d,h3,h4,h5,h6⟩:=(SE.all hG f).1 1 _ _ (by decide) (by decide) h hok (by decide:(0:Int)<=16);refine ⟨h1,?_⟩;have h4':r.2.ops=0+(o:Int):=h4;have h6':((1<=B4 r.1.kind/\0+(d:Int)<=16)\/0+(d:Int)+1<=16):=h6;unfold V8;rw [h3];simp only [A0G,A0L];omega
end
end Go.Pb
namespace Go.Pb
variable [Go.Sym.Tab]
open Go.Sym
section
variable {L:List Tok} {E:Int}
theorem N9 (hG:∀ t∈L,H3 t) {s:Rd} (h:okR (B2 L E s 1).2=true):D7 (B2 L E s 1).1.text=true:=by
 obtain ⟨h1,h2⟩:=A2v h;rw [h2];exact (hG _ (I8 (by decide) (H4 h1).2).1).1 (H4 h1).2
theorem B1f (hG:∀ t∈L,H3 t) {s:Rd} (h:okR (B2 L E s 3).2=true):0<=(B2 L E s 3).1.value/\(B2 L E s 3).1.value<=2147483647:=by
 obtain ⟨h1,h2⟩:=A2v h;rw [h2];exact (hG _ (I8 (by decide) (H4 h1).2).1).2.1 (H4 h1).2
theorem B9a (hG:∀ t∈L,H3 t) {s:Rd} (h:okR (B2 L E s 4).2=true):S4 (B2 L E s 4).1.text=true:=by
 obtain ⟨h1,h2⟩:=A2v h;rw [h2];exact (hG _ (I8 (by decide) (H4 h1).2).1).2.2 (H4 h1).2
theorem Z0 {d:Nat} {k p:Int} {n t:List UInt8} {a:List Ex} (h1:1<=k) (h2:k<=19) (h3:a.length=(L5 k).args) (h4:a.all V8=true)
  (h5:(if (L5 k).name=true then D7 n else n == [])=true) (h6:(if (L5 k).text=true then S4 t else t == [])=true):Q2 d (.mk k n t a [] [] p)=true:=by
 unfold Q2;simp only [A0G,A0L,A1I];exact ⟨⟨⟨⟨⟨h1,h2⟩,h3,h4⟩,h5,h6⟩,by simp⟩,by simp [G4]⟩
theorem B3j (hG:∀ t∈L,H3 t) {f:Nat} {k p:Int} {s:Rd} {r:St × Rd} (d:Nat) (hk4:4<=k) (hk:k<=19) (h:L4 L E f k p s=some r) (hok:okR r.2=true):okR s=true/\Q2 d r.1=true:=by
 unfold L4 at h;dsimp only at h;split at h
 ·rename_i hk;subst hk;split at h
  ·cases h
  ·rename_i e s1 he;cases h;obtain ⟨h1,h2⟩:=M0 hG he (H5 hok);exact ⟨h1,Z0 (by decide) (by decide) rfl (by simp [h2]) rfl rfl⟩
 split at h
 ·rename_i hk;subst hk;split at h
  ·cases h
  ·rename_i e s1 he;cases h;obtain ⟨h1,h2⟩:=M0 hG he (H5 hok);have h3:=H5 h1;exact ⟨U7 h3,Z0 (by decide) (by decide) rfl (by simp [h2]) rfl (B9a hG h3)⟩
 split at h
 ·rename_i hk;subst hk;cases h;exact ⟨H5 hok,Z0 (by decide) (by decide) rfl rfl rfl rfl⟩
 rename_i n4 n18 n19;split at h
 ·rename_i hk;split at h
  ·cases h
  ·rename_i e s1 he;split at h
   ·rename_i hk9;subst hk9;split at h
    ·cases h
    ·rename_i e2 s2 he2;cases h;obtain ⟨h1,h2⟩:=M0 hG he2 (H5 hok);obtain ⟨h3,h4⟩:=M0 hG he (H5 h1);exact ⟨U7 h3,Z0 (by decide) (by decide) rfl (by simp [h2,h4]) (N9 hG h3) rfl⟩
   ·rename_i hk9;cases h;obtain ⟨h1,h2⟩:=M0 hG he (H5 hok);have:k=8\/k=10:=by omega
    rcases this with rfl|rfl
    all_goals exact ⟨U7 h1,Z0 (by decide) (by decide) rfl (by simp [h2]) (N9 hG h1) rfl⟩
 ·rename_i hk8;cases h;have h1:=H5 hok;have hs:L5 k=⟨true,false,0,false,false⟩:=by
   unfold L5;rw [if_neg (by omega),if_neg (by omega),if_neg (by omega),if_neg (by omega),if_neg (by omega),if_neg (by omega),if_neg (by omega)]
  exact ⟨U7 h1,Z0 (by omega) hk (by rw [hs];rfl) rfl (by rw [hs];exact N9 hG h1) (by rw [hs];rfl)⟩
theorem A6k {d:Nat}:∀ {l:List St} {x:St},G4 d (l++[x])=(G4 d l && Q2 d x)
 | [],x=>by simp [G4]
 | a :: l,x=>by rw [List.cons_append,G4,G4,A6k,Bool.and_assoc]
theorem B0y {d:Nat} {k p:Int} {e:Ex} {t o:List St} (hk:k=2\/k=3) (he:V8 e=true) (ht:M5 t (d+1)=true) (ho:M5 o (d+1)=true) (h3:k=3->o=[]):Q2 d (.mk k [] [] [e] t o p)=true:=by
 unfold M5 at ht ho;unfold Q2;rcases hk with rfl|rfl
 ·simp only [L5];simp [he,ht,ho];simpa using And.intro ht ho
 ·obtain rfl:=h3 rfl;simp only [L5];simp [he,G4];simpa using ht
theorem SS.all (hG:∀ t∈L,H3 t):∀ f:Nat,(∀ (d:Nat) s r,L1 L E f d s=some r->okR r.2=true->okR s=true/\M5 r.1 d=true) /\
  (∀ (d:Nat) l s r,O1 L E f d l s=some r->okR r.2=true->okR s=true/\(G4 d l=true->l.length<=64->(l=[]\/d<=8)->M5 r.1 d=true)) /\
  (∀ (d:Nat) s r,Q4 L E f d s=some r->okR r.2=true->okR s=true/\d<=8/\Q2 d r.1=true) /\
  (∀ (d:Nat) s r,O7 L E f d s=some r->okR r.2=true->okR s=true/\M5 r.1 (d+1)=true)
 | 0=>⟨fun d s r h=>by simp [L1] at h,fun d l s r h=>by simp [O1] at h,fun d s r h=>by simp [Q4] at h,fun d s r h=>by simp [O7] at h⟩
 | f+1=>by
  obtain ⟨i1,i2,i3,i4⟩:=SS.all hG f;have hd1:∀ d:Nat,(d:Int)+1=((d+1:Nat):Int):=fun d=>by omega
  refine ⟨fun d s r h k=>?_,fun d l s r h k=>?_,fun d s r h k=>?_,fun d s r h k=>?_⟩
  ·unfold L1 at h;obtain ⟨h1,h2⟩:=i2 _ _ _ _ h k;exact ⟨H5 h1,h2 rfl (by simp) (.inl rfl)⟩
  ·unfold O1 at h;split at h
   ·rename_i hc;refine ⟨hc.1,fun h1 h2 h3=>?_⟩;split at h
    ·cases h;rw [Z1] at k;cases k
    ·split at h
     ·cases h
     ·rename_i x s1 he;obtain ⟨h4,h5⟩:=i2 _ _ _ _ h k;obtain ⟨h6,h7,h8⟩:=i3 _ _ _ he h4;obtain ⟨-,h9, -⟩:=F9 (by decide) h6;exact h5 (by rw [A6k,h1,h8];rfl) (by simp only [A0A,A0H];omega) (.inr h7)
   ·cases h;refine ⟨H5 k,fun h1 h2 h3=>?_⟩;unfold M5;simp only [A0G,A1A,A0L];exact ⟨⟨h2,h3.imp (fun h=>by rw [h];rfl) id⟩,h1⟩
  ·unfold Q4 at h;dsimp only at h;split at h
   ·rename_i hl;cases h;rw [hl] at k;cases k
   rename_i hl;have hl:okR (C8 L E s d 8 50)=true:=by simpa using hl
   obtain ⟨hs,hd,hle⟩:=F9 (by decide) hl;rw [hle] at h;refine ⟨hs,by omega,?_⟩;split at h
   ·split at h
    ·cases h
    ·rename_i e s1 he;cases h;obtain ⟨h1,h2⟩:=M0 hG he (H5 k);exact Z0 (by decide) (by decide) rfl (by simp [h2]) (N9 hG (H5 h1)) rfl
   ·rename_i hk;obtain ⟨-,hi, -,hk18⟩:=G3 (show 0<=C4 L E s C3 by omega);have hk18:C4 L E s C3<18:=hk18;generalize C4 L E s C3=q at h hk hk18;split at h
    ·rename_i hq;split at h
     ·cases h
     ·rename_i e s2 he;split at h
      ·cases h
      ·rename_i t s3 ht;rw [hd1] at ht;split at h
       ·rename_i hc;split at h
        ·cases h
        ·rename_i o s4 ho;cases h;obtain ⟨o1,o2⟩:=i4 _ _ _ ho k;obtain ⟨t1,t2⟩:=i1 _ _ _ ht (show okR s3=true from o1);obtain ⟨e1,e2⟩:=M0 hG he t1;exact B0y (.inl rfl) e2 t2 o2 (fun h=>absurd h (by decide))
       ·cases h;obtain ⟨t1,t2⟩:=i1 _ _ _ ht k;obtain ⟨e1,e2⟩:=M0 hG he t1;exact B0y (by omega) e2 t2 (by simp [M5,G4]) (fun _=>rfl)
    ·rename_i hq;exact (B3j hG d (by omega) (by omega) h k).2
  ·unfold O7 at h;rw [hd1] at h;split at h
   ·split at h
    ·cases h
    ·rename_i x s1 he;cases h;obtain ⟨h1,h2,h3⟩:=i3 _ _ _ he k;refine ⟨h1,?_⟩;unfold M5;simp only [A0G,A1A,A0L];exact ⟨⟨by simp,.inr h2⟩,by rw [G4,G4,h3];rfl⟩
   ·exact i1 _ _ _ h k
theorem B8g (hG:∀ t∈L,H3 t) {k:Int} {s:Rd} (h0:0<=k) (h8:k<8) (h:okR (R3 L E k s).2=true):A0k (R3 L E k s).1=true:=by
 have key:∀ d:Dc,1<=d.kind->d.kind<=8->D7 d.name=true->(if d.kind=6 then -2147483647 else 0)<=d.value->d.value<=(if d.kind=7\/d.kind=8 then 0 else 2147483647)->A0k d=true:=by
  intro d a1 a2 a3 a4 a5;simp only [A0k,A0G,A0L];exact ⟨⟨⟨⟨a1,a2⟩,a3⟩,a4⟩,a5⟩
 unfold R3 at h ⊢;dsimp only at h ⊢;split at h
 ·rename_i hk;rw [if_pos hk];have h1:=H5 h;obtain ⟨n0,n1⟩:=B1f hG h1;have h2:=U7 h1;have h3:okR (B2 L E (B1 s) 1).2=true:=by
   split at h2
   ·exact h2
   ·exact h2
  refine key _ (by dsimp only;omega) (by dsimp only;omega) (N9 hG h3) ?_ ?_
  ·dsimp only;generalize (B2 L E (if (k+1 == 6 && isR L E (B2 L E (B1 s) 1).2 [45])=true then B1 (B2 L E (B1 s) 1).2 else (B2 L E (B1 s) 1).2) 3).1.value=w at n0 n1 ⊢;by_cases h6:k+1=6
   ·rw [if_pos (by omega)];split<;>omega
   ·rw [if_neg (by omega),if_neg (by simp [h6])];exact n0
  ·dsimp only;generalize (B2 L E (if (k+1 == 6 && isR L E (B2 L E (B1 s) 1).2 [45])=true then B1 (B2 L E (B1 s) 1).2 else (B2 L E (B1 s) 1).2) 3).1.value=w at n0 n1 ⊢;rw [if_neg (by omega:¬ (1+k=7\/1+k=8))];split<;>omega
 ·rename_i hk;rw [if_neg hk];have h3:=H5 h;refine key _ (by dsimp only;omega) (by dsimp only;omega) (N9 hG h3) ?_ ?_
  ·dsimp only;rw [if_neg (by omega)];decide
  ·dsimp only;split<;>decide
theorem A8x (hG:∀ t∈L,H3 t):∀ (f:Nat) (l:List Hd) (s:Rd) (r:List Hd × Rd),U9 L E f l s=some r->okR r.2=true->okR s=true/\(l.length<=32->l.all A0g=true->r.1.length<=32/\r.1.all A0g=true)
 | 0,l,s,r,h,_=>by simp [U9] at h
 | f+1,l,s,r,h,k=>by
  unfold U9 at h;dsimp only at h;split at h
  ·rename_i hc;refine ⟨hc.1,fun h1 h2=>?_⟩;split at h
   ·cases h;rw [Z1] at k;cases k
   split at h
   ·cases h;rw [Z1] at k;cases k
   rename_i hk;obtain ⟨hok2,hi2, -,hk6⟩:=G3 (show 0<=C4 L E (D6 L E (C8 L E s ((l.length:Int)+1) 32 9) [111,110]) E6 by omega);have hk6:C4 L E (D6 L E (C8 L E s ((l.length:Int)+1) 32 9) [111,110]) E6<6:=hk6;obtain ⟨-,hll, -⟩:=F9 (by decide) (H5 hok2);generalize C4 L E (D6 L E (C8 L E s ((l.length:Int)+1) 32 9) [111,110]) E6=q at h hk hk6;split at h
   ·cases h
   ·rename_i b s5 hb;obtain ⟨m1,m2⟩:=A8x hG f _ _ _ h k;obtain ⟨b1,b2⟩:=(SS.all hG f).1 1 _ _ hb m1;refine m2 (by simp only [A0A,A0H];omega) ?_;rw [A3L,h2,A1P];simp only [A2M,List.all_nil,A2E,A0g,A0G,A0L];refine ⟨⟨⟨by omega,by omega⟩,?_⟩,b2⟩;by_cases hq:2<=q
    ·rw [if_pos (by omega),if_pos hq];rw [if_pos hq] at b1;exact N9 hG b1
    ·rw [if_neg (by omega),if_neg hq];rfl
  ·cases h;exact ⟨H5 k,fun h1 h2=>⟨h1,h2⟩⟩
theorem B7o (hG:∀ t∈L,H3 t) {f:Nat} {s:Rd} {r:Md × Rd} (h:A3g L E f s=some r) (k:okR r.2=true):okR s=true/\U3 r.1=true:=by
 unfold A3g at h;dsimp only at h;split at h
 ·cases h
 ·rename_i l s3 hm;cases h;obtain ⟨m1,m2⟩:=A8x hG _ _ _ _ hm k;obtain ⟨m3,m4⟩:=m2 (by simp) rfl;have h1:=H5 m1;have h2:=U7 h1;obtain ⟨n0,n1⟩:=B1f hG h1;refine ⟨H5 (U7 h2),?_⟩;simp only [U3,A0G,A0L];exact ⟨⟨⟨⟨N9 hG h2,n0⟩,n1⟩,m3⟩,m4⟩
theorem A4d (hG:∀ t∈L,H3 t):∀ (f:Nat) (l:List Dc) (s:Rd) (r:List Dc × Rd),T2 L E f l s=some r->okR r.2=true->okR s=true/\(l.length<=128->l.all A0k=true->r.1.length<=128/\r.1.all A0k=true)
 | 0,l,s,r,h,_=>by simp [T2] at h
 | f+1,l,s,r,h,k=>by
  unfold T2 at h;dsimp only at h;split at h
  ·cases h;exact ⟨k,fun h1 h2=>⟨h1,h2⟩⟩
  ·rename_i hk;obtain ⟨hs,hi, -,hk8⟩:=G3 (show 0<=C4 L E s E1 by omega);have hk8:C4 L E s E1<8:=hk8;refine ⟨hs,fun h1 h2=>?_⟩;split at h
   ·rename_i hl;obtain ⟨-,hll,hle⟩:=F9 (by decide) hl;obtain ⟨m1,m2⟩:=A4d hG f _ _ _ h k;exact m2 (by simp only [A0A,A0H];omega) (by rw [A3L,h2,A1P,A2M,B8g hG (by omega) hk8 m1];rfl)
   ·rename_i hl;obtain ⟨m1,m2⟩:=A4d hG f _ _ _ h k;exact absurd m1 hl
theorem A4c (hG:∀ t∈L,H3 t):∀ (f:Nat) (l:List Md) (s:Rd) (r:List Md × Rd),R9 L E f l s=some r->okR r.2=true->okR s=true/\(l.length<=16->l.all U3=true->r.1.length<=16/\r.1.all U3=true)
 | 0,l,s,r,h,_=>by simp [R9] at h
 | f+1,l,s,r,h,k=>by
  unfold R9 at h;dsimp only at h;split at h
  ·rename_i hc;refine ⟨hc.1,fun h1 h2=>?_⟩;split at h
   ·cases h;rw [Z1] at k;cases k
   split at h
   ·rename_i hl;split at h
    ·cases h
    ·rename_i m s2 hm;obtain ⟨m1,m2⟩:=A4c hG f _ _ _ h k;obtain ⟨q1,q2⟩:=B7o hG hm m1;obtain ⟨-,hll,hle⟩:=F9 (by decide) hl;exact m2 (by simp only [A0A,A0H];omega) (by rw [A3L,h2,A1P,A2M,q2];rfl)
   ·rename_i hl;obtain ⟨m1,m2⟩:=A4c hG f _ _ _ h k;exact absurd m1 hl
  ·cases h;exact ⟨k,fun h1 h2=>⟨h1,h2⟩⟩
theorem B7f (hG:∀ t∈L,H3 t) {f:Nat} {s:Rd} {r:Ru × Rd} (h:A4a L E f s=some r) (k:okR r.2=true):Q1 r.1=true:=by
 unfold A4a at h;split at h
 ·cases h
 ·rename_i d s1 hd;split at h
  ·cases h
  ·rename_i m s2 hm;cases h;obtain ⟨m1,m2⟩:=A4c hG _ _ _ _ hm k;obtain ⟨m3,m4⟩:=m2 (by simp) rfl;obtain ⟨d1,d2⟩:=A4d hG _ _ _ _ hd m1;obtain ⟨d3,d4⟩:=d2 (by simp) rfl;simp only [Q1,A0G,A0L];exact ⟨⟨⟨d3,m3⟩,d4⟩,m4⟩
end
end Go.Pb
namespace Go.Pb
variable [Go.Sym.Tab]
open Go.Sym
theorem A8m {p:UInt8->Bool}:∀ (s:List UInt8),D0 p (s.take (D0 p s))=D0 p s
 | []=>rfl
 | c :: r=>by
  have ih:=A8m (p:=p) r;by_cases h:p c=true
  ·simp only [D0,h,if_true,A0U];rw [ih]
  ·simp only [D0,h,if_false,A2G,A1J]
theorem A9z:∀ {s t:List UInt8} {n:Nat},quM s=some (t,n)->t.all txB=true
 | [],t,n,h=>by simp [quM] at h
 | c :: r,t,n,h=>by
  rw [S0] at h;split at h
  ·cases h;rfl
  ·split at h
   ·cases h
   ·rename_i h34 hr;split at h
    ·cases r with
     | nil=>cases h
     | cons d q =>
      simp only at h;split at h
      ·rename_i hd;obtain ⟨⟨t',n'⟩,h1,h2⟩:=A0Q.1 h;have:=A9z h1;cases h2;simp only [A2M,this,A2E,txB,A0G,A0L];omega
      ·cases h
    ·obtain ⟨⟨t',n'⟩,h1,h2⟩:=A0Q.1 h;have:=A9z h1;cases h2;simp only [A2M,this,A2E,txB,A0G,A0L];omega
theorem B4d {s:List UInt8} {p:Int} (h:(B6 s).err=0):H3 (nxT (B6 s) p)/\0<=(B6 s).value/\(B6 s).value<=2147483647:=by
 unfold H3;cases s with
 | nil=>simp [B6,nxE] at h
 | cons c q =>
  by_cases hl:ltB c=true
  ·by_cases h12:12<D0 ptB (c :: q)
   ·rw [B6,if_pos hl,if_pos h12] at h;simp [nxE] at h
   ·rw [B6,if_pos hl,if_neg h12,nxT];refine ⟨⟨fun hk=>?_,fun hk=>?_,fun hk=>?_⟩,by simp,by simp⟩
    ·simp only at hk ⊢;have hw:G7 ((c :: q).take (D0 ptB (c :: q)))=false:=by
      cases hz:G7 ((c :: q).take (D0 ptB (c :: q))) with
      | false=>rfl
      | true=>rw [hz] at hk;simp at hk
     have hp:ptB c=true:=by unfold ptB;rw [hl];rfl
     have h1:1<=D0 ptB (c :: q):=by simp only [D0,hp,if_true];omega
     have hle:=T5 ptB (c :: q);have hlen:((c :: q).take (D0 ptB (c :: q))).length=D0 ptB (c :: q):=by rw [A0S];omega
     have hhd:∃ r,(c :: q).take (D0 ptB (c :: q))=c :: r:=by
      obtain ⟨k,hk⟩:∃ k,D0 ptB (c :: q)=k+1:=⟨D0 ptB (c :: q)-1,by omega⟩;rw [hk];exact ⟨_,rfl⟩
     unfold D7;rw [hlen,hw,A8m];obtain ⟨r,hr⟩:=hhd;rw [hr];simp only [hl,A2E,Bool.not_false,A0G,A0L];exact ⟨⟨h1,by omega⟩,trivial⟩
    ·simp only at hk;split at hk<;>simp at hk
    ·simp only at hk;split at hk<;>simp at hk
  ·by_cases hd:dgB c=true
   ·by_cases h3:1<D0 dgB (c :: q)/\c.toNat=48
    ·rw [B6,if_neg hl,if_pos hd,if_pos h3] at h;simp [nxE] at h
    ·by_cases h2:2147483647<O4 ((c :: q).take (D0 dgB (c :: q)))
     ·rw [B6,if_neg hl,if_pos hd,if_neg h3,if_pos h2] at h;simp [nxE] at h
     ·rw [B6,if_neg hl,if_pos hd,if_neg h3,if_neg h2,nxT];refine ⟨⟨fun hk=>by simp at hk,fun hk=>?_,fun hk=>by simp at hk⟩,?_⟩
      ·simp only;omega
      ·simp only;omega
   ·by_cases h34:c.toNat=34
    ·cases hq:quM q with
     | none=>rw [B6,if_neg hl,if_neg hd,if_pos h34,hq] at h;simp [nxE] at h
     | some x =>
      obtain ⟨t,m⟩:=x;by_cases h32:32<t.length
      ·rw [B6,if_neg hl,if_neg hd,if_pos h34,hq] at h;simp only at h;rw [if_pos h32] at h;simp [nxE] at h
      ·rw [B6,if_neg hl,if_neg hd,if_pos h34,hq];simp only;rw [if_neg h32,nxT];refine ⟨⟨fun hk=>by simp at hk,fun hk=>by simp at hk,fun hk=>?_⟩,by simp,by simp⟩;simp only [S4,A9z hq,A1P,A0L];omega
    ·by_cases hs:J7 (c :: q)=0
     ·rw [B6,if_neg hl,if_neg hd,if_neg h34,if_pos hs] at h;simp [nxE] at h
     ·rw [B6,if_neg hl,if_neg hd,if_neg h34,if_neg hs,nxT];exact ⟨⟨fun hk=>by simp at hk,fun hk=>by simp at hk,fun hk=>by simp at hk⟩,by simp,by simp⟩
theorem TOk.good {t:Tok} (h:TOk t):H3 t/\0<=t.value/\t.value<=2147483647:=by
 obtain ⟨s,p,h1,rfl⟩:=h;obtain ⟨h2,h3⟩:=B4d (p:=p) h1;exact ⟨h2,h3⟩
theorem B3p {s:List UInt8} (h:(F4 s).2.2=0):∀ t∈(F4 s).1,H3 t:=fun t ht=>(A9v h t ht).good.1
theorem B9s {s:List UInt8} (h:(F4 s).2.2=0):∀ t∈(F4 s).1,0<=t.value/\t.value<=9223372036854775807:=fun t ht=>by
 have:=(A9v h t ht).good.2;omega
theorem B5l {s:List UInt8} (h:(F4 s).2.2=0):(F4 s).1.length<=20000:=A1G (B7e s) (A0o h).1
def rd0:Rd:=⟨0,0,0,0,0⟩
def X0 (L:List Tok) (E:Int):Ru × Rd:=Classical.choose (B5m (L:=L) (E:=E) rd0)
theorem A4b (L:List Tok) (E:Int):Evt (fun f=>A4a L E f rd0) (X0 L E):=Classical.choose_spec (B5m (L:=L) (E:=E) rd0)
def Ru0:Ru:=⟨[],[]⟩
def X2 (s:List UInt8):Ru × Int × Int :=
 let q:=F4 s
 if q.2.2≠0 then (Ru0,q.2.1,q.2.2)
 else if okR (X0 q.1 s.length).2=false then (Ru0,(X0 q.1 s.length).2.pos,(X0 q.1 s.length).2.e)
 else ((X0 q.1 s.length).1,0,0)
abbrev C0k (q:Ru × Int × Int):DV:=.tup [q.1.v,I64 q.2.1,I64 q.2.2]
theorem C4j (q:Ru × Int × Int):(C0k q).nl=true:=by
 simp only [DV.nl,DV.nlL,Ru.nl,G6,G5,A2E]
end Go.Pb
namespace Go.Proofs.YtnmkkggfgdfmeaaGreatDoor
open Go.Eng (IC IOper DReg IFn A7)
open Go.Sym Go.Pb
theorem C0h {H:Hp} {a b:DV}:∃ H2,GL H [.tup [.agg [.snil,.snil],a,b]] H2 [.tup [.agg [.lst [],.lst []],a,b]] :=
 ⟨H,GL.view fun ρ vs hA=>P8 (fun v h=>by
  obtain ⟨b',rfl,k1,k2⟩:=h.tup_inv;refine .tup _ _ k1 fun i x y hx hy=>?_
  match i with
  | 0 =>
   cases hx;obtain ⟨c',rfl,m1,m2⟩:=(k2 0 _ y rfl hy).agg_inv;refine .agg _ _ m1 fun j x z hx hz=>?_
   match j with
   | 0=>cases hx;exact (m2 0 _ z rfl hz).snil_lst
   | 1=>cases hx;exact (m2 1 _ z rfl hz).snil_lst
   | _+2=>cases hx
  | 1=>cases hx;exact k2 1 _ y rfl hy
  | 2=>cases hx;exact k2 2 _ y rfl hy
  | _+3=>cases hx) vs hA⟩
theorem c_Parse (s:List UInt8) (hs:s.length<=1000000000):PC Tryz.prog 15 [.str s] (C0k (X2 s)):=by
 refine PC.of A9 isU15 (A0B rfl) rfl (C4j _) ?_;show IW Tryz.prog 41 u15_1 ⟨B7 _,_,_⟩ (rt [.cell 2 2 true,.tmp 3,.tmp 4] _);have hsc:=c_ScanR s hs;have hpar:X2 s=X2 s:=rfl;by_cases h0:(F4 s).2.2=0
 ·have hd:((F4 s).2.2 != 0)=false:=by simpa using h0
  repeat' ((with_reducible first|apply wr|refine cpc hsc ?_|fail)<;>try simp only [go_sem,seval,hd])
  obtain ⟨f,hf⟩:=(A4b (F4 s).1 s.length).get;refine AC.call (c_rules (F4 s).1 s.length (by have:=B5l h0;omega) (B9s h0) f rd0 _ hf (A0N _) _ _ 1 rfl (by decide)) ?_;rintro v H' c2 ⟨rfl,rfl⟩ hc2;have hM:X2 s=if okR (X0 (F4 s).1 s.length).2=false then (Ru0,(X0 (F4 s).1 s.length).2.pos,(X0 (F4 s).1 s.length).2.e) else ((X0 (F4 s).1 s.length).1,0,0):=by
   unfold X2;dsimp only;rw [if_neg (by simpa using h0)]
  rw [hM];generalize X0 (F4 s).1 s.length=w;clear hM hpar hf;have ne0:=T8 0 1 c2 (by omega);simp only [go_sem,seval,ne0,A0,A1];repeat' ((with_reducible apply wr)<;>try simp only [go_sem,seval,ne0,A0,A1])
  refine AC.call (c_rdok (F4 s).1 s.length w.2 _ _ 1 (by rw [A2 (by omega)];exact A0) (by omega)) ?_;rintro v H' c3 ⟨rfl,rfl⟩ hc3;cases hok:okR w.2 with
  | true =>
   rw [if_neg (by decide)];simp only [go_sem,seval,hok,ne0,A0,A1];repeat' ((with_reducible apply wr)<;>try simp only [go_sem,seval,hok,ne0,A0,A1])
   rw [E7 (v:=C0k (w.1,0,0)) rfl];exact ⟨_,GL.refl _ _⟩
  | false =>
   rw [if_pos rfl];simp only [go_sem,seval,hok,ne0,A0,A1];repeat' ((with_reducible apply wr)<;>try simp only [go_sem,seval,hok,ne0,A0,A1])
   repeat refine ⟨by and_intros<;>(repeat rw [A2 (by omega)])<;>rfl,?_⟩
   repeat' ((with_reducible apply wr)<;>try simp only [go_sem,seval,hok,ne0,A0,A1])
   rw [E7 (v:=.tup [.agg [.snil,.snil],I64 w.2.pos,I64 w.2.e]) rfl];exact C0h
 ·have hd:((F4 s).2.2 != 0)=true:=by simpa using h0
  have hM:X2 s=(Ru0,(F4 s).2.1,(F4 s).2.2):=by
   unfold X2;dsimp only;rw [if_pos h0]
  rw [hM];repeat' ((with_reducible first|apply wr|refine cpc hsc ?_|fail)<;>try simp only [go_sem,seval,hd])
  rw [E7 (v:=.tup [.agg [.snil,.snil],I64 (F4 s).2.1,I64 (F4 s).2.2]) rfl];exact C0h
open Go.Sym
abbrev u132_8:=qK .skip (.exit 0) (.t 9) [0,3,4,9]
abbrev u132_7:=qS [oM 6 4,oM 7 0,oH 8 7,oB 9 6 8 .lss] u132_8 [0,3,4]
abbrev u132_14:=qE [oF 22 5 0,⟨none,.eff (.st 1 (.t 22) (.k (.int .i64 2))),none⟩] [0,3,4,5]
abbrev u132_17:=qE [oF 28 5 0,⟨none,.eff (.st 1 (.t 28) (.k (.int .i64 1))),none⟩] [0,3,4,5]
abbrev u132_16:=qK u132_17 .skip (.t 27) [0,3,4,5,27]
abbrev u132_15:=qS [oM 23 0,oM 24 4,oA 25 23 24 1,oL 26 25,oC 27 152 [.t 26]] u132_16 [0,3,4,5]
abbrev u132_13:=qK u132_14 u132_15 (.t 21) [0,3,4,5,21]
abbrev u132_12:=qS [oM 17 0,oM 18 4,oA 19 17 18 1,oL 20 19,oC 21 140 [.t 20]] u132_13 [0,3,4,5]
abbrev u132_18:=qE [oM 29 3,oD 30 5 4,⟨some 31,.new (.bsl 4 1 #[.int .i64 0,.string ⟨#[]⟩,.int .i64 0,.int .i64 0] [(0,.t 30)]),none⟩,oT 32 29 31 4 40,oM 3 32] [0,3,4,5]
abbrev u132_11:=qQ u132_12 u132_18 [0,3,4,5]
abbrev u132_10:=qS [oM 12 0,oM 13 4,oA 14 12 13 1,oL 15 14,oP 16 (.bld #[.int .i64 0,.string ⟨#[]⟩,.int .i64 0,.int .i64 0] [(0,1),(1,1),(2,1),(3,1)] [(0,.k (.int .i64 5)),(1,.t 15)]),oW 5 (.agg #[.int .i64 0,.string ⟨#[]⟩,.int .i64 0,.int .i64 0]),oS 5 16 4] u132_11 [0,3,4]
abbrev u132_19:=qE [oM 10 4,oK 11 10 .add 1,oM 4 11] [0,3,4]
abbrev u132_9:=qB u132_10 u132_19 1 [0,3,4]
abbrev u132_6:=qQ u132_7 u132_9 [0,3,4]
abbrev u132_5:=qJ (.loop u132_6) 0 [0,3,4]
abbrev u132_4:=qS [oI 4 0] u132_5 [0,3]
abbrev u132_20:=qS [oM 33 3,oM 2 33] .ret [3]
abbrev u132_3:=qQ u132_4 u132_20 [0,3]
abbrev u132_2:=qS [oV 3 (.slice none 0 0)] u132_3 [0]
abbrev u132_1:=qS [oV 2 (.slice none 0 0)] u132_2 [0]
def u132:IFn:=⟨34,u132_1,[.tmp 2]⟩
theorem isU132:A7 Tryz.prog 132 u132:=by unfold A7;kernel_rfl
abbrev u133_5:=qS [oP 6 (.bld #[.int .i64 0,.string ⟨#[]⟩,.int .i64 0,.int .i64 0] [(0,1),(1,1),(2,1),(3,1)] []),⟨some 7,.new (.bsl 4 1 #[.int .i64 0,.string ⟨#[]⟩,.int .i64 0,.int .i64 0] [(0,.t 6)]),none⟩,oM 2 7] .ret []
abbrev u133_4:=qK u133_5 .skip (.t 5) [0,5]
abbrev u133_3:=qS [oM 3 0,oC 4 152 [.t 3],oY 5 4] u133_4 [0]
abbrev u133_6:=qS [oM 8 0,oP 9 (.bld #[.int .i64 0,.string ⟨#[]⟩,.int .i64 0,.int .i64 0] [(0,1),(1,1),(2,1),(3,1)] [(0,.k (.int .i64 1)),(1,.t 8)]),⟨some 10,.new (.bsl 4 1 #[.int .i64 0,.string ⟨#[]⟩,.int .i64 0,.int .i64 0] [(0,.t 9)]),none⟩,oM 2 10] .ret [0]
abbrev u133_2:=qQ u133_3 u133_6 [0]
abbrev u133_1:=qS [oV 2 (.slice none 0 0)] u133_2 [0]
def u133:IFn:=⟨11,u133_1,[.tmp 2]⟩
theorem isU133:A7 Tryz.prog 133 u133:=by unfold A7;kernel_rfl
abbrev u134_5:=qS [oP 9 (.bld #[.int .i64 0,.string ⟨#[]⟩,.int .i64 0,.int .i64 0] [(0,1),(1,1),(2,1),(3,1)] []),⟨some 10,.new (.bsl 4 1 #[.int .i64 0,.string ⟨#[]⟩,.int .i64 0,.int .i64 0] [(0,.t 9)]),none⟩,oM 2 10] .ret []
abbrev u134_4:=qK u134_5 .skip (.t 8) [0,8]
abbrev u134_3:=qS [oM 3 0,oK 4 3 .lss 0,oM 5 4,hM 6 0 5,hK 7 6 5 .gtr 2147483647,oO 8 5 7] u134_4 [0]
abbrev u134_6:=qS [oM 11 0,oP 12 (.bld #[.int .i64 0,.string ⟨#[]⟩,.int .i64 0,.int .i64 0] [(0,1),(1,1),(2,1),(3,1)] [(0,.k (.int .i64 3)),(2,.t 11)]),⟨some 13,.new (.bsl 4 1 #[.int .i64 0,.string ⟨#[]⟩,.int .i64 0,.int .i64 0] [(0,.t 12)]),none⟩,oM 2 13] .ret [0]
abbrev u134_2:=qQ u134_3 u134_6 [0]
abbrev u134_1:=qS [oV 2 (.slice none 0 0)] u134_2 [0]
def u134:IFn:=⟨14,u134_1,[.tmp 2]⟩
theorem isU134:A7 Tryz.prog 134 u134:=by unfold A7;kernel_rfl
abbrev u164_7:=qK .skip (.exit 0) (.t 7) [0,3,7]
abbrev u164_6:=qS [oM 4 3,oM 5 0,oP 6 (.lens (.t 5)),oB 7 4 6 .lss] u164_7 [0,3]
abbrev u164_11:=qS [oP 20 (.bld #[.int .i64 0,.string ⟨#[]⟩,.int .i64 0,.int .i64 0] [(0,1),(1,1),(2,1),(3,1)] []),⟨some 21,.new (.bsl 4 1 #[.int .i64 0,.string ⟨#[]⟩,.int .i64 0,.int .i64 0] [(0,.t 20)]),none⟩,oM 2 21] .ret []
abbrev u164_10:=qK u164_11 .skip (.t 19) [0,3,19]
abbrev u164_9:=qS [oM 10 0,oM 11 3,oP 12 (.idx (.t 10) (.t 11)),oP 13 (.bin .lss (.t 12) (.k (.int .u8 32))),oM 14 13,hM 15 0 14,hM 16 3 14,oR 17 (.idx (.t 15) (.t 16)) 14,oR 18 (.bin .gtr (.t 17) (.k (.int .u8 126))) 14,oO 19 14 18] u164_10 [0,3]
abbrev u164_12:=qE [oM 8 3,oK 9 8 .add 1,oM 3 9] [0,3]
abbrev u164_8:=qB u164_9 u164_12 1 [0,3]
abbrev u164_5:=qQ u164_6 u164_8 [0,3]
abbrev u164_4:=qJ (.loop u164_5) 0 [0,3]
abbrev u164_3:=qS [oI 3 0] u164_4 [0]
abbrev u164_16:=qS [oP 25 (.bld #[.int .i64 0,.string ⟨#[]⟩,.int .i64 0,.int .i64 0] [(0,1),(1,1),(2,1),(3,1)] []),⟨some 26,.new (.bsl 4 1 #[.int .i64 0,.string ⟨#[]⟩,.int .i64 0,.int .i64 0] [(0,.t 25)]),none⟩,oM 2 26] .ret []
abbrev u164_15:=qK u164_16 .skip (.t 24) [0,24]
abbrev u164_14:=qS [oM 22 0,oP 23 (.lens (.t 22)),oK 24 23 .gtr 32] u164_15 [0]
abbrev u164_17:=qS [oM 27 0,oP 28 (.bld #[.int .i64 0,.string ⟨#[]⟩,.int .i64 0,.int .i64 0] [(0,1),(1,1),(2,1),(3,1)] [(0,.k (.int .i64 4)),(1,.t 27)]),⟨some 29,.new (.bsl 4 1 #[.int .i64 0,.string ⟨#[]⟩,.int .i64 0,.int .i64 0] [(0,.t 28)]),none⟩,oM 2 29] .ret [0]
abbrev u164_13:=qQ u164_14 u164_17 [0]
abbrev u164_2:=qQ u164_3 u164_13 [0]
abbrev u164_1:=qS [oV 2 (.slice none 0 0)] u164_2 [0]
def u164:IFn:=⟨30,u164_1,[.tmp 2]⟩
theorem isU164:A7 Tryz.prog 164 u164:=by unfold A7;kernel_rfl
abbrev u131_8:=qK .skip (.exit 0) (.t 8) [0,3,4,8]
abbrev u131_7:=qS [oM 5 4,oM 6 0,oH 7 6,oB 8 5 7 .lss] u131_8 [0,3,4]
abbrev u131_10:=qE [oM 11 3,oM 12 0,oM 13 4,oA 14 12 13 1,oL 15 14,oT 16 11 15 4 40,oM 3 16] [0,3,4]
abbrev u131_11:=qE [oM 9 4,oK 10 9 .add 1,oM 4 10] [0,3,4]
abbrev u131_9:=qB u131_10 u131_11 1 [0,3,4]
abbrev u131_6:=qQ u131_7 u131_9 [0,3,4]
abbrev u131_5:=qJ (.loop u131_6) 0 [0,3,4]
abbrev u131_4:=qS [oI 4 0] u131_5 [0,3]
abbrev u131_12:=qS [oM 17 3,oM 2 17] .ret [3]
abbrev u131_3:=qQ u131_4 u131_12 [0,3]
abbrev u131_2:=qS [oV 3 (.slice none 0 0)] u131_3 [0]
abbrev u131_1:=qS [oV 2 (.slice none 0 0)] u131_2 [0]
def u131:IFn:=⟨18,u131_1,[.tmp 2]⟩
theorem isU131:A7 Tryz.prog 131 u131:=by unfold A7;kernel_rfl
abbrev u137_5:=qD [⟨some 10,.new (.bsl 1 1 #[.string ⟨#[]⟩] [(0,.k (.string ⟨#[40]⟩))]),none⟩,oC 11 132 [.t 10],oD 12 2 5,oC 13 100 [.t 12],⟨some 14,.new (.bsl 1 1 #[.string ⟨#[]⟩] [(0,.k (.string ⟨#[41]⟩))]),none⟩,oC 15 132 [.t 14],⟨some 16,.new (.bsl 1 3 #[.slice none 0 0] [(0,.t 11),(1,.t 13),(2,.t 15)]),none⟩,oC 17 131 [.t 16],oM 4 17] .ret [(0,none),(2,none),(4,none),(1,some [2,4]),(3,some [4]),(5,some []),(6,none),(7,some []),(8,some [])] 9 [2]
abbrev u137_4:=qK u137_5 .skip (.t 9) [2,9]
abbrev u137_3:=qS [oF 5 2 0,oL 6 5,oC 7 126 [.t 6],oM 8 1,oB 9 7 8 .lss] u137_4 [1,2]
abbrev u137_6:=qS [oD 18 2 5,oC 19 100 [.t 18],oM 4 19] .ret [2]
abbrev u137_2:=qQ u137_3 u137_6 [1,2]
abbrev u137_1:=qS [oX 2 0,oV 4 (.slice none 0 0)] u137_2 [0,1]
def u137:IFn:=⟨20,u137_1,[.tmp 4]⟩
theorem isU137:A7 Tryz.prog 137 u137:=by unfold A7;kernel_rfl
abbrev u100_6:=qS [oF 12 1 1,oL 13 12,oC 14 134 [.t 13],oM 2 14] .ret [1]
abbrev u100_9:=qS [oF 19 1 2,oL 20 19,oC 21 133 [.t 20],oM 2 21] .ret [1]
abbrev u100_12:=qS [⟨some 26,.new (.bsl 1 1 #[.string ⟨#[]⟩] [(0,.k (.string ⟨#[116,114,117,101]⟩))]),none⟩,oC 27 132 [.t 26],oM 2 27] .ret []
abbrev u100_15:=qS [⟨some 32,.new (.bsl 1 1 #[.string ⟨#[]⟩] [(0,.k (.string ⟨#[102,97,108,115,101]⟩))]),none⟩,oC 33 132 [.t 32],oM 2 33] .ret []
abbrev u100_18:=qS [⟨some 38,.new (.bsl 1 1 #[.string ⟨#[]⟩] [(0,.k (.string ⟨#[112,108,97,121,101,114]⟩))]),none⟩,oC 39 132 [.t 38],oM 2 39] .ret []
abbrev u100_21:=qS [⟨some 44,.new (.bsl 1 1 #[.string ⟨#[]⟩] [(0,.k (.string ⟨#[98,97,108,108]⟩))]),none⟩,oC 45 132 [.t 44],oM 2 45] .ret []
abbrev u100_24:=qD [⟨some 50,.new (.bsl 1 1 #[.string ⟨#[]⟩] [(0,.k (.string ⟨#[99,108,111,115,101,100]⟩))]),none⟩,oC 51 132 [.t 50],oF 52 1 2,oL 53 52,oC 54 133 [.t 53],⟨some 55,.new (.bsl 1 2 #[.slice none 0 0] [(0,.t 51),(1,.t 54)]),none⟩,oC 56 131 [.t 55],oM 2 56] .ret [(0,none),(2,none),(3,none),(1,some [2,3]),(4,some []),(5,none),(6,some []),(7,some [])] 8 [1]
abbrev u100_27:=qD [⟨some 61,.new (.bsl 1 1 #[.string ⟨#[]⟩] [(0,.k (.string ⟨#[97,99,116,105,118,101]⟩))]),none⟩,oC 62 132 [.t 61],oF 63 1 2,oL 64 63,oC 65 133 [.t 64],⟨some 66,.new (.bsl 1 2 #[.slice none 0 0] [(0,.t 62),(1,.t 65)]),none⟩,oC 67 131 [.t 66],oM 2 67] .ret [(0,none),(2,none),(3,none),(1,some [2,3]),(4,some []),(5,none),(6,some []),(7,some [])] 8 [1]
abbrev u100_30:=qD [⟨some 72,.new (.bsl 1 1 #[.string ⟨#[]⟩] [(0,.k (.string ⟨#[108,101,102,116]⟩))]),none⟩,oC 73 132 [.t 72],oF 74 1 2,oL 75 74,oC 76 133 [.t 75],⟨some 77,.new (.bsl 1 2 #[.slice none 0 0] [(0,.t 73),(1,.t 76)]),none⟩,oC 78 131 [.t 77],oM 2 78] .ret [(0,none),(2,none),(3,none),(1,some [2,3]),(4,some []),(5,none),(6,some []),(7,some [])] 8 [1]
abbrev u100_33:=qD [⟨some 88,.new (.bsl 1 2 #[.string ⟨#[]⟩] [(0,.k (.string ⟨#[45]⟩)),(1,.k (.string ⟨#[33]⟩))]),none⟩,oF 89 1 0,oL 90 89,oK 91 90 .sub 10,oA 92 88 91 1,oL 93 92,⟨some 94,.new (.bsl 1 1 #[.string ⟨#[]⟩] [(0,.t 93)]),none⟩,oC 95 132 [.t 94],oF 96 1 3,oL 97 96,oP 98 (.iad 5 (.t 97) (.k (.int .i64 0))),oD 99 98 5,oC 100 137 [.t 99,.k (.int .i64 6)],⟨some 101,.new (.bsl 1 2 #[.slice none 0 0] [(0,.t 95),(1,.t 100)]),none⟩,oC 102 131 [.t 101],oM 2 102] .ret [(0,none),(1,none),(2,none),(3,none),(4,none),(5,none),(6,none),(8,none),(9,none),(10,none),(11,none),(7,some [8,9,10,11]),(12,some []),(13,none),(14,some []),(15,some [])] 16 [1]
abbrev u100_40:=qE [oI 4 4] [1,3]
abbrev u100_39:=qK u100_40 .skip (.t 114) [1,3,4,114]
abbrev u100_38:=qS [oM 113 3,oK 114 113 .eql 3] u100_39 [1,3,4]
abbrev u100_41:=qD [oF 115 1 3,oL 116 115,oP 117 (.iad 5 (.t 116) (.k (.int .i64 0))),oD 118 117 5,oM 119 4,oC 120 137 [.t 118,.t 119],oC 121 125 [],oF 122 1 0,oL 123 122,oK 124 123 .sub 12,oA 125 121 124 1,oL 126 125,⟨some 127,.new (.bsl 1 1 #[.string ⟨#[]⟩] [(0,.t 126)]),none⟩,oC 128 132 [.t 127],oF 129 1 3,oL 130 129,oP 131 (.iad 5 (.t 130) (.k (.int .i64 1))),oD 132 131 5,oM 133 3,oK 134 133 .add 1,oC 135 137 [.t 132,.t 134],⟨some 136,.new (.bsl 1 3 #[.slice none 0 0] [(0,.t 120),(1,.t 128),(2,.t 135)]),none⟩,oC 137 131 [.t 136],oM 2 137] .ret [(0,none),(1,none),(2,none),(3,none),(4,none),(7,none),(8,none),(9,none),(14,none),(15,none),(16,none),(17,none),(18,none),(19,none),(5,some [7,8,9,14,15,16,17,18,19]),(6,some [7,8,9,14,15,16,17,18,19]),(10,none),(11,none),(12,none),(13,some [14,15,16,17,18,19]),(20,some []),(21,none),(22,some []),(23,some [])] 24 [1,3,4]
abbrev u100_37:=qQ u100_38 u100_41 [1,3,4]
abbrev u100_36:=qS [oM 112 3,oM 4 112] u100_37 [1,3]
abbrev u100_35:=qK u100_36 .skip (.t 103) [1,3,103]
abbrev u100_34:=qS [oM 104 3,oK 105 104 .lss 6,oM 106 105,gF 107 1 3 106,gL 108 107 106,oG 109 (.len (.t 108)) 106,gK 110 109 106 .eql 2,oJ 111 106 110,oM 103 111] u100_35 [1,3]
abbrev u100_32:=qK u100_33 u100_34 (.t 79) [1,3,79]
abbrev u100_31:=qS [oM 80 3,oK 81 80 .eql 6,oM 82 81,gF 83 1 3 82,gL 84 83 82,oG 85 (.len (.t 84)) 82,gK 86 85 82 .eql 1,oJ 87 82 86,oM 79 87] u100_32 [1,3]
abbrev u100_29:=qK u100_30 u100_31 (.t 68) [1,3,68]
abbrev u100_28:=qS [oF 69 1 0,oL 70 69,oK 71 70 .eql 7,oM 68 71] u100_29 [1,3]
abbrev u100_26:=qK u100_27 u100_28 (.t 57) [1,3,57]
abbrev u100_25:=qS [oF 58 1 0,oL 59 58,oK 60 59 .eql 6,oM 57 60] u100_26 [1,3]
abbrev u100_23:=qK u100_24 u100_25 (.t 46) [1,3,46]
abbrev u100_22:=qS [oF 47 1 0,oL 48 47,oK 49 48 .eql 5,oM 46 49] u100_23 [1,3]
abbrev u100_20:=qK u100_21 u100_22 (.t 40) [1,3,40]
abbrev u100_19:=qS [oF 41 1 0,oL 42 41,oK 43 42 .eql 9,oM 40 43] u100_20 [1,3]
abbrev u100_17:=qK u100_18 u100_19 (.t 34) [1,3,34]
abbrev u100_16:=qS [oF 35 1 0,oL 36 35,oK 37 36 .eql 8,oM 34 37] u100_17 [1,3]
abbrev u100_14:=qK u100_15 u100_16 (.t 28) [1,3,28]
abbrev u100_13:=qS [oF 29 1 0,oL 30 29,oK 31 30 .eql 4,oM 28 31] u100_14 [1,3]
abbrev u100_11:=qK u100_12 u100_13 (.t 22) [1,3,22]
abbrev u100_10:=qS [oF 23 1 0,oL 24 23,oK 25 24 .eql 3,oM 22 25] u100_11 [1,3]
abbrev u100_8:=qK u100_9 u100_10 (.t 15) [1,3,15]
abbrev u100_7:=qS [oF 16 1 0,oL 17 16,oK 18 17 .eql 2,oM 15 18] u100_8 [1,3]
abbrev u100_5:=qK u100_6 u100_7 (.t 8) [1,3,8]
abbrev u100_4:=qS [oF 9 1 0,oL 10 9,oK 11 10 .eql 1,oM 8 11] u100_5 [1,3]
abbrev u100_42:=qS [oP 138 (.bld #[.int .i64 0,.string ⟨#[]⟩,.int .i64 0,.int .i64 0] [(0,1),(1,1),(2,1),(3,1)] []),⟨some 139,.new (.bsl 4 1 #[.int .i64 0,.string ⟨#[]⟩,.int .i64 0,.int .i64 0] [(0,.t 138)]),none⟩,oM 2 139] .ret []
abbrev u100_3:=qB u100_4 u100_42 0 [1,3]
abbrev u100_2:=qS [oF 5 1 0,oL 6 5,oC 7 126 [.t 6],oM 3 7] u100_3 [1]
abbrev u100_1:=qS [oX 1 0,oV 2 (.slice none 0 0)] u100_2 [0]
def u100:IFn:=⟨140,u100_1,[.tmp 2]⟩
theorem isU100:A7 Tryz.prog 100 u100:=by unfold A7;kernel_rfl
abbrev u163_5:=qS [oP 9 (.bld #[.int .i64 0,.string ⟨#[]⟩,.int .i64 0,.int .i64 0] [(0,1),(1,1),(2,1),(3,1)] []),⟨some 10,.new (.bsl 4 1 #[.int .i64 0,.string ⟨#[]⟩,.int .i64 0,.int .i64 0] [(0,.t 9)]),none⟩,oM 4 10] .ret []
abbrev u163_4:=qK u163_5 .skip (.t 8) [0,1,8]
abbrev u163_3:=qS [oM 5 1,oM 6 0,oH 7 6,oB 8 5 7 .geq] u163_4 [0,1]
abbrev u163_6:=qS [oM 11 0,oM 12 1,oA 13 11 12 5,oD 14 13 5,oC 15 100 [.t 14],oM 4 15] .ret [0,1]
abbrev u163_2:=qQ u163_3 u163_6 [0,1]
abbrev u163_1:=qS [oV 4 (.slice none 0 0)] u163_2 [0,1]
def u163:IFn:=⟨16,u163_1,[.tmp 4]⟩
theorem isU163:A7 Tryz.prog 163 u163:=by unfold A7;kernel_rfl
abbrev u135_8:=qK .skip (.exit 0) (.t 10) [0,3,4,10]
abbrev u135_7:=qS [oM 7 4,oM 8 0,oH 9 8,oB 10 7 9 .lss] u135_8 [0,3,4]
abbrev u135_10:=qE [oM 13 3,oM 14 0,oM 15 4,oA 16 14 15 7,oD 17 16 7,oC 18 153 [.t 17],oT 19 13 18 4 40,oM 3 19] [0,3,4]
abbrev u135_11:=qE [oM 11 4,oK 12 11 .add 1,oM 4 12] [0,3,4]
abbrev u135_9:=qB u135_10 u135_11 1 [0,3,4]
abbrev u135_6:=qQ u135_7 u135_9 [0,3,4]
abbrev u135_5:=qJ (.loop u135_6) 0 [0,3,4]
abbrev u135_4:=qS [oI 4 0] u135_5 [0,3]
abbrev u135_12:=qS [oM 20 3,⟨some 21,.new (.bsl 1 1 #[.string ⟨#[]⟩] [(0,.k (.string ⟨#[125]⟩))]),none⟩,oC 22 132 [.t 21],oT 23 20 22 4 40,oM 2 23] .ret [3]
abbrev u135_3:=qQ u135_4 u135_12 [0,3]
abbrev u135_2:=qS [⟨some 5,.new (.bsl 1 1 #[.string ⟨#[]⟩] [(0,.k (.string ⟨#[123]⟩))]),none⟩,oC 6 132 [.t 5],oM 3 6] u135_3 [0]
abbrev u135_1:=qS [oV 2 (.slice none 0 0)] u135_2 [0]
def u135:IFn:=⟨24,u135_1,[.tmp 2]⟩
theorem isU135:A7 Tryz.prog 135 u135:=by unfold A7;kernel_rfl
abbrev u153_5:=qD [oF 7 1 1,oL 8 7,oC 9 133 [.t 8],⟨some 10,.new (.bsl 1 1 #[.string ⟨#[]⟩] [(0,.k (.string ⟨#[61]⟩))]),none⟩,oC 11 132 [.t 10],oF 12 1 3,oL 13 12,oC 14 163 [.t 13,.k (.int .i64 0)],⟨some 15,.new (.bsl 1 1 #[.string ⟨#[]⟩] [(0,.k (.string ⟨#[59]⟩))]),none⟩,oC 16 132 [.t 15],⟨some 17,.new (.bsl 1 4 #[.slice none 0 0] [(0,.t 9),(1,.t 11),(2,.t 14),(3,.t 16)]),none⟩,oC 18 131 [.t 17],oM 2 18] .ret [(0,none),(1,none),(3,none),(5,none),(6,none),(8,none),(2,some [3,5,6,8]),(4,some [5,6,8]),(7,some [8]),(9,some []),(10,none),(11,some []),(12,some [])] 13 [1]
abbrev u153_4:=qK u153_5 .skip (.t 6) [1,6]
abbrev u153_3:=qS [oF 4 1 0,oL 5 4,oK 6 5 .eql 1] u153_4 [1]
abbrev u153_9:=qS [oP 27 (.bld #[.int .i64 0,.string ⟨#[]⟩,.int .i64 0,.int .i64 0] [(0,1),(1,1),(2,1),(3,1)] []),⟨some 28,.new (.bsl 4 1 #[.int .i64 0,.string ⟨#[]⟩,.int .i64 0,.int .i64 0] [(0,.t 27)]),none⟩,oM 2 28] .ret []
abbrev u153_8:=qK u153_9 .skip (.t 26) [1,26]
abbrev u153_7:=qS [oF 19 1 0,oL 20 19,oK 21 20 .lss 2,oM 22 21,hF 23 1 0 22,hL 24 23 22,hK 25 24 22 .gtr 19,oO 26 22 25] u153_8 [1]
abbrev u153_17:=qE [oK 47 38 .eql 3,oM 45 47] [1,3,38]
abbrev u153_16:=qK .skip u153_17 (.t 45) [1,3,38,45]
abbrev u153_15:=qS [oK 46 38 .eql 2,oM 45 46] u153_16 [1,3,38]
abbrev u153_23:=qD [oM 69 3,⟨some 70,.new (.bsl 1 1 #[.string ⟨#[]⟩] [(0,.k (.string ⟨#[101,108,115,101]⟩))]),none⟩,oC 71 132 [.t 70],oF 72 1 5,oL 73 72,oP 74 (.iad 7 (.t 73) (.k (.int .i64 0))),oD 75 74 7,oC 76 153 [.t 75],⟨some 77,.new (.bsl 1 3 #[.slice none 0 0] [(0,.t 69),(1,.t 71),(2,.t 76)]),none⟩,oC 78 131 [.t 77],oM 2 78] .ret [(0,none),(1,none),(3,none),(4,none),(5,none),(6,none),(2,some [0,3,4,5,6]),(7,some [0]),(8,none),(9,some []),(10,some [])] 11 [1,3]
abbrev u153_22:=qK u153_23 .skip (.t 68) [1,3,68]
abbrev u153_21:=qS [oF 57 1 5,oL 58 57,oH 59 58,oK 60 59 .eql 1,oM 61 60,gF 62 1 5 61,gL 63 62 61,oG 64 (.iad 7 (.t 63) (.k (.int .i64 0))) 61,gF 65 64 0 61,gL 66 65 61,gK 67 66 61 .eql 2,oJ 68 61 67] u153_22 [1,3]
abbrev u153_27:=qD [oM 83 3,⟨some 84,.new (.bsl 1 1 #[.string ⟨#[]⟩] [(0,.k (.string ⟨#[101,108,115,101]⟩))]),none⟩,oC 85 132 [.t 84],oF 86 1 5,oL 87 86,oC 88 135 [.t 87],⟨some 89,.new (.bsl 1 3 #[.slice none 0 0] [(0,.t 83),(1,.t 85),(2,.t 88)]),none⟩,oC 90 131 [.t 89],oM 2 90] .ret [(0,none),(1,none),(3,none),(4,none),(2,some [0,3,4]),(5,some [0]),(6,none),(7,some []),(8,some [])] 9 [1,3]
abbrev u153_26:=qK u153_27 .skip (.t 82) [1,3,82]
abbrev u153_25:=qS [oF 79 1 5,oL 80 79,oH 81 80,oK 82 81 .gtr 0] u153_26 [1,3]
abbrev u153_28:=qS [oM 91 3,oM 2 91] .ret [3]
abbrev u153_24:=qQ u153_25 u153_28 [1,3]
abbrev u153_20:=qQ u153_21 u153_24 [1,3]
abbrev u153_19:=qD [oM 48 3,oF 49 1 3,oL 50 49,oC 51 163 [.t 50,.k (.int .i64 0)],oF 52 1 4,oL 53 52,oC 54 135 [.t 53],⟨some 55,.new (.bsl 1 3 #[.slice none 0 0] [(0,.t 48),(1,.t 51),(2,.t 54)]),none⟩,oC 56 131 [.t 55],oM 3 56] u153_20 [(0,none),(1,none),(2,none),(4,none),(5,none),(3,some [0,4,5]),(6,some [0]),(7,none),(8,some []),(9,some [])] 10 [1,3]
abbrev u153_31:=qE [oM 94 3,oF 95 1 3,oL 96 95,oC 97 163 [.t 96,.k (.int .i64 0)],⟨some 98,.new (.bsl 1 2 #[.slice none 0 0] [(0,.t 94),(1,.t 97)]),none⟩,oC 99 131 [.t 98],oM 3 99] [1,3]
abbrev u153_34:=qG [oM 102 3,oF 103 1 2,oL 104 103,oC 105 164 [.t 104],⟨some 106,.new (.bsl 1 1 #[.string ⟨#[]⟩] [(0,.k (.string ⟨#[44]⟩))]),none⟩,oC 107 132 [.t 106],oF 108 1 3,oL 109 108,oC 110 163 [.t 109,.k (.int .i64 0)],⟨some 111,.new (.bsl 1 4 #[.slice none 0 0] [(0,.t 102),(1,.t 105),(2,.t 107),(3,.t 110)]),none⟩,oC 112 131 [.t 111],oM 3 112] [(0,none),(1,none),(2,none),(4,none),(6,none),(7,none),(3,some [0,4,6,7]),(5,some [0,6,7]),(8,some [0]),(9,none),(10,some []),(11,some [])] 12 [1,3]
abbrev u153_38:=qE [oK 115 38 .eql 10,oM 113 115] [1,3,38]
abbrev u153_37:=qK .skip u153_38 (.t 113) [1,3,38,113]
abbrev u153_36:=qS [oK 114 38 .eql 8,oM 113 114] u153_37 [1,3,38]
abbrev u153_40:=qG [oM 116 3,oF 117 1 1,oL 118 117,oC 119 133 [.t 118],oF 120 1 3,oL 121 120,oC 122 163 [.t 121,.k (.int .i64 0)],⟨some 123,.new (.bsl 1 3 #[.slice none 0 0] [(0,.t 116),(1,.t 119),(2,.t 122)]),none⟩,oC 124 131 [.t 123],oM 3 124] [(0,none),(1,none),(2,none),(4,none),(5,none),(3,some [0,4,5]),(6,some [0]),(7,none),(8,some []),(9,some [])] 10 [1,3]
abbrev u153_43:=qG [oM 127 3,oF 128 1 1,oL 129 128,oC 130 133 [.t 129],oF 131 1 3,oL 132 131,oC 133 163 [.t 132,.k (.int .i64 0)],⟨some 134,.new (.bsl 1 1 #[.string ⟨#[]⟩] [(0,.k (.string ⟨#[44]⟩))]),none⟩,oC 135 132 [.t 134],oF 136 1 3,oL 137 136,oC 138 163 [.t 137,.k (.int .i64 1)],⟨some 139,.new (.bsl 1 5 #[.slice none 0 0] [(0,.t 127),(1,.t 130),(2,.t 133),(3,.t 135),(4,.t 138)]),none⟩,oC 140 131 [.t 139],oM 3 140] [(0,none),(1,none),(2,none),(4,none),(5,none),(7,none),(9,none),(10,none),(3,some [0,4,5,7,9,10]),(6,some [0,7,9,10]),(8,some [0,9,10]),(11,some [0]),(12,none),(13,some []),(14,some [])] 15 [1,3]
abbrev u153_46:=qE [oM 39 3,oF 40 1 1,oL 41 40,oC 42 133 [.t 41],⟨some 43,.new (.bsl 1 2 #[.slice none 0 0] [(0,.t 39),(1,.t 42)]),none⟩,oC 44 131 [.t 43],oM 3 44] [1,3]
abbrev u153_45:=qK .skip u153_46 (.t 141) [1,3,141]
abbrev u153_44:=qS [oK 142 38 .eql 19,oM 141 142] u153_45 [1,3,38]
abbrev u153_42:=qK u153_43 u153_44 (.t 125) [1,3,38,125]
abbrev u153_41:=qS [oK 126 38 .eql 9,oM 125 126] u153_42 [1,3,38]
abbrev u153_39:=qK u153_40 u153_41 (.t 113) [1,3,38,113]
abbrev u153_35:=qQ u153_36 u153_39 [1,3,38]
abbrev u153_33:=qK u153_34 u153_35 (.t 100) [1,3,38,100]
abbrev u153_32:=qS [oK 101 38 .eql 18,oM 100 101] u153_33 [1,3,38]
abbrev u153_30:=qK u153_31 u153_32 (.t 92) [1,3,38,92]
abbrev u153_29:=qS [oK 93 38 .eql 4,oM 92 93] u153_30 [1,3,38]
abbrev u153_18:=qK u153_19 u153_29 (.t 45) [1,3,38,45]
abbrev u153_14:=qQ u153_15 u153_18 [1,3,38]
abbrev u153_13:=qJ u153_14 0 [1,3,38]
abbrev u153_12:=qS [oF 37 1 0,oL 38 37] u153_13 [1,3]
abbrev u153_47:=qS [oM 143 3,⟨some 144,.new (.bsl 1 1 #[.string ⟨#[]⟩] [(0,.k (.string ⟨#[59]⟩))]),none⟩,oC 145 132 [.t 144],⟨some 146,.new (.bsl 1 2 #[.slice none 0 0] [(0,.t 143),(1,.t 145)]),none⟩,oC 147 131 [.t 146],oM 2 147] .ret [3]
abbrev u153_11:=qQ u153_12 u153_47 [1,3]
abbrev u153_10:=qD [oC 29 142 [],oF 30 1 0,oL 31 30,oK 32 31 .sub 2,oA 33 29 32 1,oL 34 33,⟨some 35,.new (.bsl 1 1 #[.string ⟨#[]⟩] [(0,.t 34)]),none⟩,oC 36 132 [.t 35],oM 3 36] u153_11 [(1,none),(2,none),(3,none),(0,some [1,2,3]),(4,none),(5,none),(6,none),(7,some []),(8,some [])] 9 [1]
abbrev u153_6:=qQ u153_7 u153_10 [1]
abbrev u153_2:=qQ u153_3 u153_6 [1]
abbrev u153_1:=qS [oX 1 0,oV 2 (.slice none 0 0)] u153_2 [0]
def u153:IFn:=⟨148,u153_1,[.tmp 2]⟩
theorem isU153:A7 Tryz.prog 153 u153:=by unfold A7;kernel_rfl
abbrev u130_5:=qS [oP 12 (.bld #[.int .i64 0,.string ⟨#[]⟩,.int .i64 0,.int .i64 0] [(0,1),(1,1),(2,1),(3,1)] []),⟨some 13,.new (.bsl 4 1 #[.int .i64 0,.string ⟨#[]⟩,.int .i64 0,.int .i64 0] [(0,.t 12)]),none⟩,oM 2 13] .ret []
abbrev u130_4:=qK u130_5 .skip (.t 11) [1,11]
abbrev u130_3:=qS [oF 4 1 0,oL 5 4,oK 6 5 .lss 1,oM 7 6,hF 8 1 0 7,hL 9 8 7,hK 10 9 7 .gtr 8,oO 11 7 10] u130_4 [1]
abbrev u130_12:=qG [oM 51 3,⟨some 52,.new (.bsl 1 1 #[.string ⟨#[]⟩] [(0,.k (.string ⟨#[45]⟩))]),none⟩,oC 53 132 [.t 52],oF 54 1 2,oL 55 54,oP 56 (.un .neg (.t 55)),oC 57 134 [.t 56],⟨some 58,.new (.bsl 1 3 #[.slice none 0 0] [(0,.t 51),(1,.t 53),(2,.t 57)]),none⟩,oC 59 131 [.t 58],oM 3 59] [(0,none),(1,none),(3,none),(4,none),(5,none),(2,some [0,3,4,5]),(6,some [0]),(7,none),(8,some []),(9,some [])] 10 [1,3]
abbrev u130_13:=qE [oM 27 3,oF 28 1 2,oL 29 28,oC 30 134 [.t 29],⟨some 31,.new (.bsl 1 2 #[.slice none 0 0] [(0,.t 27),(1,.t 30)]),none⟩,oC 32 131 [.t 31],oM 3 32] [1,3]
abbrev u130_11:=qK u130_12 u130_13 (.t 37) [1,3,37]
abbrev u130_10:=qS [oF 38 1 2,oL 39 38,oK 40 39 .lss 0,oM 41 40,gF 42 1 2 41,gL 43 42 41,gK 44 43 41 .geq (-2147483647),oJ 45 41 44,oM 46 45,gF 47 1 0 46,gL 48 47 46,gK 49 48 46 .eql 6,oJ 50 46 49,oM 37 50] u130_11 [1,3]
abbrev u130_9:=qK .skip u130_10 (.t 33) [1,3,33]
abbrev u130_8:=qS [oF 34 1 0,oL 35 34,oK 36 35 .gtr 6,oM 33 36] u130_9 [1,3]
abbrev u130_14:=qS [oM 60 3,⟨some 61,.new (.bsl 1 1 #[.string ⟨#[]⟩] [(0,.k (.string ⟨#[59]⟩))]),none⟩,oC 62 132 [.t 61],⟨some 63,.new (.bsl 1 2 #[.slice none 0 0] [(0,.t 60),(1,.t 62)]),none⟩,oC 64 131 [.t 63],oM 2 64] .ret [3]
abbrev u130_7:=qB u130_8 u130_14 0 [1,3]
abbrev u130_6:=qD [oC 14 73 [],oF 15 1 0,oL 16 15,oK 17 16 .sub 1,oA 18 14 17 1,oL 19 18,⟨some 20,.new (.bsl 1 1 #[.string ⟨#[]⟩] [(0,.t 19)]),none⟩,oC 21 132 [.t 20],oF 22 1 1,oL 23 22,oC 24 133 [.t 23],⟨some 25,.new (.bsl 1 2 #[.slice none 0 0] [(0,.t 21),(1,.t 24)]),none⟩,oC 26 131 [.t 25],oM 3 26] u130_7 [(1,none),(2,none),(3,none),(8,none),(9,none),(0,some [1,2,3,8,9]),(4,none),(5,none),(6,none),(7,some [8,9]),(10,some []),(11,none),(12,some []),(13,some [])] 14 [1]
abbrev u130_2:=qQ u130_3 u130_6 [1]
abbrev u130_1:=qS [oX 1 0,oV 2 (.slice none 0 0)] u130_2 [0]
def u130:IFn:=⟨65,u130_1,[.tmp 2]⟩
theorem isU130:A7 Tryz.prog 130 u130:=by unfold A7;kernel_rfl
abbrev u98_8:=qK .skip (.exit 0) (.t 13) [1,3,4,13]
abbrev u98_7:=qS [oM 9 4,oF 10 1 0,oL 11 10,oH 12 11,oB 13 9 12 .lss] u98_8 [1,3,4]
abbrev u98_10:=qE [oM 16 3,oF 17 1 0,oL 18 17,oM 19 4,oA 20 18 19 4,oD 21 20 4,oC 22 130 [.t 21],oT 23 16 22 4 40,oM 3 23] [1,3,4]
abbrev u98_11:=qE [oM 14 4,oK 15 14 .add 1,oM 4 15] [1,3,4]
abbrev u98_9:=qB u98_10 u98_11 1 [1,3,4]
abbrev u98_6:=qQ u98_7 u98_9 [1,3,4]
abbrev u98_5:=qJ (.loop u98_6) 0 [1,3,4]
abbrev u98_4:=qS [oI 4 0] u98_5 [1,3]
abbrev u98_17:=qK .skip (.exit 2) (.t 28) [1,3,5,28]
abbrev u98_16:=qS [oM 24 5,oF 25 1 1,oL 26 25,oH 27 26,oB 28 24 27 .lss] u98_17 [1,3,5]
abbrev u98_26:=qK .skip (.exit 4) (.t 54) [1,3,5,6,7,54]
abbrev u98_25:=qS [oM 50 7,oF 51 6 2,oL 52 51,oH 53 52,oB 54 50 53 .lss] u98_26 [1,3,5,6,7]
abbrev u98_32:=qS [oP 70 (.bld #[.int .i64 0,.string ⟨#[]⟩,.int .i64 0,.int .i64 0] [(0,1),(1,1),(2,1),(3,1)] []),⟨some 71,.new (.bsl 4 1 #[.int .i64 0,.string ⟨#[]⟩,.int .i64 0,.int .i64 0] [(0,.t 70)]),none⟩,oM 2 71] .ret []
abbrev u98_31:=qK u98_32 .skip (.t 69) [1,3,5,6,7,8,69]
abbrev u98_30:=qS [oF 62 8 0,oL 63 62,oK 64 63 .lss 1,oM 65 64,hF 66 8 0 65,hL 67 66 65,hK 68 67 65 .gtr 6,oO 69 65 68] u98_31 [1,3,5,6,7,8]
abbrev u98_37:=qE [oM 85 3,oF 86 8 1,oL 87 86,oC 88 133 [.t 87],oT 89 85 88 4 40,oM 3 89] [1,3,5,6,7,8]
abbrev u98_36:=qK u98_37 .skip (.t 84) [1,3,5,6,7,8,84]
abbrev u98_35:=qS [oF 82 8 0,oL 83 82,oK 84 83 .gtr 2] u98_36 [1,3,5,6,7,8]
abbrev u98_38:=qE [oM 90 3,oF 91 8 2,oL 92 91,oC 93 135 [.t 92],oT 94 90 93 4 40,oM 3 94] [1,3,5,6,7,8]
abbrev u98_34:=qQ u98_35 u98_38 [1,3,5,6,7,8]
abbrev u98_33:=qD [oM 72 3,oC 73 117 [],oF 74 8 0,oL 75 74,oK 76 75 .sub 1,oA 77 73 76 1,oL 78 77,⟨some 79,.new (.bsl 1 2 #[.string ⟨#[]⟩] [(0,.k (.string ⟨#[111,110]⟩)),(1,.t 78)]),none⟩,oC 80 132 [.t 79],oT 81 72 80 4 40,oM 3 81] u98_34 [(0,none),(2,none),(3,none),(4,none),(1,some [0,2,3,4]),(5,none),(6,none),(7,none),(8,some [0]),(9,some []),(10,some [])] 11 [1,3,5,6,7,8]
abbrev u98_29:=qQ u98_30 u98_33 [1,3,5,6,7,8]
abbrev u98_28:=qS [oF 57 6 2,oL 58 57,oM 59 7,oA 60 58 59 4,oD 61 60 4,oW 8 (.agg #[.int .i64 0,.string ⟨#[]⟩,.slice none 0 0,.int .i64 0]),oS 8 61 4] u98_29 [1,3,5,6,7]
abbrev u98_39:=qE [oM 55 7,oK 56 55 .add 1,oM 7 56] [1,3,5,6,7]
abbrev u98_27:=qB u98_28 u98_39 5 [1,3,5,6,7]
abbrev u98_24:=qQ u98_25 u98_27 [1,3,5,6,7]
abbrev u98_23:=qJ (.loop u98_24) 4 [1,3,5,6,7]
abbrev u98_22:=qS [oI 7 0] u98_23 [1,3,5,6]
abbrev u98_40:=qE [oM 95 3,⟨some 96,.new (.bsl 1 1 #[.string ⟨#[]⟩] [(0,.k (.string ⟨#[125]⟩))]),none⟩,oC 97 132 [.t 96],oT 98 95 97 4 40,oM 3 98] [1,3,5]
abbrev u98_21:=qQ u98_22 u98_40 [1,3,5,6]
abbrev u98_20:=qD [oM 36 3,⟨some 37,.new (.bsl 1 1 #[.string ⟨#[]⟩] [(0,.k (.string ⟨#[109,111,100,101]⟩))]),none⟩,oC 38 132 [.t 37],oF 39 6 0,oL 40 39,oC 41 133 [.t 40],oF 42 6 1,oL 43 42,oC 44 134 [.t 43],⟨some 45,.new (.bsl 1 1 #[.string ⟨#[]⟩] [(0,.k (.string ⟨#[123]⟩))]),none⟩,oC 46 132 [.t 45],⟨some 47,.new (.bsl 1 4 #[.slice none 0 0] [(0,.t 38),(1,.t 41),(2,.t 44),(3,.t 46)]),none⟩,oC 48 131 [.t 47],oT 49 36 48 4 40,oM 3 49] u98_21 [(0,none),(1,none),(3,none),(4,none),(6,none),(7,none),(9,none),(2,some [0,3,4,6,7,9]),(5,some [0,6,7,9]),(8,some [0,9]),(10,some [0]),(11,none),(12,some [0]),(13,some []),(14,some [])] 15 [1,3,5,6]
abbrev u98_19:=qS [oF 31 1 1,oL 32 31,oM 33 5,oA 34 32 33 4,oD 35 34 4,oW 6 (.agg #[.string ⟨#[]⟩,.int .i64 0,.slice none 0 0,.int .i64 0]),oS 6 35 4] u98_20 [1,3,5]
abbrev u98_41:=qE [oM 29 5,oK 30 29 .add 1,oM 5 30] [1,3,5]
abbrev u98_18:=qB u98_19 u98_41 3 [1,3,5]
abbrev u98_15:=qQ u98_16 u98_18 [1,3,5]
abbrev u98_14:=qJ (.loop u98_15) 2 [1,3,5]
abbrev u98_13:=qS [oI 5 0] u98_14 [1,3]
abbrev u98_42:=qS [oM 99 3,oM 2 99] .ret [3]
abbrev u98_12:=qQ u98_13 u98_42 [1,3]
abbrev u98_3:=qQ u98_4 u98_12 [1,3]
abbrev u98_2:=qS [oV 3 (.slice none 0 0)] u98_3 [1]
abbrev u98_1:=qS [oX 1 0,oV 2 (.slice none 0 0)] u98_2 [0]
def u98:IFn:=⟨100,u98_1,[.tmp 2]⟩
theorem isU98:A7 Tryz.prog 98 u98:=by unfold A7;kernel_rfl
abbrev u59_4:=qD [oM 11 3,oC 12 38 [.t 11],oM 13 12,oG 14 (.ld 2 true (.t 4)) 13,⟨some 15,.call 19 [.t 14],some (13,true)⟩,oG 16 (.ld 2 true (.t 1)) 13,⟨some 17,.call 19 [.t 16],some (13,true)⟩,⟨some 18,.call 99 [.t 15,.t 17],some (13,true)⟩,oJ 19 13 18,oM 2 19] .ret [(0,none),(1,some []),(2,none),(3,none),(5,none),(4,some [5]),(6,some []),(7,some []),(8,none),(9,some [])] 10 [1,3,4]
abbrev u59_3:=qS [oM 9 3,oC 10 37 [.t 9],oW 4 (.agg #[.slice none 0 0,.slice none 0 0]),oS 4 10 2] u59_4 [1,3]
abbrev u59_2:=qS [oD 5 1 2,oC 6 98 [.t 5],oP 7 (.bld #[.slice none 0 0,.int .i64 0,.int .i64 0,.int .i64 0,.int .i64 0,.int .i64 0,.int .i64 0] [(0,1),(1,1),(2,1),(3,1),(4,1),(5,1),(6,1)] [(0,.t 6)]),oX 8 7,oM 3 8] u59_3 [1]
abbrev u59_1:=qS [oX 1 0,oV 2 (.bool false)] u59_2 [0]
def u59:IFn:=⟨20,u59_1,[.tmp 2]⟩
theorem isU59:A7 Tryz.prog 59 u59:=by unfold A7;kernel_rfl
abbrev u90_8:=qK .skip (.exit 0) (.t 9) [0,3,4,9]
abbrev u90_7:=qS [oM 6 4,oM 7 0,oH 8 7,oB 9 6 8 .lss] u90_8 [0,3,4]
abbrev u90_12:=qE [oM 21 3,oD 22 5 5,⟨some 23,.new (.bsl 5 1 #[.int .i64 0,.int .i64 0,.string ⟨#[]⟩,.slice none 0 0,.int .i64 0] [(0,.t 22)]),none⟩,oT 24 21 23 5 64,oM 3 24] [0,3,4,5]
abbrev u90_11:=qS [oF 16 5 3,oL 17 16,oC 18 90 [.t 17],oF 19 5 4,⟨none,.eff (.st 1 (.t 19) (.k (.int .i64 0))),none⟩,oF 20 5 3,oS 20 18 1] u90_12 [0,3,4,5]
abbrev u90_10:=qS [oM 12 0,oM 13 4,oA 14 12 13 5,oD 15 14 5,oW 5 (.agg #[.int .i64 0,.int .i64 0,.string ⟨#[]⟩,.slice none 0 0,.int .i64 0]),oS 5 15 5] u90_11 [0,3,4]
abbrev u90_13:=qE [oM 10 4,oK 11 10 .add 1,oM 4 11] [0,3,4]
abbrev u90_9:=qB u90_10 u90_13 1 [0,3,4]
abbrev u90_6:=qQ u90_7 u90_9 [0,3,4]
abbrev u90_5:=qJ (.loop u90_6) 0 [0,3,4]
abbrev u90_4:=qS [oI 4 0] u90_5 [0,3]
abbrev u90_14:=qS [oM 25 3,oM 2 25] .ret [3]
abbrev u90_3:=qQ u90_4 u90_14 [0,3]
abbrev u90_2:=qS [oV 3 (.slice none 0 0)] u90_3 [0]
abbrev u90_1:=qS [oV 2 (.slice none 0 0)] u90_2 [0]
def u90:IFn:=⟨26,u90_1,[.tmp 2]⟩
theorem isU90:A7 Tryz.prog 90 u90:=by unfold A7;kernel_rfl
abbrev u49_8:=qK .skip (.exit 0) (.t 9) [0,3,4,9]
abbrev u49_7:=qS [oM 6 4,oM 7 0,oH 8 7,oB 9 6 8 .lss] u49_8 [0,3,4]
abbrev u49_12:=qE [oM 29 3,oD 30 5 7,⟨some 31,.new (.bsl 7 1 #[.int .i64 0,.string ⟨#[]⟩,.string ⟨#[]⟩,.slice none 0 0,.slice none 0 0,.slice none 0 0,.int .i64 0] [(0,.t 30)]),none⟩,oT 32 29 31 7 120,oM 3 32] [0,3,4,5]
abbrev u49_11:=qD [oF 16 5 3,oL 17 16,oC 18 90 [.t 17],oF 19 5 4,oL 20 19,oC 21 49 [.t 20],oF 22 5 5,oL 23 22,oC 24 49 [.t 23],oF 25 5 6,⟨none,.eff (.st 1 (.t 25) (.k (.int .i64 0))),none⟩,oF 26 5 3,oS 26 18 1,oF 27 5 4,oS 27 21 1,oF 28 5 5,oS 28 24 1] u49_12 [(0,none),(1,none),(3,none),(4,none),(6,none),(7,none),(9,none),(2,some [3,4,6,7,9]),(5,some [6,7,9]),(8,some [9]),(10,some []),(11,none),(12,some []),(13,none),(14,some []),(15,none),(16,some [])] 17 [0,3,4,5]
abbrev u49_10:=qS [oM 12 0,oM 13 4,oA 14 12 13 7,oD 15 14 7,oW 5 (.agg #[.int .i64 0,.string ⟨#[]⟩,.string ⟨#[]⟩,.slice none 0 0,.slice none 0 0,.slice none 0 0,.int .i64 0]),oS 5 15 7] u49_11 [0,3,4]
abbrev u49_13:=qE [oM 10 4,oK 11 10 .add 1,oM 4 11] [0,3,4]
abbrev u49_9:=qB u49_10 u49_13 1 [0,3,4]
abbrev u49_6:=qQ u49_7 u49_9 [0,3,4]
abbrev u49_5:=qJ (.loop u49_6) 0 [0,3,4]
abbrev u49_4:=qS [oI 4 0] u49_5 [0,3]
abbrev u49_14:=qS [oM 33 3,oM 2 33] .ret [3]
abbrev u49_3:=qQ u49_4 u49_14 [0,3]
abbrev u49_2:=qS [oV 3 (.slice none 0 0)] u49_3 [0]
abbrev u49_1:=qS [oV 2 (.slice none 0 0)] u49_2 [0]
def u49:IFn:=⟨34,u49_1,[.tmp 2]⟩
theorem isU49:A7 Tryz.prog 49 u49:=by unfold A7;kernel_rfl
abbrev u19_8:=qK .skip (.exit 0) (.t 14) [1,2,3,4,14]
abbrev u19_7:=qS [oM 10 4,oF 11 1 0,oL 12 11,oH 13 12,oB 14 10 13 .lss] u19_8 [1,2,3,4]
abbrev u19_12:=qE [oF 23 3 0,oL 24 23,oD 25 5 4,⟨some 26,.new (.bsl 4 1 #[.int .i64 0,.string ⟨#[]⟩,.int .i64 0,.int .i64 0] [(0,.t 25)]),none⟩,oT 27 24 26 4 40,oF 28 3 0,oS 28 27 1] [1,2,3,4,5]
abbrev u19_11:=qS [oF 22 5 3,⟨none,.eff (.st 1 (.t 22) (.k (.int .i64 0))),none⟩] u19_12 [1,2,3,4,5]
abbrev u19_10:=qS [oF 17 1 0,oL 18 17,oM 19 4,oA 20 18 19 4,oD 21 20 4,oW 5 (.agg #[.int .i64 0,.string ⟨#[]⟩,.int .i64 0,.int .i64 0]),oS 5 21 4] u19_11 [1,2,3,4]
abbrev u19_13:=qE [oM 15 4,oK 16 15 .add 1,oM 4 16] [1,2,3,4]
abbrev u19_9:=qB u19_10 u19_13 1 [1,2,3,4]
abbrev u19_6:=qQ u19_7 u19_9 [1,2,3,4]
abbrev u19_5:=qJ (.loop u19_6) 0 [1,2,3,4]
abbrev u19_4:=qS [oI 4 0] u19_5 [1,2,3]
abbrev u19_19:=qK .skip (.exit 2) (.t 33) [1,2,3,6,33]
abbrev u19_18:=qS [oM 29 6,oF 30 1 1,oL 31 30,oH 32 31,oB 33 29 32 .lss] u19_19 [1,2,3,6]
abbrev u19_27:=qK .skip (.exit 4) (.t 57) [1,2,3,6,7,8,57]
abbrev u19_26:=qS [oM 49 8,oF 50 1 1,oL 51 50,oM 52 6,oA 53 51 52 4,oF 54 53 2,oL 55 54,oH 56 55,oB 57 49 56 .lss] u19_27 [1,2,3,6,7,8]
abbrev u19_30:=qG [oF 69 7 2,oL 70 69,oF 71 9 0,oL 72 71,oF 73 9 1,oL 74 73,oF 75 9 2,oL 76 75,oC 77 49 [.t 76],oP 78 (.bld #[.int .i64 0,.string ⟨#[]⟩,.slice none 0 0,.int .i64 0] [(0,1),(1,1),(2,1),(3,1)] [(0,.t 72),(1,.t 74),(2,.t 77)]),⟨some 79,.new (.bsl 4 1 #[.int .i64 0,.string ⟨#[]⟩,.slice none 0 0,.int .i64 0] [(0,.t 78)]),none⟩,oT 80 70 79 4 56,oF 81 7 2,oS 81 80 1] [(0,none),(1,none),(2,none),(3,none),(4,none),(5,none),(6,none),(7,none),(8,some [0,1,2,3,4,5]),(9,none),(10,none),(11,some []),(12,none),(13,some [])] 14 [1,2,3,6,7,8,9]
abbrev u19_29:=qS [oF 60 1 1,oL 61 60,oM 62 6,oA 63 61 62 4,oF 64 63 2,oL 65 64,oM 66 8,oA 67 65 66 4,oD 68 67 4,oW 9 (.agg #[.int .i64 0,.string ⟨#[]⟩,.slice none 0 0,.int .i64 0]),oS 9 68 4] u19_30 [1,2,3,6,7,8]
abbrev u19_31:=qE [oM 58 8,oK 59 58 .add 1,oM 8 59] [1,2,3,6,7,8]
abbrev u19_28:=qB u19_29 u19_31 5 [1,2,3,6,7,8]
abbrev u19_25:=qQ u19_26 u19_28 [1,2,3,6,7,8]
abbrev u19_24:=qJ (.loop u19_25) 4 [1,2,3,6,7,8]
abbrev u19_23:=qS [oI 8 0] u19_24 [1,2,3,6,7]
abbrev u19_32:=qE [oF 82 3 1,oL 83 82,oD 84 7 4,⟨some 85,.new (.bsl 4 1 #[.string ⟨#[]⟩,.int .i64 0,.slice none 0 0,.int .i64 0] [(0,.t 84)]),none⟩,oT 86 83 85 4 56,oF 87 3 1,oS 87 86 1] [1,2,3,6,7]
abbrev u19_22:=qQ u19_23 u19_32 [1,2,3,6,7]
abbrev u19_21:=qD [oF 36 1 1,oL 37 36,oM 38 6,oA 39 37 38 4,oF 40 39 0,oL 41 40,oF 42 1 1,oL 43 42,oM 44 6,oA 45 43 44 4,oF 46 45 1,oL 47 46,oP 48 (.bld #[.string ⟨#[]⟩,.int .i64 0,.slice none 0 0,.int .i64 0] [(0,1),(1,1),(2,1),(3,1)] [(0,.t 41),(1,.t 47)]),oW 7 (.agg #[.string ⟨#[]⟩,.int .i64 0,.slice none 0 0,.int .i64 0]),oS 7 48 4] u19_22 [(0,none),(1,none),(2,none),(3,none),(4,none),(5,none),(6,none),(7,none),(8,none),(9,none),(10,none),(11,none),(12,none),(13,none),(14,some [])] 15 [1,2,3,6]
abbrev u19_33:=qE [oM 34 6,oK 35 34 .add 1,oM 6 35] [1,2,3,6]
abbrev u19_20:=qB u19_21 u19_33 3 [1,2,3,6]
abbrev u19_17:=qQ u19_18 u19_20 [1,2,3,6]
abbrev u19_16:=qJ (.loop u19_17) 2 [1,2,3,6]
abbrev u19_15:=qS [oI 6 0] u19_16 [1,2,3]
abbrev u19_34:=qS [oD 88 3 2,oS 2 88 2] .ret [2,3]
abbrev u19_14:=qQ u19_15 u19_34 [1,2,3]
abbrev u19_3:=qQ u19_4 u19_14 [1,2,3]
abbrev u19_2:=qS [oW 3 (.agg #[.slice none 0 0,.slice none 0 0])] u19_3 [1,2]
abbrev u19_1:=qS [oX 1 0,oW 2 (.agg #[.slice none 0 0,.slice none 0 0])] u19_2 [0]
def u19:IFn:=⟨89,u19_1,[.cell 2 2 true]⟩
theorem isU19:A7 Tryz.prog 19 u19:=by unfold A7;kernel_rfl
abbrev u101_2:=qS [oF 7 3 0,oL 8 7,oF 9 4 0,oL 10 9,oB 11 8 10 .eql,oM 12 11,gF 13 3 1 12,gL 14 13 12,gF 15 4 1 12,gL 16 15 12,oG 17 (.bin .eql (.t 14) (.t 16)) 12,oJ 18 12 17,oM 19 18,gF 20 3 2 19,gL 21 20 19,gF 22 4 2 19,gL 23 22 19,oG 24 (.bin .eql (.t 21) (.t 23)) 19,oJ 25 19 24,oM 26 25,gM 27 2 26,gM 28 27 26,hF 29 3 4 28,hL 30 29 28,hF 31 4 4 28,hL 32 31 28,oR 33 (.bin .eql (.t 30) (.t 32)) 28,oG 34 (.pick (.t 28) (.k (.bool true)) (.t 33)) 26,oJ 35 26 34,oM 36 35,gF 37 3 3 36,gL 38 37 36,gF 39 4 3 36,gL 40 39 36,gM 41 2 36,⟨some 42,.call 138 [.t 38,.t 40,.t 41],some (36,true)⟩,oJ 43 36 42,oM 6 43] .ret [2,3,4]
abbrev u101_1:=qS [oX 3 0,oX 4 1,oV 6 (.bool false)] u101_2 [0,1,2]
def u101:IFn:=⟨44,u101_1,[.tmp 6]⟩
theorem isU101:A7 Tryz.prog 101 u101:=by unfold A7;kernel_rfl
abbrev u138_5:=qS [oV 6 (.bool false)] .ret []
abbrev u138_4:=qK u138_5 .skip (.t 12) [0,1,2,12]
abbrev u138_3:=qS [oM 8 0,oH 9 8,oM 10 1,oH 11 10,oB 12 9 11 .neq] u138_4 [0,1,2]
abbrev u138_11:=qK .skip (.exit 0) (.t 16) [0,1,2,7,16]
abbrev u138_10:=qS [oM 13 7,oM 14 0,oH 15 14,oB 16 13 15 .lss] u138_11 [0,1,2,7]
abbrev u138_15:=qS [oV 6 (.bool false)] .ret []
abbrev u138_14:=qK u138_15 .skip (.t 29) [0,1,2,7,29]
abbrev u138_13:=qP [oM 19 0,oM 20 7,oA 21 19 20 5,oD 22 21 5,oM 23 1,oM 24 7,oA 25 23 24 5,oD 26 25 5,oM 27 2,oC 28 101 [.t 22,.t 26,.t 27],oY 29 28] u138_14 0 11 [0,1,2,7]
abbrev u138_16:=qE [oM 17 7,oK 18 17 .add 1,oM 7 18] [0,1,2,7]
abbrev u138_12:=qB u138_13 u138_16 1 [0,1,2,7]
abbrev u138_9:=qQ u138_10 u138_12 [0,1,2,7]
abbrev u138_8:=qJ (.loop u138_9) 0 [0,1,2,7]
abbrev u138_7:=qS [oI 7 0] u138_8 [0,1,2]
abbrev u138_17:=qS [oV 6 (.bool true)] .ret []
abbrev u138_6:=qQ u138_7 u138_17 [0,1,2]
abbrev u138_2:=qQ u138_3 u138_6 [0,1,2]
abbrev u138_1:=qS [oV 6 (.bool false)] u138_2 [0,1,2]
def u138:IFn:=⟨30,u138_1,[.tmp 6]⟩
theorem isU138:A7 Tryz.prog 138 u138:=by unfold A7;kernel_rfl
abbrev u136_5:=qS [oV 4 (.bool false)] .ret []
abbrev u136_4:=qK u136_5 .skip (.t 12) [0,1,12]
abbrev u136_3:=qS [oM 8 0,oH 9 8,oM 10 1,oH 11 10,oB 12 9 11 .neq] u136_4 [0,1]
abbrev u136_11:=qK .skip (.exit 0) (.t 16) [0,1,5,16]
abbrev u136_10:=qS [oM 13 5,oM 14 0,oH 15 14,oB 16 13 15 .lss] u136_11 [0,1,5]
abbrev u136_16:=qS [oV 4 (.bool false)] .ret []
abbrev u136_15:=qK u136_16 .skip (.t 76) [0,1,5,76]
abbrev u136_14:=qS [oF 27 6 0,oL 28 27,oF 29 7 0,oL 30 29,oB 31 28 30 .neq,oM 32 31,hF 33 6 1 32,hL 34 33 32,hF 35 7 1 32,hL 36 35 32,oR 37 (.bin .neq (.t 34) (.t 36)) 32,oO 38 32 37,oM 39 38,hF 40 6 2 39,hL 41 40 39,hF 42 7 2 39,hL 43 42 39,oR 44 (.bin .neq (.t 41) (.t 43)) 39,oO 45 39 44,oM 46 45,hF 47 6 6 46,hL 48 47 46,hF 49 7 6 46,hL 50 49 46,oR 51 (.bin .neq (.t 48) (.t 50)) 46,oO 52 46 51,oM 53 52,hF 54 6 3 53,hL 55 54 53,hF 56 7 3 53,hL 57 56 53,⟨some 58,.call 138 [.t 55,.t 57,.k (.bool false)],some (53,false)⟩,oR 59 (.un .not (.t 58)) 53,oO 60 53 59,oM 61 60,hF 62 6 4 61,hL 63 62 61,hF 64 7 4 61,hL 65 64 61,⟨some 66,.call 136 [.t 63,.t 65],some (61,false)⟩,oR 67 (.un .not (.t 66)) 61,oO 68 61 67,oM 69 68,hF 70 6 5 69,hL 71 70 69,hF 72 7 5 69,hL 73 72 69,⟨some 74,.call 136 [.t 71,.t 73],some (69,false)⟩,oR 75 (.un .not (.t 74)) 69,oO 76 69 75] u136_15 [0,1,5,6,7]
abbrev u136_13:=qD [oM 19 0,oM 20 5,oA 21 19 20 7,oD 22 21 7,oM 23 1,oM 24 5,oA 25 23 24 7,oD 26 25 7,oW 6 (.agg #[.int .i64 0,.string ⟨#[]⟩,.string ⟨#[]⟩,.slice none 0 0,.slice none 0 0,.slice none 0 0,.int .i64 0]),oW 7 (.agg #[.int .i64 0,.string ⟨#[]⟩,.string ⟨#[]⟩,.slice none 0 0,.slice none 0 0,.slice none 0 0,.int .i64 0]),oS 6 22 7,oS 7 26 7] u136_14 [(0,none),(1,none),(2,none),(3,none),(4,none),(5,none),(6,none),(7,none),(8,none),(9,none),(10,some [4,5,6,7]),(11,some [])] 12 [0,1,5]
abbrev u136_17:=qE [oM 17 5,oK 18 17 .add 1,oM 5 18] [0,1,5]
abbrev u136_12:=qB u136_13 u136_17 1 [0,1,5]
abbrev u136_9:=qQ u136_10 u136_12 [0,1,5]
abbrev u136_8:=qJ (.loop u136_9) 0 [0,1,5]
abbrev u136_7:=qS [oI 5 0] u136_8 [0,1]
abbrev u136_18:=qS [oV 4 (.bool true)] .ret []
abbrev u136_6:=qQ u136_7 u136_18 [0,1]
abbrev u136_2:=qQ u136_3 u136_6 [0,1]
abbrev u136_1:=qS [oV 4 (.bool false)] u136_2 [0,1]
def u136:IFn:=⟨77,u136_1,[.tmp 4]⟩
theorem isU136:A7 Tryz.prog 136 u136:=by unfold A7;kernel_rfl
abbrev u99_5:=qS [oV 4 (.bool false)] .ret []
abbrev u99_4:=qK u99_5 .skip (.t 27) [2,3,27]
abbrev u99_3:=qS [oF 12 2 0,oL 13 12,oH 14 13,oF 15 3 0,oL 16 15,oH 17 16,oB 18 14 17 .neq,oM 19 18,hF 20 2 1 19,hL 21 20 19,oR 22 (.len (.t 21)) 19,hF 23 3 1 19,hL 24 23 19,oR 25 (.len (.t 24)) 19,oR 26 (.bin .neq (.t 22) (.t 25)) 19,oO 27 19 26] u99_4 [2,3]
abbrev u99_11:=qK .skip (.exit 0) (.t 32) [2,3,5,32]
abbrev u99_10:=qS [oM 28 5,oF 29 2 0,oL 30 29,oH 31 30,oB 32 28 31 .lss] u99_11 [2,3,5]
abbrev u99_15:=qS [oV 4 (.bool false)] .ret []
abbrev u99_14:=qK u99_15 .skip (.t 45) [2,3,5,45]
abbrev u99_13:=qP [oF 35 2 0,oL 36 35,oM 37 5,oA 38 36 37 4,oD 39 38 4,oF 40 3 0,oL 41 40,oM 42 5,oA 43 41 42 4,oD 44 43 4,oP 45 (.eqa true [0,2,0,0] (.t 39) (.t 44))] u99_14 0 11 [2,3,5]
abbrev u99_16:=qE [oM 33 5,oK 34 33 .add 1,oM 5 34] [2,3,5]
abbrev u99_12:=qB u99_13 u99_16 1 [2,3,5]
abbrev u99_9:=qQ u99_10 u99_12 [2,3,5]
abbrev u99_8:=qJ (.loop u99_9) 0 [2,3,5]
abbrev u99_7:=qS [oI 5 0] u99_8 [2,3]
abbrev u99_22:=qK .skip (.exit 2) (.t 50) [2,3,6,50]
abbrev u99_21:=qS [oM 46 6,oF 47 2 1,oL 48 47,oH 49 48,oB 50 46 49 .lss] u99_22 [2,3,6]
abbrev u99_28:=qS [oV 4 (.bool false)] .ret []
abbrev u99_27:=qK u99_28 .skip (.t 90) [2,3,6,7,8,90]
abbrev u99_26:=qS [oF 63 7 0,oL 64 63,oF 65 8 0,oL 66 65,oB 67 64 66 .neq,oM 68 67,hF 69 7 1 68,hL 70 69 68,hF 71 8 1 68,hL 72 71 68,oR 73 (.bin .neq (.t 70) (.t 72)) 68,oO 74 68 73,oM 75 74,hF 76 7 3 75,hL 77 76 75,hF 78 8 3 75,hL 79 78 75,oR 80 (.bin .neq (.t 77) (.t 79)) 75,oO 81 75 80,oM 82 81,hF 83 7 2 82,hL 84 83 82,oR 85 (.len (.t 84)) 82,hF 86 8 2 82,hL 87 86 82,oR 88 (.len (.t 87)) 82,oR 89 (.bin .neq (.t 85) (.t 88)) 82,oO 90 82 89] u99_27 [2,3,6,7,8]
abbrev u99_33:=qK .skip (.exit 4) (.t 95) [2,3,6,7,8,9,95]
abbrev u99_32:=qS [oM 91 9,oF 92 7 2,oL 93 92,oH 94 93,oB 95 91 94 .lss] u99_33 [2,3,6,7,8,9]
abbrev u99_38:=qS [oV 4 (.bool false)] .ret []
abbrev u99_37:=qK u99_38 .skip (.t 134) [2,3,6,7,8,9,134]
abbrev u99_36:=qS [oF 108 10 0,oL 109 108,oF 110 11 0,oL 111 110,oB 112 109 111 .neq,oM 113 112,hF 114 10 1 113,hL 115 114 113,hF 116 11 1 113,hL 117 116 113,oR 118 (.bin .neq (.t 115) (.t 117)) 113,oO 119 113 118,oM 120 119,hF 121 10 3 120,hL 122 121 120,hF 123 11 3 120,hL 124 123 120,oR 125 (.bin .neq (.t 122) (.t 124)) 120,oO 126 120 125,oM 127 126,hF 128 10 2 127,hL 129 128 127,hF 130 11 2 127,hL 131 130 127,⟨some 132,.call 136 [.t 129,.t 131],some (127,false)⟩,oR 133 (.un .not (.t 132)) 127,oO 134 127 133] u99_37 [2,3,6,7,8,9,10,11]
abbrev u99_35:=qD [oF 98 7 2,oL 99 98,oM 100 9,oA 101 99 100 4,oD 102 101 4,oF 103 8 2,oL 104 103,oM 105 9,oA 106 104 105 4,oD 107 106 4,oW 10 (.agg #[.int .i64 0,.string ⟨#[]⟩,.slice none 0 0,.int .i64 0]),oW 11 (.agg #[.int .i64 0,.string ⟨#[]⟩,.slice none 0 0,.int .i64 0]),oS 10 102 4,oS 11 107 4] u99_36 [(0,none),(1,none),(2,none),(3,none),(4,none),(5,none),(6,none),(7,none),(8,none),(9,none),(10,none),(11,none),(12,some [5,6,7,8,9]),(13,some [])] 14 [2,3,6,7,8,9]
abbrev u99_39:=qE [oM 96 9,oK 97 96 .add 1,oM 9 97] [2,3,6,7,8,9]
abbrev u99_34:=qB u99_35 u99_39 5 [2,3,6,7,8,9]
abbrev u99_31:=qQ u99_32 u99_34 [2,3,6,7,8,9]
abbrev u99_30:=qJ (.loop u99_31) 4 [2,3,6,7,8,9]
abbrev u99_29:=qS [oI 9 0] u99_30 [2,3,6,7,8]
abbrev u99_25:=qQ u99_26 u99_29 [2,3,6,7,8]
abbrev u99_24:=qD [oF 53 2 1,oL 54 53,oM 55 6,oA 56 54 55 4,oD 57 56 4,oF 58 3 1,oL 59 58,oM 60 6,oA 61 59 60 4,oD 62 61 4,oW 7 (.agg #[.string ⟨#[]⟩,.int .i64 0,.slice none 0 0,.int .i64 0]),oW 8 (.agg #[.string ⟨#[]⟩,.int .i64 0,.slice none 0 0,.int .i64 0]),oS 7 57 4,oS 8 62 4] u99_25 [(0,none),(1,none),(2,none),(3,none),(4,none),(5,none),(6,none),(7,none),(8,none),(9,none),(10,none),(11,none),(12,some [5,6,7,8,9]),(13,some [])] 14 [2,3,6]
abbrev u99_40:=qE [oM 51 6,oK 52 51 .add 1,oM 6 52] [2,3,6]
abbrev u99_23:=qB u99_24 u99_40 3 [2,3,6]
abbrev u99_20:=qQ u99_21 u99_23 [2,3,6]
abbrev u99_19:=qJ (.loop u99_20) 2 [2,3,6]
abbrev u99_18:=qS [oI 6 0] u99_19 [2,3]
abbrev u99_41:=qS [oV 4 (.bool true)] .ret []
abbrev u99_17:=qQ u99_18 u99_41 [2,3]
abbrev u99_6:=qQ u99_7 u99_17 [2,3]
abbrev u99_2:=qQ u99_3 u99_6 [2,3]
abbrev u99_1:=qS [oX 2 0,oX 3 1,oV 4 (.bool false)] u99_2 [0,1]
def u99:IFn:=⟨135,u99_1,[.tmp 4]⟩
theorem isU99:A7 Tryz.prog 99 u99:=by unfold A7;kernel_rfl
theorem A1j {k v p:Int} {x:List UInt8}:∃ H2,GL (nil.upd 0 ⟨4,true,[I64 k,.str x,I64 v,I64 p]⟩) [.slc 0 0 1] H2 [C9 [⟨k,x,v,p⟩]] :=
 L6 rfl rfl rfl (D8 _) ⟨[],rfl⟩
theorem A3c {o:Option Nat} {xs:List DV} {u n:Nat} (hno:o=none->xs=[]) (hl:xs.length=n) (hu:∀ x∈xs,x.cells.length=u) :
  ∃ H2,GL (C0 Sym.nil o ⟨u,true,A4 xs⟩) [B3 o n] H2 [.lst xs]:=by
 cases o with
 | none=>rw [hno rfl];exact B0b
 | some i=>exact L6 (id:=i) A0 rfl hl hu ⟨[],by simp⟩
theorem c_named (s:List UInt8) (hs:s.length<=1000000000):PC Tryz.prog 133 [.str s] (C9 (D1 s)):=by
 refine PC.of A9 isU133 (A0B rfl) (by simp [DV.nlL,DV.nl]) (by simp [DV.nlL,DV.nl]) ?_;show IW Tryz.prog 11 u133_1 ⟨B7 _,_,_⟩ (rt [.tmp 2] _);have h1:=c_IsNameR s hs;unfold D1;cases h:D7 s with
 | true =>
  rw [if_neg (by decide)];repeat' ((with_reducible first|apply wr|refine cpc h1 ?_|fail)<;>try simp only [go_sem,seval,h])
  exact A1j
 | false =>
  rw [if_pos rfl];repeat' ((with_reducible first|apply wr|refine cpc h1 ?_|fail)<;>try simp only [go_sem,seval,h])
  exact A1j
theorem c_number31 (n:Int):PC Tryz.prog 134 [I64 n] (C9 (S1 n)):=by
 refine PC.of A9 isU134 (A0B rfl) (by simp [DV.nlL,DV.nl]) (by simp [DV.nlL,DV.nl]) ?_;show IW Tryz.prog 14 u134_1 ⟨B7 _,_,_⟩ (rt [.tmp 2] _);unfold S1;by_cases h0:n<0
 ·have hd:decide (n<0)=true:=by simpa using h0
  rw [if_pos (.inl h0)];repeat' ((with_reducible apply wr)<;>try simp only [go_sem,seval,hd])
  exact A1j
 ·have hd:decide (n<0)=false:=by simpa using h0
  by_cases h1:2147483647<n
  ·have hd1:decide (n>2147483647)=true:=by simpa using h1
   rw [if_pos (.inr h1)];repeat' ((with_reducible apply wr)<;>try simp only [go_sem,seval,hd,hd1])
   exact A1j
  ·have hd1:decide (n>2147483647)=false:=by simpa using h1
   rw [if_neg (by omega)];repeat' ((with_reducible apply wr)<;>try simp only [go_sem,seval,hd,hd1])
   exact A1j
theorem c_words1 (l:List (List UInt8)) (hl:l.length<=1000000) (hx:∀ x∈l,x.length<=1000000000):PC Tryz.prog 132 [A1y l] (C9 (l.map A5)):=by
 refine PC.of A9 isU132 (A0B rfl) (by simp [DV.nlL,DV.nl,N0]) (J5 _) ?_;show IW Tryz.prog 34 u132_1 ⟨B7 _,_,_⟩ (rt [.tmp 2] _);repeat' ((with_reducible apply wr)<;>try simp only [go_sem,seval])
 refine B9 (fun q:Nat × Option Nat=>[(0,A1y l),(3,B3 q.2 q.1),(4,I64 q.1)]) (fun q=>C0 Sym.nil q.2 ⟨4,true,A4 (((l.take q.1).map A5).map Tok.v)⟩)
  (fun q c=>q.1<=l.length/\(q.2=none->q.1=0)/\(∀ i,q.2=some i->i<c)) (fun q=>l.length-q.1) (0,none)
  (by simp [C1,tm,Tm.upd,B3]) (Sub.nil _) ⟨A0N _,fun _=>rfl,(fun i hi=>by cases hi)⟩ ?_
 rintro ⟨k,o⟩ c ⟨hk,hno,ho⟩;dsimp only at hk hno ho ⊢;by_cases hlt:k<l.length
 ·have hd:decide ((k:Int)<(l.length:Int))=true:=by simpa using hlt
  have hg:=A0C hlt;have hx1:=hx _ (A0M hlt);have hw:=w64 (n:=(k:Int)+1) (by omega) (by omega);have e0:(l.take (k+1)).map A5=(l.take k).map A5++[A5 l[k]]:=by rw [A0X,hg,A0W];rfl
  generalize l[k]=x at hg hx1 e0;have h1:=c_IsWordR x;have h2:=c_IsNameR x (by omega);have ne0:=L2 c (c+1) (by omega);have hln:(A4 (((l.take k).map A5).map Tok.v)).length=k * 4:=(C2 (u:=4) (D8 _)).trans (by rw [A0D,A0D,A0S,Nat.min_eq_left hk]);cases hw1:G7 x with
  | true =>
   repeat' ((with_reducible first|apply wr|refine cpc h1 ?_|refine cpc h2 ?_|fail)<;>try simp only [go_sem,seval,hd,hg,hw,hw1,ne0,A0,A1])
   refine F3 (F0 (cs:=A4 (((l.take k).map A5).map Tok.v)) (fun e=>by have:=hno e;subst this;exact ⟨rfl,rfl⟩) (fun i hi=>by have:=ho i hi;rw [A2 (by omega),A2 (by omega)];exact A0p hi) hln (by omega) (by omega) (by omega)) ?_;simp only [go_sem,seval,ne0];repeat' ((with_reducible apply wr)<;>try simp only [go_sem,seval,hd,hw,ne0])
   refine ⟨(k+1,some (c+1+1)),by simp [C1,tm,Tm.upd,B3],?_,inv ⟨by omega,(fun h=>by cases h),(fun i hi=>by cases hi;omega)⟩,by simp only;omega⟩;dsimp only [C0];rw [e0,A0W,C5];refine R4 ?_;unfold A5;simp only [hw1,if_true,if_false,A1J];rfl
  | false =>
   cases hn1:D7 x with
   | true =>
    repeat' ((with_reducible first|apply wr|refine cpc h1 ?_|refine cpc h2 ?_|fail)<;>try simp only [go_sem,seval,hd,hg,hw,hw1,hn1,ne0,A0,A1])
    refine F3 (F0 (cs:=A4 (((l.take k).map A5).map Tok.v)) (fun e=>by have:=hno e;subst this;exact ⟨rfl,rfl⟩) (fun i hi=>by have:=ho i hi;rw [A2 (by omega),A2 (by omega)];exact A0p hi) hln (by omega) (by omega) (by omega)) ?_;simp only [go_sem,seval,ne0];repeat' ((with_reducible apply wr)<;>try simp only [go_sem,seval,hd,hw,ne0])
    refine ⟨(k+1,some (c+1+1)),by simp [C1,tm,Tm.upd,B3],?_,inv ⟨by omega,(fun h=>by cases h),(fun i hi=>by cases hi;omega)⟩,by simp only;omega⟩;dsimp only [C0];rw [e0,A0W,C5];refine R4 ?_;unfold A5;simp only [hw1,hn1,if_true,if_false,A1J];rfl
   | false =>
    repeat' ((with_reducible first|apply wr|refine cpc h1 ?_|refine cpc h2 ?_|fail)<;>try simp only [go_sem,seval,hd,hg,hw,hw1,hn1,ne0,A0,A1])
    refine F3 (F0 (cs:=A4 (((l.take k).map A5).map Tok.v)) (fun e=>by have:=hno e;subst this;exact ⟨rfl,rfl⟩) (fun i hi=>by have:=ho i hi;rw [A2 (by omega),A2 (by omega)];exact A0p hi) hln (by omega) (by omega) (by omega)) ?_;simp only [go_sem,seval,ne0];repeat' ((with_reducible apply wr)<;>try simp only [go_sem,seval,hd,hw,ne0])
    refine ⟨(k+1,some (c+1+1)),by simp [C1,tm,Tm.upd,B3],?_,inv ⟨by omega,(fun h=>by cases h),(fun i hi=>by cases hi;omega)⟩,by simp only;omega⟩;dsimp only [C0];rw [e0,A0W,C5];refine R4 ?_;unfold A5;simp only [hw1,hn1,if_true,if_false,A1J];rfl
 ·have hd:decide ((k:Int)<(l.length:Int))=false:=by simpa using hlt
  repeat' ((with_reducible apply wr)<;>try simp only [go_sem,seval,hd])
  rw [A0J (by omega)];exact A3c (fun e=>by rw [A1R (l:=l) (by have:=hno e;omega)];rfl) (by simp;omega) (D8 _)
theorem c_join1 (l:List (List Tok)) (hl:l.length<=1000) (hx:∀ x∈l,1<=x.length/\x.length<=1000000000):PC Tryz.prog 131 [.lst (l.map C9)] (C9 l.flatten):=by
 refine PC.of A9 isU131 (A0B rfl) (by simp only [DV.nlL,DV.nl,K8 (f:=C9) (fun a=>J5 a),A2E]) (J5 _) ?_;show IW Tryz.prog 18 u131_1 ⟨B7 _,_,_⟩ (rt [.tmp 2] _);repeat' ((with_reducible apply wr)<;>try simp only [go_sem,seval])
 refine B9 (fun q:Nat × Option Nat=>[(0,.lst (l.map C9)),(3,B3 q.2 (l.take q.1).flatten.length),(4,I64 q.1)]) (fun q=>C0 Sym.nil q.2 ⟨4,true,A4 ((l.take q.1).flatten.map Tok.v)⟩)
  (fun q c=>q.1<=l.length/\(q.2=none->q.1=0)/\(∀ i,q.2=some i->i<c)/\(l.take q.1).flatten.length<=1000000000 * q.1) (fun q=>l.length-q.1) (0,none)
  (by simp [C1,tm,Tm.upd,B3]) (Sub.nil _) ⟨A0N _,fun _=>rfl,(fun i hi=>by cases hi),by simp⟩ ?_
 rintro ⟨k,o⟩ c ⟨hk,hno,ho,hlen⟩;dsimp only at hk hno ho hlen ⊢;by_cases hlt:k<l.length
 ·have hd:decide ((k:Int)<(l.length:Int))=true:=by simpa using hlt
  have hg:=A0C hlt;obtain ⟨hx1,hx2⟩:=hx _ (A0M hlt);have hw:=w64 (n:=(k:Int)+1) (by omega) (by omega);have e0:(l.take (k+1)).flatten=(l.take k).flatten++l[k]:=by rw [A0X,hg,List.flatten_append];simp
  generalize l[k]=x at hg hx1 hx2 e0;generalize hy:(l.take k).flatten=y at hlen e0 ⊢;have hun:unit 4 (x.map Tok.v)=true:=by unfold unit;rw [A0R];intro d hd;simp [D8 x d hd]
  have hny:o=none->y=[]:=fun e=>by rw [<- hy,hno e];rfl
  have hln:(A4 (y.map Tok.v)).length=y.length * 4:=(C2 (u:=4) (D8 _)).trans (by simp);repeat' ((with_reducible apply wr)<;>try simp only [go_sem,seval,hd,hg,hw,N5 hun])
  refine F3 (F0 (cs:=A4 (y.map Tok.v)) (fun e=>by rw [hny e];exact ⟨rfl,rfl⟩) (fun i hi=>A0p hi) hln (by omega) (by omega) (by omega)) ?_;simp only [go_sem,seval];repeat' ((with_reducible apply wr)<;>try simp only [go_sem,seval,hd,hw])
  refine ⟨(k+1,some c),by simp [C1,tm,Tm.upd,B3,e0],?_,inv ⟨by omega,(fun h=>by cases h),(fun i hi=>by cases hi;omega),by simp only;rw [e0,A0A];omega⟩,by simp only;omega⟩;dsimp only [C0];rw [e0,A0W,C5];exact R4 rfl
 ·have hd:decide ((k:Int)<(l.length:Int))=false:=by simpa using hlt
  repeat' ((with_reducible apply wr)<;>try simp only [go_sem,seval,hd])
  rw [A0J (by omega)];exact A3c (fun e=>by rw [A1R (l:=l) (by have:=hno e;omega)];rfl) (by rw [A0D]) (D8 _)
end Go.Proofs.YtnmkkggfgdfmeaaGreatDoor
namespace Go.Pb
variable [Go.Sym.Tab]
open Go.Sym
mutual
def Ex.sz:Ex->Nat
 | .mk k v n a p=>1+n.length+Ex.szs a
def Ex.szs:List Ex->Nat
 | []=>0
 | e :: l=>e.sz+Ex.szs l
end
mutual
def St.sz:St->Nat
 | .mk k n t a x y p=>1+n.length+t.length+Ex.szs a+St.szs x+St.szs y
def St.szs:List St->Nat
 | []=>0
 | e :: l=>e.sz+St.szs l
end
def Dc.sz (d:Dc):Nat:=1+d.name.length
def Hd.sz (h:Hd):Nat:=1+h.name.length+St.szs h.body
def Md.sz (m:Md):Nat:=1+m.name.length+(m.hds.map Hd.sz).sum
def Ru.sz (r:Ru):Nat:=(r.decls.map Dc.sz).sum+(r.modes.map Md.sz).sum
theorem Ex.szs_map:∀ l:List Ex,Ex.szs l=(l.map Ex.sz).sum
 | []=>rfl
 | e :: l=>by rw [Ex.szs,Ex.szs_map l];rfl
theorem St.szs_map:∀ l:List St,St.szs l=(l.map St.sz).sum
 | []=>rfl
 | e :: l=>by rw [St.szs,St.szs_map l];rfl
theorem I3 {α : Type} {f : α -> Nat} {x : α}:∀ {l:List α},x∈l->f x<=(l.map f).sum
 | a :: l,h=>by
  rw [A0Z,A2Z];rcases A2L.1 h with rfl|h
  ·omega
  ·have:=I3 (f:=f) h;omega
theorem G9 {α : Type} {f : α -> Nat}:∀ {l:List α},(∀ x∈l,1<=f x)->l.length<=(l.map f).sum
 | [],h=>A0N _
 | a :: l,h=>by
  have:=G9 (f:=f) (l:=l) fun x hx=>h x (A0P _ hx);have:=h a A0O;rw [A0Z,A2Z,A0E];omega
theorem Ex.sz_pos (e:Ex):1<=e.sz:=by cases e with|mk k v n a p=>rw [Ex.sz];omega
theorem St.sz_pos (e:St):1<=e.sz:=by cases e with|mk k n t a x y p=>rw [St.sz];omega
theorem Ex.sz_arg {e x:Ex} (h:x∈e.args):x.sz<e.sz:=by
 cases e with|mk k v n a p =>
 have:=I3 (f:=Ex.sz) h;rw [Ex.sz,Ex.szs_map];have h':(Ex.mk k v n a p).args=a:=rfl;rw [h'] at this;omega
theorem Ex.sz_name (e:Ex):e.name.length<e.sz:=by
 cases e with|mk k v n a p=>rw [Ex.sz];show n.length<_;omega
theorem Ex.sz_args (e:Ex):e.args.length<e.sz:=by
 cases e with|mk k v n a p =>
 have:=G9 (f:=Ex.sz) (l:=a) fun x _=>x.sz_pos;rw [Ex.sz,Ex.szs_map];show a.length<_;omega
theorem St.sz_name (e:St):e.name.length<e.sz:=by
 cases e with|mk k n t a x y p=>rw [St.sz];show n.length<_;omega
theorem St.sz_text (e:St):e.text.length<e.sz:=by
 cases e with|mk k n t a x y p=>rw [St.sz];show t.length<_;omega
theorem St.sz_arg {e:St} {x:Ex} (h:x∈e.args):x.sz<e.sz:=by
 cases e with|mk k n t a u w p =>
 have:=I3 (f:=Ex.sz) h;have h':(St.mk k n t a u w p).args=a:=rfl;rw [h'] at this;rw [St.sz,Ex.szs_map];omega
theorem St.sz_args (e:St):e.args.length<e.sz:=by
 cases e with|mk k n t a u w p =>
 have:=G9 (f:=Ex.sz) (l:=a) fun x _=>x.sz_pos;rw [St.sz,Ex.szs_map];show a.length<_;omega
theorem St.sz_thn (e:St):St.szs e.thn<e.sz:=by
 cases e with|mk k n t a u w p=>rw [St.sz];show St.szs u<_;omega
theorem St.sz_els (e:St):St.szs e.els<e.sz:=by
 cases e with|mk k n t a u w p=>rw [St.sz];show St.szs w<_;omega
theorem St.szs_len (l:List St):l.length<=St.szs l:=by rw [St.szs_map];exact G9 fun x _=>x.sz_pos
theorem St.szs_mem {l:List St} {x:St} (h:x∈l):x.sz<=St.szs l:=by rw [St.szs_map];exact I3 h
theorem Ex.szs_mem {l:List Ex} {x:Ex} (h:x∈l):x.sz<=Ex.szs l:=by rw [Ex.szs_map];exact I3 h
theorem Ex.szs_len (l:List Ex):l.length<=Ex.szs l:=by rw [Ex.szs_map];exact G9 fun x _=>x.sz_pos
theorem A3 (s:List UInt8):(D1 s).length=1:=by unfold D1;split<;>rfl
theorem B0 (n:Int):(S1 n).length=1:=by unfold S1;split<;>rfl
theorem A8 (s:List UInt8):(A0b s).length=1:=by unfold A0b;split<;>rfl
theorem A1k (q:Int × List Tok) (n:Int):q.2.length<=(E2 q n).length/\(E2 q n).length<=q.2.length+2:=by
 unfold E2;split
 ·simp only [A0A,A0H];omega
 ·omega
theorem A3o:∀ l:List Ex,A5j l=l.map fun e=>(e.kind,exT e)
 | []=>rfl
 | e :: l=>by rw [A5j,A3o l];rfl
set_option maxHeartbeats 2000000 in
theorem B4x {k v:Int} {n:List UInt8} {as1:List (Int × List Tok)}:1<=(J6 k v n as1).length/\(J6 k v n as1).length<=5+(as1.map fun q=>q.2.length).sum:=by
 unfold J6
 match as1 with
 | [] =>
  dsimp only;repeat' split
  all_goals simp only [A0A,A0H,A3,B0]
  all_goals omega
 | [q] =>
  have:=A1k q 6;dsimp only;repeat' split
  all_goals simp only [A0A,A0H,A3,B0,A0Z,List.map_nil,A2Z,List.sum_nil]
  all_goals omega
 | [q,r] =>
  have h1:=A1k q (if B4 k=3 then 4 else B4 k);have h2:=A1k r (B4 k+1);dsimp only;generalize E2 q (if B4 k=3 then 4 else B4 k)=A at h1 ⊢;generalize E2 r (B4 k+1)=B at h2 ⊢;generalize A5 (D3.getD (k-12).toNat [])=W;generalize B4 k=lv;repeat' split
  all_goals simp only [A0A,A0H,A3,B0,A0Z,List.map_nil,A2Z,List.sum_nil]
  all_goals omega
 | q :: r :: w :: l =>
  dsimp only;repeat' split
  all_goals simp only [A0A,A0H,A3,B0]
  all_goals omega
theorem A1p:∀ e:Ex,1<=(exT e).length/\(exT e).length<=5 * e.sz
 | .mk k v n a p=>by
  have ih:∀ x∈a,(exT x).length<=5 * x.sz:=fun x hx=>(A1p x).2;have h:=B4x (k:=k) (v:=v) (n:=n) (as1:=A5j a);rw [exT];refine ⟨h.1,?_⟩;have h2:((A5j a).map fun q=>q.2.length).sum<=5 * Ex.szs a:=by
   rw [A3o,A4B,Ex.szs_map];clear h
   induction a with
   | nil=>simp
   | cons x l ihl =>
    have h1:=ih x A0O;have h2:=ihl fun y hy=>ih y (A0P _ hy);simp only [A0Z,A2Z,Function.comp] at h2 ⊢;omega
  rw [Ex.sz];omega
theorem C3c (l:List Ex) (i:Nat):1<=(agT l i).length/\(agT l i).length<=1+5 * Ex.szs l:=by
 unfold agT;cases h:l[i]? with
 | none=>exact ⟨A0I _,by show 1<=_;omega⟩
 | some e =>
  have h1:=A1p e;have h2:=Ex.szs_mem (A0V h);dsimp only;omega
mutual
theorem A5w:∀ s:St,1<=(stT s).length/\(stT s).length<=11 * s.sz
 | .mk k n t a x y p=>by
  have h0:=C3c a 0;have h1:=C3c a 1;have hx:=A2w x;have hy:∀ l,l=y->(N4 l).length<=11 * St.szs l:=fun l h=>by subst h;exact A2w l
  have hq:∀ q,y=[q]->(stT q).length<=11 * q.sz:=fun q h=>by subst h;exact (A5w q).2
  rw [St.sz];unfold stT;dsimp only;generalize agT a 0=A at h0 ⊢;generalize agT a 1=B at h1 ⊢;generalize N4 x=X at hx ⊢;generalize A5 (C3.getD (k-2).toNat [])=W
  match y,hy,hq with
  | [],hy,hq =>
   dsimp only;rw [St.szs];repeat' split
   all_goals simp only [A0A,A0H,A3,A8]
   all_goals omega
  | [q],hy,hq =>
   have hq:=hq q rfl;dsimp only;rw [St.szs,St.szs];generalize stT q=Q at hq ⊢;repeat' split
   all_goals simp only [A0A,A0H,A3,A8]
   all_goals omega
  | q :: q2 :: r,hy,hq =>
   have hy:=hy _ rfl;dsimp only;generalize N4 (q :: q2 :: r)=Y at hy ⊢;generalize St.szs (q :: q2 :: r)=z at hy ⊢;repeat' split
   all_goals simp only [A0A,A0H,A3,A8]
   all_goals omega
theorem A2w:∀ l:List St,(N4 l).length<=11 * St.szs l
 | []=>A0N _
 | s :: l=>by
  have h1:=A5w s;have h2:=A2w l;rw [N4,St.szs,A0A];omega
end
theorem A6i (l:List St):1<=(blT l).length/\(blT l).length<=11 * St.szs l+2:=by
 have:=A2w l;unfold blT;simp only [A0A,A0H];omega
theorem B6p (d:Dc):1<=(dcT d).length/\(dcT d).length<=6:=by
 unfold dcT;dsimp only;generalize A5 (E1.getD (d.kind-1).toNat [])=W;repeat' split
 all_goals simp only [A0A,A0H,A3,B0]
 all_goals (first|omega|simp)
theorem C5r (h:Hd):1<=(hdT h).length/\(hdT h).length<=11 * h.sz:=by
 have:=A6i h.body;unfold hdT Hd.sz;generalize A5 (E6.getD (h.trig-1).toNat [])=W;split
 ·simp only [A0A,A0E,A0F,A3];omega
 ·simp only [A0A,A0E,A0F];omega
theorem A6g {α : Type} {f : α -> List Tok} {g : α -> Nat} {c:Nat}:∀ {l:List α},(∀ x∈l,(f x).length<=c * g x)->(l.flatMap f).length<=c * (l.map g).sum
 | [],_=>by simp
 | a :: l,h=>by
  have h1:=h a A0O;have h2:=A6g (l:=l) fun x hx=>h x (A0P _ hx);rw [A1V,A0A,A0Z,A2Z,Nat.mul_add];omega
theorem C4y (m:Md):1<=(mdT m).length/\(mdT m).length<=11 * m.sz:=by
 have:=A6g (l:=m.hds) (f:=hdT) (g:=Hd.sz) (c:=11) fun x _=>(C5r x).2;unfold mdT Md.sz;simp only [A0A,A0H,A3,B0];omega
theorem C4a (r:Ru):(ruT r).length<=11 * r.sz+1/\(r.decls.flatMap dcT++r.modes.flatMap mdT).length<=11 * r.sz:=by
 have h1:=A6g (l:=r.decls) (f:=dcT) (g:=Dc.sz) (c:=11) fun x _=>by have:=B6p x;unfold Dc.sz;omega
 have h2:=A6g (l:=r.modes) (f:=mdT) (g:=Md.sz) (c:=11) fun x _=>(C4y x).2;have h3:(r.decls.flatMap dcT++r.modes.flatMap mdT).length<=11 * r.sz:=by
  unfold Ru.sz;rw [A0A];omega
 refine ⟨?_,h3⟩;unfold ruT;split
 ·show 1<=_;omega
 ·omega
end Go.Pb
namespace Go.Proofs.YtnmkkggfgdfmeaaGreatDoor
open Go.Eng (IC IOper DReg IFn A7)
open Go.Sym Go.Pb
theorem R2 {H:Hp} {i j:Nat}:H9 H (some i) j=if j=i then none else H j:=_root_.id rfl
theorem C2p {H:Hp} {i:Nat} {b:Blk}:H9 (H.upd i b) (some i)=H9 H (some i):=by
 funext j;rw [R2,R2];split
 ·rfl
 ·rename_i h;rw [A2 h]
theorem C5x {H:Hp} {i k:Nat} {b:Blk} (h:¬ k=i):H9 (H.upd k b) (some i)=(H9 H (some i)).upd k b:=by
 funext j;rw [R2]
 by_cases e:j=k
 ·subst e;rw [A0,if_neg h,A0]
 ·rw [A2 e,A2 e,R2]
theorem C5y {i:Nat}:H9 nil (some i)=nil:=by
 funext j;rw [R2];split<;>rfl
theorem C9x {ks:List Nat} {H:Hp} {i:Nat} (h:ks.all (fun k=>k != i)=true):H8 ks H (H9 (L3 H ks) (some i))=H9 H (some i):=by
 have hi:i ∉ ks:=fun hm=>by simpa using A0R.1 h i hm
 funext j
 simp only [H8,R2,L3];by_cases e:j=i
 ·subst e;rw [if_neg hi,if_pos rfl,if_pos rfl]
 ·by_cases e2:j∈ks
  ·rw [if_pos e2,if_neg e]
  ·rw [if_neg e2,if_neg e,if_neg e,if_neg e2]
attribute [go_sem] C2p C5x C5y
theorem C4w {k i:Nat} {H:Hp} (h:¬ k=i):H8 [k] H (H9 (L3 H [k]) (some i))=H9 H (some i):=C9x (by simpa using h)
attribute [go_sem] C4w
theorem X9 {f:Nat} {xs:List DV} {r:DV} {u id n cc:Nat} {H:Hp} {cs:List DV} (h:PC Tryz.prog f [.lst xs] r) (hb:H id=some ⟨u,true,cs⟩) (hcs:cs=A4 xs) (hl:xs.length=n) (hu:∀ x∈xs,x.cells.length=u) :
  AC Tryz.prog f [.slc id 0 n] H cc (fun v H' c'=>v=r/\H'=H9 H (some id)/\c'=cc) :=
 AC.ghost (GL.frzS (id:=id) hb rfl (fun j=>by
  by_cases e:j=id
  ·subst e;exact .inl (by rw [R2,if_pos rfl])
  ·exact .inr ⟨e,by rw [R2,if_neg e]⟩) (.cons _ _ _ _ (P1 hl hu ⟨[],by rw [hcs];simp⟩) .nil)) (h.at _ cc)
def wT (x:List UInt8):List Tok:=[A5 x]
theorem Y9 (x:List UInt8):1<=(wT x).length/\(wT x).length<=1000000000:=⟨A0I _,by show 1<=_;omega⟩
theorem wd1 {x:List UInt8} {id cc:Nat} {H:Hp} (hb:H id=some ⟨1,true,[.str x]⟩) (hx:x.length<=1000000000) :
  AC Tryz.prog 132 [.slc id 0 1] H cc (fun v H' c'=>v=C9 (wT x)/\H'=H9 H (some id)/\c'=cc) :=
 X9 (xs:=[.str x]) (c_words1 [x] (by simp) (by simpa using hx)) hb rfl rfl (I4 [x])
theorem wd2 {x y:List UInt8} {id cc:Nat} {H:Hp} (hb:H id=some ⟨1,true,[.str x,.str y]⟩) (hx:x.length<=1000000000) (hy:y.length<=1000000000) :
  AC Tryz.prog 132 [.slc id 0 2] H cc (fun v H' c'=>v=C9 [A5 x,A5 y]/\H'=H9 H (some id)/\c'=cc) :=
 X9 (xs:=[.str x,.str y]) (c_words1 [x,y] (by simp) (by simp [hx,hy])) hb rfl rfl (I4 [x,y])
theorem A2s (l:List (List Tok)):∀ x∈l.map C9,x.cells.length=1:=fun x hx=>by obtain ⟨y, -,rfl⟩:=A1Z.1 hx;rfl
theorem jn2 {a b:List Tok} {id cc:Nat} {H:Hp} (hH:H id=some ⟨1,true,[C9 a,C9 b]⟩) (ha:1<=a.length/\a.length<=1000000000) (hb:1<=b.length/\b.length<=1000000000) :
  AC Tryz.prog 131 [.slc id 0 2] H cc (fun v H' c'=>v=C9 (a++b)/\H'=H9 H (some id)/\c'=cc):=by
 have:=X9 (id:=id) (cc:=cc) (H:=H) (u:=1) (n:=2) (c_join1 [a,b] (by simp) (by simp [ha,hb])) hH rfl rfl (A2s [a,b])
 rwa [A1K,A1K,A3T,A1T] at this
theorem jn3 {a b c:List Tok} {id cc:Nat} {H:Hp} (hH:H id=some ⟨1,true,[C9 a,C9 b,C9 c]⟩) (ha:1<=a.length/\a.length<=1000000000) (hb:1<=b.length/\b.length<=1000000000) (hc:1<=c.length/\c.length<=1000000000) :
  AC Tryz.prog 131 [.slc id 0 3] H cc (fun v H' c'=>v=C9 (a++b++c)/\H'=H9 H (some id)/\c'=cc):=by
 have:=X9 (id:=id) (cc:=cc) (H:=H) (u:=1) (n:=3) (c_join1 [a,b,c] (by simp) (by simp [ha,hb,hc])) hH rfl rfl (A2s [a,b,c])
 rwa [A1K,A1K,A1K,A3T,A1T, <- A0T] at this
theorem B4c (x:List UInt8):1<=(D1 x).length/\(D1 x).length<=1000000000:=by rw [A3];omega
theorem c_operand (e:Ex) (n:Int) (hT:(exT e).length<=100000000) (h:PC Tryz.prog 100 [e.v] (C9 (exT e))):PC Tryz.prog 137 [e.v,I64 n] (C9 (E2 (e.kind,exT e) n)):=by
 refine PC.of A9 isU137 (A0B rfl) (by simp [DV.nlL,DV.nl,Ex.nl]) (J5 _) ?_;rw [Ex.v_w] at h ⊢;show IW Tryz.prog 20 u137_1 ⟨B7 _,_,_⟩ (rt [.tmp 4] _);have hlv:=c_level e.kind;obtain ⟨hl1, -⟩:=A1p e;obtain ⟨R,hR⟩:∃ R,R=C9 (E2 (e.kind,exT e) n):=⟨_,rfl⟩;rw [<- hR];unfold E2 at hR;dsimp only at hR;generalize exT e=T at h hT hl1 hR;by_cases hlt:B4 e.kind<n
 ·have hd:decide (B4 e.kind<n)=true:=by simpa using hlt
  rw [if_pos hlt] at hR;repeat' ((first|(with_reducible first|refine wr ?_|refine cpc hlv ?_|refine cpc h ?_)|(refine AC.call (wd1 rfl (by decide)) ?_<;>rintro _ _ _ ⟨rfl,rfl,rfl⟩ -)|(refine AC.call (jn3 rfl (Y9 _) ⟨hl1,by omega⟩ (Y9 _)) ?_<;>rintro _ _ _ ⟨rfl,rfl,rfl⟩ -)|fail)<;>try simp only [go_sem,seval,hd])
  exact ⟨_,by rw [hR];exact GL.refl _ _⟩
 ·have hd:decide (B4 e.kind<n)=false:=by simpa using hlt
  rw [if_neg hlt] at hR;repeat' ((with_reducible first|apply wr|refine cpc hlv ?_|refine cpc h ?_|fail)<;>try simp only [go_sem,seval,hd])
  exact ⟨_,by rw [hR];exact GL.refl _ _⟩
theorem B9y {sz:Nat} {xs:List DV} {k:IntKind}:M6 sz (.lst xs) (.int k 1)=B4m sz xs[1]? := B3v (l:=1)
theorem c_exprT:∀ (m:Nat) (e:Ex),e.sz<m->e.sz<=10000000->PC Tryz.prog 100 [e.v] (C9 (exT e)):=by
 intro m
 induction m with
 | zero=>intro e h;omega
 | succ m ih =>
 intro e hm hB;have ihx:∀ x∈e.args,PC Tryz.prog 100 [x.v] (C9 (exT x)):=fun x hx=>ih x (by have:=Ex.sz_arg hx;omega) (by have:=Ex.sz_arg hx;omega);have hop:∀ x∈e.args, ∀ n,PC Tryz.prog 137 [x.v,I64 n] (C9 (E2 (x.kind,exT x) n)):=fun x hx n=>c_operand x n (by have:=(A1p x).2;have:=Ex.sz_arg hx;omega) (ihx x hx);have hle:∀ x∈e.args, ∀ n,1<=(E2 (x.kind,exT x) n).length/\(E2 (x.kind,exT x) n).length<=1000000000:=fun x hx n=>by
  have h1:=A1p x;have h2:=Ex.sz_arg hx;have h3:=A1k (x.kind,exT x) n;dsimp only at h3;omega
 clear ih ihx;obtain ⟨R,hR⟩:∃ R,R=C9 (exT e):=⟨_,rfl⟩;have hnm:=e.sz_name;refine PC.of A9 isU100 (A0B rfl) (by simp [DV.nlL,DV.nl,Ex.nl]) (J5 _) ?_;rw [Ex.v_w, <- hR];cases e with|mk k v n a p =>
 rw [exT,A3o] at hR;dsimp only [Ex.w,Ex.kind,Ex.value,Ex.name,Ex.args,Ex.pos] at hop hle hnm ⊢;unfold J6 at hR;dsimp only at hR;show IW Tryz.prog 140 u100_1 ⟨B7 _,_,_⟩ (rt [.tmp 2] _);have hlv:=c_level k;have hnu:=c_number31 v;have hna:=c_named n (by omega);by_cases h1:k=1
 ·subst h1;rw [if_pos rfl] at hR;repeat' ((with_reducible first|apply wr|refine cpc hlv ?_|refine cpc hnu ?_|fail)<;>try simp only [go_sem,seval])
  exact ⟨_,by rw [hR];exact GL.refl _ _⟩
 have d1:(k == 1)=false:=by simpa using h1
 rw [if_neg h1] at hR;by_cases h2:k=2
 ·subst h2;rw [if_pos rfl] at hR;repeat' ((with_reducible first|apply wr|refine cpc hlv ?_|refine cpc hna ?_|fail)<;>try simp only [go_sem,seval])
  exact ⟨_,by rw [hR];exact GL.refl _ _⟩
 have d2:(k == 2)=false:=by simpa using h2
 rw [if_neg h2] at hR;by_cases h3:k=3
 ·subst h3;rw [if_pos rfl] at hR;repeat' ((first|(with_reducible first|refine wr ?_|refine cpc hlv ?_)|(refine AC.call (wd1 rfl (by decide)) ?_<;>rintro _ _ _ ⟨rfl,rfl,rfl⟩ -)|fail)<;>try simp only [go_sem,seval])
  exact ⟨_,by rw [hR];exact GL.refl _ _⟩
 have d3:(k == 3)=false:=by simpa using h3
 rw [if_neg h3] at hR;by_cases h4:k=4
 ·subst h4;rw [if_pos rfl] at hR;repeat' ((first|(with_reducible first|refine wr ?_|refine cpc hlv ?_)|(refine AC.call (wd1 rfl (by decide)) ?_<;>rintro _ _ _ ⟨rfl,rfl,rfl⟩ -)|fail)<;>try simp only [go_sem,seval])
  exact ⟨_,by rw [hR];exact GL.refl _ _⟩
 have d4:(k == 4)=false:=by simpa using h4
 rw [if_neg h4] at hR;by_cases h8:k=8
 ·subst h8;rw [if_pos rfl] at hR;repeat' ((first|(with_reducible first|refine wr ?_|refine cpc hlv ?_)|(refine AC.call (wd1 rfl (by decide)) ?_<;>rintro _ _ _ ⟨rfl,rfl,rfl⟩ -)|fail)<;>try simp only [go_sem,seval])
  exact ⟨_,by rw [hR];exact GL.refl _ _⟩
 have d8:(k == 8)=false:=by simpa using h8
 rw [if_neg h8] at hR;by_cases h9:k=9
 ·subst h9;rw [if_pos rfl] at hR;repeat' ((first|(with_reducible first|refine wr ?_|refine cpc hlv ?_)|(refine AC.call (wd1 rfl (by decide)) ?_<;>rintro _ _ _ ⟨rfl,rfl,rfl⟩ -)|fail)<;>try simp only [go_sem,seval])
  exact ⟨_,by rw [hR];exact GL.refl _ _⟩
 have d9:(k == 9)=false:=by simpa using h9
 rw [if_neg h9] at hR;by_cases h5:k=5
 ·subst h5;rw [if_pos rfl] at hR;repeat' ((first|(with_reducible first|refine wr ?_|refine cpc hlv ?_|refine cpc hna ?_)|(refine AC.call (wd1 rfl (by decide)) ?_<;>rintro _ _ _ ⟨rfl,rfl,rfl⟩ -)|(refine AC.call (jn2 rfl (Y9 _) (B4c _)) ?_<;>rintro _ _ _ ⟨rfl,rfl,rfl⟩ -)|fail)<;>try simp only [go_sem,seval])
  exact ⟨_,by rw [hR];exact GL.refl _ _⟩
 have d5:(k == 5)=false:=by simpa using h5
 rw [if_neg h5] at hR;by_cases h6:k=6
 ·subst h6;rw [if_pos rfl] at hR;repeat' ((first|(with_reducible first|refine wr ?_|refine cpc hlv ?_|refine cpc hna ?_)|(refine AC.call (wd1 rfl (by decide)) ?_<;>rintro _ _ _ ⟨rfl,rfl,rfl⟩ -)|(refine AC.call (jn2 rfl (Y9 _) (B4c _)) ?_<;>rintro _ _ _ ⟨rfl,rfl,rfl⟩ -)|fail)<;>try simp only [go_sem,seval])
  exact ⟨_,by rw [hR];exact GL.refl _ _⟩
 have d6:(k == 6)=false:=by simpa using h6
 rw [if_neg h6] at hR;by_cases h7:k=7
 ·subst h7;rw [if_pos rfl] at hR;repeat' ((first|(with_reducible first|refine wr ?_|refine cpc hlv ?_|refine cpc hna ?_)|(refine AC.call (wd1 rfl (by decide)) ?_<;>rintro _ _ _ ⟨rfl,rfl,rfl⟩ -)|(refine AC.call (jn2 rfl (Y9 _) (B4c _)) ?_<;>rintro _ _ _ ⟨rfl,rfl,rfl⟩ -)|fail)<;>try simp only [go_sem,seval])
  exact ⟨_,by rw [hR];exact GL.refl _ _⟩
 have d7:(k == 7)=false:=by simpa using h7
 rw [if_neg h7] at hR;have hbad:∀ q:List Tok,R=C9 q->q=[Q3]->∃ H2,GL ((nil.upd 0 ⟨0,true,[I64 k,I64 v,.str n,H7 a,I64 p]⟩).upd 1 ⟨4,true,[I64 0,.str [],I64 0,I64 0]⟩) [.slc 1 0 1] H2 [R]:=fun q h1 h2=>by
  rw [h1,h2];exact L6 (id:=1) A0 rfl rfl (D8 [Q3]) ⟨[],rfl⟩
 have w0:IntKind.i64.wrap 0=0:=by decide
 have w1:IntKind.i64.wrap 1=1:=by decide
 match a with
 | [] =>
  have e1:((0:Int) == 1)=false:=rfl;have e2:((0:Int) == 2)=false:=rfl;try dsimp only [List.map_nil] at hR
  by_cases l6:B4 k=6
  ·have m6:(B4 k == 6)=true:=by simpa using l6
   have m5:decide (B4 k<6)=false:=by simp;omega
   repeat' ((with_reducible first|apply wr|refine cpc hlv ?_|fail)<;>try simp only [go_sem,seval,d1,d2,d3,d4,d8,d9,d5,d6,d7,m6,m5,A0F,List.map_nil,A0D])
   exact hbad _ hR rfl
  ·have m6:(B4 k == 6)=false:=by simpa using l6
   by_cases l5:B4 k<6
   ·have m5:decide (B4 k<6)=true:=by simpa using l5
    repeat' ((with_reducible first|apply wr|refine cpc hlv ?_|fail)<;>try simp only [go_sem,seval,d1,d2,d3,d4,d8,d9,d5,d6,d7,m6,m5,A0F,List.map_nil,A0D])
    exact hbad _ hR rfl
   ·have m5:decide (B4 k<6)=false:=by simpa using l5
    repeat' ((with_reducible first|apply wr|refine cpc hlv ?_|fail)<;>try simp only [go_sem,seval,d1,d2,d3,d4,d8,d9,d5,d6,d7,m6,m5,A0F,List.map_nil,A0D])
    exact hbad _ hR rfl
 | [x] =>
  have hx:=fun n=>by have:=hop x A0O n;rwa [Ex.v_w] at this
  have hxl:=hle x A0O;simp only [A0Z,List.map_nil] at hR;by_cases l6:B4 k=6
  ·have m6:(B4 k == 6)=true:=by simpa using l6
   rw [if_pos l6] at hR;have hk:k=10\/k=11:=by
    unfold B4 at l6;repeat' split at l6
    all_goals omega
   rcases hk with rfl|rfl
   ·rw [if_pos rfl] at hR;repeat' ((first|(with_reducible first|refine wr ?_|refine cpc hlv ?_|refine cpc (hx 6) ?_)|(refine AC.call (wd1 rfl (by decide)) ?_<;>rintro _ _ _ ⟨rfl,rfl,rfl⟩ -)|(refine AC.call (jn2 rfl (Y9 _) (hxl 6)) ?_<;>rintro _ _ _ ⟨rfl,rfl,rfl⟩ -)|fail)<;>try simp only [go_sem,seval,d1,d2,d3,d4,d8,d9,d5,d6,d7,m6,w0,w1,Ex.v_w])
    exact ⟨_,by rw [hR];exact GL.refl _ _⟩
   ·rw [if_neg (by decide)] at hR;repeat' ((first|(with_reducible first|refine wr ?_|refine cpc hlv ?_|refine cpc (hx 6) ?_)|(refine AC.call (wd1 rfl (by decide)) ?_<;>rintro _ _ _ ⟨rfl,rfl,rfl⟩ -)|(refine AC.call (jn2 rfl (Y9 _) (hxl 6)) ?_<;>rintro _ _ _ ⟨rfl,rfl,rfl⟩ -)|fail)<;>try simp only [go_sem,seval,d1,d2,d3,d4,d8,d9,d5,d6,d7,m6,w0,w1,Ex.v_w])
    exact ⟨_,by rw [hR];exact GL.refl _ _⟩
  ·have m6:(B4 k == 6)=false:=by simpa using l6
   rw [if_neg l6] at hR;by_cases l5:B4 k<6
   ·have m5:decide (B4 k<6)=true:=by simpa using l5
    repeat' ((with_reducible first|apply wr|refine cpc hlv ?_|fail)<;>try simp only [go_sem,seval,d1,d2,d3,d4,d8,d9,d5,d6,d7,m6,m5])
    exact hbad _ hR rfl
   ·have m5:decide (B4 k<6)=false:=by simpa using l5
    repeat' ((with_reducible first|apply wr|refine cpc hlv ?_|fail)<;>try simp only [go_sem,seval,d1,d2,d3,d4,d8,d9,d5,d6,d7,m6,m5])
    exact hbad _ hR rfl
 | [x,y] =>
  have hx:=fun n=>by have:=hop x A0O n;rwa [Ex.v_w] at this
  have hxl:=hle x A0O;have hy:=fun n=>by have:=hop y (A0P _ A0O) n;rwa [Ex.v_w] at this
  have hyl:=hle y (A0P _ A0O);simp only [A0Z,List.map_nil] at hR;by_cases l5:B4 k<6
  ·have m5:decide (B4 k<6)=true:=by simpa using l5
   have m6:(B4 k == 6)=false:=by simp;omega
   rw [if_pos l5] at hR;obtain ⟨k1,k2⟩:=B0m (k:=k) (by omega);have k3:12<=k:=by
    apply Classical.byContradiction;intro hc;have:k=10\/k=11:=by omega
    rw [A3j this] at l5;omega
   obtain ⟨j,hj⟩:∃ j:Nat,k=12+(j:Int):=⟨(k-12).toNat,by omega⟩;have hjw:IntKind.i64.wrap (k-12)=(j:Int):=by rw [w64 (by omega) (by omega)];omega
   have hjn:(k-12).toNat=j:=by omega
   rw [hjn] at hR;have hj13:j<13:=by omega
   have hgj:D3[j]? = some (D3.getD j []):=by
    rw [A1C,A0C (show j<D3.length from hj13)];rfl
   have hsl:(D3.getD j []).length<=1000000000:=by
    have:∀ i:Nat,i<13->(D3.getD i []).length<=1000000000:=by decide
    exact this j hj13
   generalize D3.getD j []=S at hR hgj hsl;have hw1:IntKind.i64.wrap (B4 k+1)=B4 k+1:=w64 (by have:=U2 k;omega) (by have:=U2 k;omega);by_cases l3:B4 k=3
   ·have m3:(B4 k == 3)=true:=by simpa using l3
    rw [if_pos l3] at hR;repeat' ((first|(with_reducible first|refine wr ?_|refine cpc hlv ?_|refine cpc (hx 4) ?_|refine cpc c_signs31 ?_|refine cpc (hy (B4 k+1)) ?_)|(refine AC.call (wd1 rfl hsl) ?_<;>rintro _ _ _ ⟨rfl,rfl,rfl⟩ -)|(refine AC.call (jn3 rfl (hxl 4) (Y9 _) (hyl (B4 k+1))) ?_<;>rintro _ _ _ ⟨rfl,rfl,rfl⟩ -)|fail)<;>try simp only [go_sem,seval,d1,d2,d3,d4,d8,d9,d5,d6,d7,m6,m5,m3,hjw,hgj,hw1,Ex.v_w,B9y,List.getElem?_cons_succ,A2N])
    exact ⟨_,by rw [hR];exact GL.refl _ _⟩
   ·have m3:(B4 k == 3)=false:=by simpa using l3
    rw [if_neg l3] at hR;repeat' ((first|(with_reducible first|refine wr ?_|refine cpc hlv ?_|refine cpc (hx (B4 k)) ?_|refine cpc c_signs31 ?_|refine cpc (hy (B4 k+1)) ?_)|(refine AC.call (wd1 rfl hsl) ?_<;>rintro _ _ _ ⟨rfl,rfl,rfl⟩ -)|(refine AC.call (jn3 rfl (hxl (B4 k)) (Y9 _) (hyl (B4 k+1))) ?_<;>rintro _ _ _ ⟨rfl,rfl,rfl⟩ -)|fail)<;>try simp only [go_sem,seval,d1,d2,d3,d4,d8,d9,d5,d6,d7,m6,m5,m3,hjw,hgj,hw1,Ex.v_w,B9y,List.getElem?_cons_succ,A2N])
    exact ⟨_,by rw [hR];exact GL.refl _ _⟩
  ·have m5:decide (B4 k<6)=false:=by simpa using l5
   rw [if_neg l5] at hR;by_cases l6:B4 k=6
   ·have m6:(B4 k == 6)=true:=by simpa using l6
    repeat' ((with_reducible first|apply wr|refine cpc hlv ?_|fail)<;>try simp only [go_sem,seval,d1,d2,d3,d4,d8,d9,d5,d6,d7,m6,m5])
    exact hbad _ hR rfl
   ·have m6:(B4 k == 6)=false:=by simpa using l6
    repeat' ((with_reducible first|apply wr|refine cpc hlv ?_|fail)<;>try simp only [go_sem,seval,d1,d2,d3,d4,d8,d9,d5,d6,d7,m6,m5])
    exact hbad _ hR rfl
 | x :: y :: z :: l =>
  simp only [A0Z] at hR;obtain ⟨A,hA⟩:∃ A,A=(x :: y :: z :: l).map Ex.v:=⟨_,rfl⟩;have n1:((A.length:Int) == 1)=false:=by rw [hA];simp;omega
  have n2:((A.length:Int) == 2)=false:=by rw [hA];simp;omega
  have hex:H7 (x :: y :: z :: l)=.lst A:=by rw [hA]
  rw [hex] at hbad ⊢;by_cases l6:B4 k=6
  ·have m6:(B4 k == 6)=true:=by simpa using l6
   have m5:decide (B4 k<6)=false:=by simp;omega
   repeat' ((with_reducible first|apply wr|refine cpc hlv ?_|fail)<;>try simp only [go_sem,seval,d1,d2,d3,d4,d8,d9,d5,d6,d7,m6,m5,n1,n2])
   exact hbad _ hR rfl
  ·have m6:(B4 k == 6)=false:=by simpa using l6
   by_cases l5:B4 k<6
   ·have m5:decide (B4 k<6)=true:=by simpa using l5
    repeat' ((with_reducible first|apply wr|refine cpc hlv ?_|fail)<;>try simp only [go_sem,seval,d1,d2,d3,d4,d8,d9,d5,d6,d7,m6,m5,n1,n2])
    exact hbad _ hR rfl
   ·have m5:decide (B4 k<6)=false:=by simpa using l5
    repeat' ((with_reducible first|apply wr|refine cpc hlv ?_|fail)<;>try simp only [go_sem,seval,d1,d2,d3,d4,d8,d9,d5,d6,d7,m6,m5,n1,n2])
    exact hbad _ hR rfl
end Go.Proofs.YtnmkkggfgdfmeaaGreatDoor
end

/-
  HELPERS of the claim: part 5 of its texts.
-/
import Derived.Shelf.Strings.Fields
import Derived.Test.YtnmkkggfgdfmeaaGreatDoorProg
import Derived.KernelRfl
import Derived.Lib.Join
import Derived.Test.YtnmkkggfgdfmeaaGreatDoorChdd
noncomputable section
set_option linter.unusedVariables false
namespace Go.Proofs
open Go.Shelf
def Tryz.lays157_ren:Go.Shelf.Ren:=⟨fun | 157=>165 | 229=>167 | 199=>168 | 261=>169 | 311=>170 | 312=>171|n=>n,fun | 9=>9 | 31=>36 | 3=>3 | 5=>5 | 4=>4 | 119=>175 | 0=>0 | 40=>177 | 152=>178 | 21=>21 | 154=>180 | 51=>181 | 141=>183 | 196=>187 | 193=>184 | 198=>190 | 49=>188 | 194=>185 | 201=>193 | 226=>195 | 46=>196 | 227=>197|n=>n,fun | 0=>0 | 6=>1|n=>n⟩
theorem Tryz.lays157:Go.Proofs.Lays.n157 Tryz.prog Tryz.lays157_ren:={
 mixed:=by kernel_rfl
 f157:=Tryz.func165.trans (congrArg some (by kernel_rfl))
 f199:=Tryz.func168.trans (congrArg some (by kernel_rfl))
 f229:=Tryz.func167.trans (congrArg some (by kernel_rfl))
 f261:=Tryz.func169.trans (congrArg some (by kernel_rfl))
 f311:=Tryz.func170.trans (congrArg some (by kernel_rfl))
 f312:=Tryz.func171.trans (congrArg some (by kernel_rfl))
 t0:=Tryz.underlying0
 a0:=Tryz.isAgg0
 z0:=Tryz.sizeOf0
 v0:=Tryz.zeroValue0
 t3:=Tryz.underlying3
 a3:=Tryz.isAgg3
 z3:=Tryz.sizeOf3
 v3:=Tryz.zeroValue3
 t4:=Tryz.underlying4
 a4:=Tryz.isAgg4
 z4:=Tryz.sizeOf4
 v4:=Tryz.zeroValue4
 t5:=Tryz.underlying5
 a5:=Tryz.isAgg5
 z5:=Tryz.sizeOf5
 v5:=Tryz.zeroValue5
 t9:=Tryz.underlying9
 a9:=Tryz.isAgg9
 z9:=Tryz.sizeOf9
 v9:=Tryz.zeroValue9
 t21:=Tryz.underlying21
 a21:=Tryz.isAgg21
 z21:=Tryz.sizeOf21
 v21:=Tryz.zeroValue21
 t31:=Tryz.underlying36
 a31:=Tryz.isAgg36
 z31:=Tryz.sizeOf36
 v31:=Tryz.zeroValue36
 t40:=Tryz.underlying177
 a40:=Tryz.isAgg177
 z40:=Tryz.sizeOf177
 v40:=Tryz.zeroValue177
 t46:=Tryz.underlying196
 a46:=Tryz.isAgg196
 z46:=Tryz.sizeOf196
 v46:=Tryz.zeroValue196
 t49:=Tryz.underlying188
 a49:=Tryz.isAgg188
 z49:=Tryz.sizeOf188
 v49:=Tryz.zeroValue188
 t51:=Tryz.underlying181
 a51:=Tryz.isAgg181
 z51:=Tryz.sizeOf181
 v51:=Tryz.zeroValue181
 t119:=Tryz.underlying175
 a119:=Tryz.isAgg175
 z119:=Tryz.sizeOf175
 t141:=Tryz.underlying183
 a141:=Tryz.isAgg183
 z141:=Tryz.sizeOf183
 v141:=Tryz.zeroValue183
 t152:=Tryz.underlying178
 a152:=Tryz.isAgg178
 z152:=Tryz.sizeOf178
 v152:=Tryz.zeroValue178
 t154:=Tryz.underlying180
 a154:=Tryz.isAgg180
 z154:=Tryz.sizeOf180
 v154:=Tryz.zeroValue180
 t193:=Tryz.underlying184
 a193:=Tryz.isAgg184
 z193:=Tryz.sizeOf184
 v193:=Tryz.zeroValue184
 t194:=Tryz.underlying185
 a194:=Tryz.isAgg185
 z194:=Tryz.sizeOf185
 v194:=Tryz.zeroValue185
 t196:=Tryz.underlying187
 a196:=Tryz.isAgg187
 z196:=Tryz.sizeOf187
 v196:=Tryz.zeroValue187
 t198:=Tryz.underlying190
 a198:=Tryz.isAgg190
 z198:=Tryz.sizeOf190
 v198:=Tryz.zeroValue190
 t201:=Tryz.underlying193
 a201:=Tryz.isAgg193
 z201:=Tryz.sizeOf193
 v201:=Tryz.zeroValue193
 t226:=Tryz.underlying195
 a226:=Tryz.isAgg195
 z226:=Tryz.sizeOf195
 v226:=Tryz.zeroValue195
 t227:=Tryz.underlying197
 a227:=Tryz.isAgg197
 z227:=Tryz.sizeOf197
 v227:=Tryz.zeroValue197
 g0:=by kernel_rfl
 g6:=by kernel_rfl }
open Go.RowKit Go.Lib in
theorem Tryz.strings_Fields (s : ByteArray) (w : World) (hs : s.size < 4294967281) (hascii : ∀ (j : Nat) b, s.data.toList[j]? = some b → b.toNat < 128) (htab : Lib.TabIs Tryz.prog w "strings.asciiSpace" .u8 Lib.asciiSpaceTab) :
  Calls Tryz.prog 165 #[.string s] w fun e w' =>
   e=.returned (.slice (some ⟨w.heap.size,0,none⟩) (Lib.fields s.data.toList).length (Lib.fields s.data.toList).length)/\w'=w.alloc (.cells ((Lib.fields s.data.toList).map fun l=>Value.string ⟨l.toArray⟩).toArray 9):=Any.strings_Fields Tryz.lays157 (by kernel_rfl) (by kernel_rfl) s w hs hascii htab
end Go.Proofs
set_option maxHeartbeats 4000000
set_option maxRecDepth 100000
set_option linter.unusedSimpArgs false
namespace Go.Proofs.YtnmkkggfgdfmeaaGreatDoor
open Go.Eng (IC IOper DReg IFn B8 H8)
open Go.Sym Go.Pb Go.RowKit
theorem E4h {ρ : Ren} {x:DV} {u:Value} {vs:Array Value} (hA:F5 ρ [x] vs) (h:∀ y,VRel ρ x y->y=u):vs = #[u]:=by
 obtain ⟨y,h1,h2⟩:=hA.get (i:=0) rfl;have hs:vs.size=1:=hA.1.symm;obtain rfl:=h y h2;cases vs with|mk l=>match l,hs,h1 with
  | [a],_,h1=>simp at h1;subst h1;rfl
def C7q:List UInt8:=w8 [115,119,105,116,99,104,32,99,111,105,108,32,108,97,109,112,32,115,111,117,110,100,32,115,104,111,119,32,118,97,114,32,116,105,109,101,114,32,101,118,101,110,116,32,109,111,100,101,32,111,110,32,115,116,97,114,116,32,115,116,111,112,32,99,108,111,115,101,32,111,112,101,110,32,105,102,32,101,108,115,101,32,114,101,112,101,97,116,32,115,99,111,114,101,32,102,105,114,101,32,104,111,108,100,32,114,101,108,101,97,115,101,32,108,105,103,104,116,32,98,108,105,110,107,32,98,101,103,105,110,32,101,110,100,32,112,111,115,116,32,112,108,97,121,32,114,117,110,32,104,97,108,116,32,116,101,120,116,32,99,111,110,115,117,109,101,32,99,108,111,115,101,100,32,97,99,116,105,118,101,32,108,101,102,116,32,112,108,97,121,101,114,32,98,97,108,108,32,116,114,117,101,32,102,97,108,115,101]
theorem D2r:Lib.fields C7q=E4:=by kernel_rfl
theorem D2s:C7q.all (fun b=>decide (b.toNat<128))=true:=by kernel_rfl
theorem c_Fields:PC Tryz.prog 165 [.str C7q] (.lst (E4.map DV.str)):=by
 refine PC.of_callsF (by kernel_rfl) rfl (O4 _) fun ρ w vs hf hA=>?_;rw [E4h hA (fun y h=>h.str_inv)];obtain ⟨r,hr,rfl⟩ := ρ.tab _ (A0M _ A0N);obtain ⟨e,fr,hb⟩:=hf _ _ hr;have ht : Lib.TabIs Tryz.prog w "strings.asciiSpace" .u8 Lib.asciiSpaceTab := by
  unfold Lib.TabIs World.var?;rw [show Tryz.prog.globalNamed "strings.asciiSpace" = some 0 by kernel_rfl]
  show (match w.heap[0]? with|some (.cells cs _ _)=>some cs|_=>none)=_;have hb':w.heap[0]? = _:=hb;rw [hb']
 refine (Tryz.strings_Fields _ w (by decide) ?_ ht).mono ?_
 ·intro j b hj;have:=A0U.1 D2s b (A0W hj);simpa using this
 ·rintro e w' ⟨rfl,rfl⟩;have hl:Lib.fields (⟨C7q.toArray⟩:ByteArray).data.toList=E4:=D2r;rw [hl];refine ⟨_,w.heap.size,_,9,_,rfl,A0H _,(by show (w.heap.push _)[w.heap.size]? = _;rw [Array.getElem?_push_size]),fun ρ' hρ => VRel.strs hρ rfl (A0H _) (by decide),Below.alloc (Below.refl _ _) (A0H _) _⟩
open Go.Eng (IC IOper DReg IFn B8)
open Go.Sym Go.Pb
theorem c_Fields':PC Tryz.prog 165 [.str [115,119,105,116,99,104,32,99,111,105,108,32,108,97,109,112,32,115,111,117,110,100,32,115,104,111,119,32,118,97,114,32,116,105,109,101,114,32,101,118,101,110,116,32,109,111,100,101,32,111,110,32,115,116,97,114,116,32,115,116,111,112,32,99,108,111,115,101,32,111,112,101,110,32,105,102,32,101,108,115,101,32,114,101,112,101,97,116,32,115,99,111,114,101,32,102,105,114,101,32,104,111,108,100,32,114,101,108,101,97,115,101,32,108,105,103,104,116,32,98,108,105,110,107,32,98,101,103,105,110,32,101,110,100,32,112,111,115,116,32,112,108,97,121,32,114,117,110,32,104,97,108,116,32,116,101,120,116,32,99,111,110,115,117,109,101,32,99,108,111,115,101,100,32,97,99,116,105,118,101,32,108,101,102,116,32,112,108,97,121,101,114,32,98,97,108,108,32,116,114,117,101,32,102,97,108,115,101]] (.lst (E4.map DV.str)):=c_Fields
theorem B9u:∀ k:Nat,k<38->(E4.take k).contains (E4.getD k [])=false:=by decide +kernel
theorem c_words:PC Tryz.prog 157 [] (.mp .s (E4.map DV.str) (E4.map fun _=>DV.bool true)):=by
 refine PC.ofT A9 rfl (A0B rfl) rfl (by simp only [DV.nl];rw [O4,L7 (fun _=>rfl)];rfl) ?_;have hf:=c_Fields';repeat' ((with_reducible first|apply wr|refine cpc hf ?_|fail)<;>try simp only [go_sem,seval])
 clear hf;refine C2 (fun k:Nat=>[(1,.mid 0),(5,.lst (E4.map DV.str)),(6,I64 E4.length),(7,I64 k)]) (fun k=>Sym.nil.upd 0 ⟨0,true,[.mpc .s ((E4.take k).map DV.str) ((E4.take k).map fun _=>DV.bool true)]⟩) (fun k _=>k<=E4.length) (fun k=>E4.length-k) 0 (by simp [C3,tm,Tm.upd]) (Sub.refl _) (by simp) ?_;rintro k c hk;have hlen:E4.length=38:=rfl;by_cases hlt:k<E4.length
 ·have hd:decide ((k:Int)<E4.length)=true:=by simpa using hlt
  have hg:=A0C hlt;have hw:IntKind.i64.wrap ((k:Int)+1)=((k+1:Nat):Int):=by rw [w64 (by omega) (by omega)];omega
  have hn:(E4.take k).contains E4[k]=false:=by
   have:=B9u k (by omega)
   rwa [A0X,hg,A3P] at this
  have hm:=A8j hn 0;have e1:E4.take (k+1)=E4.take k++[E4[k]]:=by rw [A1B,hg];rfl
  repeat' ((with_reducible apply wr)<;>try simp only [go_sem,seval,hd,hg,hw,hm])
  refine ⟨k+1,rfl,?_,inv hlt,by omega⟩;rw [e1,A0P,A0P];intro j b hj;by_cases e:j=0
  ·subst e;rw [A0] at hj ⊢;exact hj
  ·rw [A2 e] at hj;cases hj
 ·have hd:decide ((k:Int)<E4.length)=false:=by simpa using hlt
  repeat' ((with_reducible apply wr)<;>try simp only [go_sem,seval,hd])
  rw [A0J (by omega)];exact C4c A0
abbrev A5l:DV:=.mp .s (E4.map DV.str) (E4.map fun _=>DV.bool true)
theorem D5h (w:List UInt8):lkV (.bool false) false (E4.map fun _=>DV.bool true) (E5 (.str w) (E4.map DV.str) 0)=some (.bool (G6 w)):=by
 cases h:G6 w with
 | false=>rw [A8j h 0];rfl
 | true =>
  obtain ⟨j,hj⟩:=B6o h 0;have hlt:=(A8k hj).2;rw [A0D] at hlt;rw [hj,C4z,A2J,A0C (by omega)];rfl
theorem c_IsWord (s:List UInt8):PC Tryz.prog 147 [.str s] (.bool (G6 s)):=by
 refine PC.ofT A9 rfl (A0B rfl) (by simp [DV.nlL,DV.nl]) (by simp [DV.nlL,DV.nl]) ?_;have hw:=c_words;have hlk:=D5h s;repeat' ((with_reducible first|apply wr|refine cpc hw ?_|fail)<;>try simp only [go_sem,seval,hlk])
 exact A6 rfl
theorem c_IsName (s:List UInt8) (hs:s.length<=1000000000):PC Tryz.prog 121 [.str s] (.bool (D8 s)):=by
 refine PC.ofT A9 rfl (A0B rfl) (by simp [DV.nlL,DV.nl]) (by simp [DV.nlL,DV.nl]) ?_;have hw:=c_IsWord s;have hsp:=c_spanPt s (by omega);cases s with
 | nil =>
  repeat' ((with_reducible apply wr)<;>try simp only [go_sem,seval])
  exact A6 rfl
 | cons c r =>
  have hx:B4g (DV.str (c :: r)) (.int .i64 0)=some (.int .u8 (c.toNat:Int)):=rfl;have hlt:=c_letter c;have hd1:decide (((r.length+1:Nat):Int)≥1)=true:=by simp;omega
  repeat' ((with_reducible first|refine wr ?_|refine cpc hw ?_|refine cpc hsp ?_|refine cpc hlt ?_|refine wb2 ?_ ?_<;>(intro hb;try simp only [hb])|fail)<;>try simp only [go_sem,seval,hx,hd1])
  all_goals (refine A6 (congrArg DV.bool ?_);simp_all [D8]<;>omega)
end Go.Proofs.YtnmkkggfgdfmeaaGreatDoor
set_option linter.unusedSectionVars false
namespace Go.Pb
variable [Go.Sym.Tab]
open Go.Sym
def okN (kind:Int) (text:List UInt8) (value:Int) (i n:Nat):DV:=.tup [.agg [I64 kind,.str text,I64 value,I64 i],I64 ((i+n:Nat):Int),I64 0]
def U2 (e:Int) (i:Nat):DV:=.tup [.agg [I64 0,.str [],I64 0,I64 0],I64 i,I64 e]
def nxR (x:Nx) (i:Nat):DV:=if x.err=0 then okN x.kind x.text x.value i x.n else U2 x.err i
theorem B6j (x:Nx) (i:Nat):(nxR x i).nl=true:=by unfold nxR;split<;>rfl
theorem A8g {k:Int} {t:List UInt8} {v:Int} {n i:Nat}:nxR ⟨k,t,v,n,0⟩ i=okN k t v i n:=if_pos rfl
theorem A4l {e:Int} {i:Nat} (h:e≠0):nxR (nxE e) i=U2 e i:=if_neg h
def B2s (s:List UInt8):Bool:=decide (2147483647<Z0 s)
def smV (s:List UInt8):Nat:=if 2147483647<Z0 s then 0 else Z0 s
theorem C2z (s:List UInt8):smV s<=2147483647:=by unfold smV;split<;>omega
theorem C3a {s:List UInt8} (h:¬ 2147483647<Z0 s):smV s=Z0 s:=if_neg h
theorem D1i {s:List UInt8} (h:2147483647<Z0 s):smV s=0:=if_pos h
theorem A8c {p:UInt8->Bool} {s:List UInt8} {i j:Nat} {c:UInt8} (h:s[i+j]? = some c) (hj:j<=C9 p (s.drop i)):(p c=true->j+1<=C9 p (s.drop i))/\(p c=false->C9 p (s.drop i)=j) :=
 A7d (by rw [A1Q];exact h) hj
theorem A5h {p:UInt8->Bool} {s:List UInt8} {i j:Nat} (h:s.length<=i+j) (hj:j<=C9 p (s.drop i)):C9 p (s.drop i)=j :=
 B3i (by rw [A1Z];omega) hj
theorem B3j {s:List UInt8} {i n:Nat} (h:i+n<=s.length):slsR s (some (.int .i64 (i:Int))) (some (.int .i64 ((i+n:Nat):Int)))=some (.str ((s.drop i).take n)):=by
 have b1:∀ k:Nat,boundOf s.length (some (.int .i64 (k:Int)))=some k:=fun k=>by simp [boundOf]
 have b2:∀ k:Nat,boundOf 0 (some (.int .i64 (k:Int)))=some k:=fun k=>by simp [boundOf]
 simp only [slsR,b1,b2];rw [if_pos ⟨h,by omega⟩,show i+n-i=n by omega]
theorem C0k (x:Nx) (i:Nat):∃ (k:Int) (t:List UInt8) (v p n e:Int),nxR x i=.tup [.agg [I64 k,.str t,I64 v,I64 p],I64 n,I64 e]:=by
 unfold nxR;split
 ·exact ⟨_,_,_,_,_,_,rfl⟩
 ·exact ⟨_,_,_,_,_,_,rfl⟩
def C7b:Blk:=⟨0,true,[I64 0,.str [],I64 0,I64 0]⟩
def quR (i:Nat):Option (List UInt8 × Nat)->DV
 | none=>U2 48 i
 | some x=>if 32<x.1.length then U2 9 i else .tup [.agg [I64 4,.str x.1,I64 0,I64 i],I64 (x.2:Int),I64 0]
theorem D4m (i:Nat) (q:Option (List UInt8 × Nat)):(quR i q).nl=true:=by
 cases q with
 | none=>rfl
 | some x=>simp only [quR];split<;>rfl
theorem C3t {s:List UInt8} {i:Nat} {c:UInt8} (h:s[i]? = some c) (h1:ltB c=false) (h2:dgB c=false) (h3:c.toNat=34):quR i (quA [] (i+1) (quM (s.drop (i+1))))=nxR (B1 (s.drop i)) i:=by
 rw [L9 h,B1,if_neg (by rw [h1];simp),if_neg (by rw [h2];simp),if_pos h3];cases hq:quM (s.drop (i+1)) with
 | none=>rfl
 | some x =>
  simp only [quA,A3L,List.nil_append,quR];split
  ·rw [A4l (by decide)]
  ·rw [A8g,okN];have:x.2+(i+1)=i+(x.2+1):=by omega
   rw [this]
theorem A6z {X:Hp} {o:Option Nat} {c:Nat} {b b2 b3 b3':Blk} (hX:∀ j q,X j=some q->j<c) (ho:∀ i,o=some i->X i=none) (h:b3=b3') :
  Sub (C6 X (some (c+1)) b3) ((I6 ((C6 X o b).upd c b2) o).upd (c+1) b3'):=by
 subst h;intro j q hj;simp only [C6] at hj;by_cases e:j=c+1
 ·subst e;rw [A0] at hj ⊢;exact hj
 ·rw [A2 e] at hj ⊢;have h1:=hX j q hj;have h2:∀ i,o=some i->¬ j=i:=fun i hi e2=>by rw [e2,ho i hi] at hj;cases hj
  rw [E9 h2,A2 (by omega),D0 h2];exact hj
theorem A6x {b:Blk} {c j:Nat} {q:Blk} (hc:1<=c) (h:(Sym.nil.upd 0 b) j=some q):j<c:=by
 by_cases e:j=0
 ·omega
 ·rw [A2 e] at h;cases h
theorem A6w {b:Blk} {i:Nat} (h:¬ i=0):(Sym.nil.upd 0 b) i=none:=by rw [A2 h];rfl
def P8:List (List UInt8):=[[60,61],[62,61],[61,61],[33,61],[38,38],[124,124],[123],[125],[40],[41],[59],[44],[61],[43],[45],[42],[47],[37],[33],[60],[62]]
theorem C3e:∀ k:Nat,k<6->∃ a b,P8.getD k []=[a,b]/\A1n a b=true:=by
 intro k hk;have:∀ k:Nat,k<6->(match P8.getD k [] with | [a,b]=>A1n a b|_=>false)=true:=by decide
 have:=this k hk;split at this
 ·rename_i a b e;exact ⟨a,b,e,this⟩
 ·cases this
theorem C3f:∀ k:Nat,6<=k->k<21->∃ a,P8.getD k []=[a]/\A3q a=true:=by
 intro k h6 hk;have:∀ k:Nat,k<21->6<=k->(match P8.getD k [] with | [a]=>A3q a|_=>false)=true:=by decide
 have:=this k hk h6;split at this
 ·rename_i a e;exact ⟨a,e,this⟩
 ·cases this
theorem C2b {c d:UInt8} (h:A1n c d=true):∃ k,k<6/\P8.getD k []=[c,d]:=by
 rw [C7u] at h;simp only [A0Z,A1K] at h;rcases h with ((((h|h)|h)|h)|h)|h
 ·exact ⟨0,by omega,h.symm⟩
 ·exact ⟨1,by omega,h.symm⟩
 ·exact ⟨2,by omega,h.symm⟩
 ·exact ⟨3,by omega,h.symm⟩
 ·exact ⟨4,by omega,h.symm⟩
 ·exact ⟨5,by omega,h.symm⟩
theorem D4p {c:UInt8} (h:A3q c=true):∃ k,6<=k/\k<21/\P8.getD k []=[c]:=by
 have key:∀ n:Nat,n<256->A3q (UInt8.ofNat n)=true->∃ k,k<21/\6<=k/\P8.getD k []=[UInt8.ofNat n]:=by decide +kernel
 obtain ⟨k,h1,h2,h3⟩:=key c.toNat c.toNat_lt (by rw [UInt8.ofNat_toNat];exact h);rw [UInt8.ofNat_toNat] at h3;exact ⟨k,h2,h1,h3⟩
def A5o (l s:List UInt8):Bool:=decide (l.length<=s.length) && (s.take l.length == l)
theorem C0d {s:List UInt8} {k:Nat} (hk:k<21) (hno:∀ j,j<k->A5o (P8.getD j []) s=false) (h:A5o (P8.getD k []) s=true):F0 s=(P8.getD k []).length/\(P8.getD k [])=s.take (P8.getD k []).length:=by
 simp only [A5o,A0G,A0L,A1K] at h;refine ⟨?_,h.2.symm⟩;by_cases h6:k<6
 ·obtain ⟨a,b,e,ht⟩:=C3e k h6;rw [e] at h ⊢
  match s,h with
  | [],h=>simp at h
  | [x],h=>simp at h
  | x :: y :: r,h =>
   simp at h;obtain ⟨rfl,rfl⟩:=h;simp [F0,ht]
 ·obtain ⟨a,e,ho⟩:=C3f k (by omega) hk;rw [e] at h ⊢
  match s,h with
  | [],h=>simp at h
  | [x],h =>
   simp at h;subst h;simp [F0,ho]
  | x :: y :: r,h =>
   simp at h;subst h;have h2:A1n x y=false:=by
    cases ht:A1n x y with
    | false=>rfl
    | true =>
     obtain ⟨j,hj,e2⟩:=C2b ht;have:=hno j (by omega);rw [e2] at this;simp [A5o] at this
   simp [F0,h2,ho]
theorem C3d {s:List UInt8} (hno:∀ j,j<21->A5o (P8.getD j []) s=false):F0 s=0:=by
 have h1:∀ x r,s=x :: r->A3q x=false:=by
  intro x r e;cases ho:A3q x with
  | false=>rfl
  | true =>
   obtain ⟨j, -,hj,e2⟩:=D4p ho;have:=hno j hj;rw [e2,e] at this;simp [A5o] at this
 match s,hno,h1 with
 | [],_,_=>rfl
 | [x],_,h1=>simp [F0,h1 x [] rfl]
 | x :: y :: r,hno,h1 =>
  have h2:A1n x y=false:=by
   cases ht:A1n x y with
   | false=>rfl
   | true =>
    obtain ⟨j,hj,e2⟩:=C2b ht;have:=hno j (by omega);rw [e2] at this;simp [A5o] at this
  simp [F0,h2,h1 x _ rfl]
end Go.Pb
namespace Go.Proofs.YtnmkkggfgdfmeaaGreatDoor
open Go.Eng (IC IOper DReg IFn B8)
open Go.Sym Go.Pb
theorem c_wordsR:PC Tryz.prog 154 [] (.lst (E4.map DV.str)):=by
 refine PC.ofT A9 rfl (A0B rfl) rfl (O4 _) ?_;repeat' ((with_reducible apply wr)<;>try simp only [go_sem,seval])
 exact M6 (xs:=E4.map DV.str) (u:=1) A0 rfl rfl (J9 _) ⟨[],rfl⟩
theorem c_signsR:PC Tryz.prog 113 [] (.lst (P8.map DV.str)):=by
 refine PC.ofT A9 rfl (A0B rfl) rfl (O4 _) ?_;repeat' ((with_reducible apply wr)<;>try simp only [go_sem,seval])
 exact M6 (xs:=P8.map DV.str) (u:=1) A0 rfl rfl (J9 _) ⟨[],rfl⟩
theorem c_IsWordR (s:List UInt8):PC Tryz.prog 140 [.str s] (.bool (G6 s)):=by
 refine PC.ofT A9 rfl (A0B rfl) (by simp [DV.nlL,DV.nl]) (by simp [DV.nlL,DV.nl]) ?_;have hw:=c_wordsR;repeat' ((with_reducible first|apply wr|refine cpc hw ?_|fail)<;>try simp only [go_sem,seval])
 refine C2 (fun k:Nat=>[(0,.str s),(3,.lst (E4.map DV.str)),(4,I64 k)]) (fun _=>nil) (fun k _=>k<=E4.length/\(E4.take k).contains s=false) (fun k=>E4.length-k) 0 (by simp [C3,tm,Tm.upd]) (Sub.nil _) (by simp) ?_;rintro k c ⟨hk,he⟩;have hlen:E4.length=38:=rfl;by_cases hlt:k<E4.length
 ·have hd:decide ((k:Int)<E4.length)=true:=by simpa using hlt
  have hg:=A0C hlt;have hw:IntKind.i64.wrap ((k:Int)+1)=((k+1:Nat):Int):=by rw [w64 (by omega) (by omega)];omega
  repeat' ((with_reducible first|refine wr ?_|refine wb2 ?_ ?_<;>(intro hb;try simp only [hb])|fail)<;>try simp only [go_sem,seval,hd,hg,hw])
  ·refine A6 (congrArg DV.bool ?_);have:s=E4[k]:=(A1K.1 hb).symm;unfold G6;rw [A2P.2 (by rw [this];exact A0O hlt)]
  ·refine ⟨k+1,rfl,Sub.refl _,inv ⟨hlt,?_⟩,by omega⟩;rw [A1B,hg,List.contains_append,he];have:¬ s=E4[k]:=fun e=>by rw [e] at hb;simp at hb
   simpa using this
 ·have hd:decide ((k:Int)<E4.length)=false:=by simpa using hlt
  repeat' ((with_reducible apply wr)<;>try simp only [go_sem,seval,hd])
  refine A6 (congrArg DV.bool ?_);rw [A0J (by omega)] at he;exact he.symm
theorem c_skipR (s:List UInt8) (hs:s.length<=1000000000) (i:Nat) (hi:i<=s.length):PC Tryz.prog 70 [.str s,I64 i] (I64 ((i+skM false (s.drop i):Nat):Int)):=by
 refine PC.ofT A9 rfl (A0B rfl) (by simp [DV.nlL,DV.nl]) (by simp [DV.nlL,DV.nl]) ?_;repeat' ((with_reducible apply wr)<;>try simp only [go_sem,seval])
 refine C2 (fun k:Nat=>[(0,.str s),(1,I64 k)]) (fun _=>nil) (fun k _=>k<=s.length/\i+skM false (s.drop i)=k+skM false (s.drop k)) (fun k=>s.length-k) i (by simp [C3,tm,Tm.upd]) (Sub.nil _) ⟨hi,rfl⟩ ?_;rintro k c ⟨hk,he⟩;by_cases hlt:k<s.length
 ·have hd:decide ((k:Int)<s.length)=true:=by simpa using hlt
  have hg:=A0C hlt;have hw:=w64 (n:=(k:Int)+1) (by omega) (by omega);have hsep:Z6 s[k]=true->∃ b,DV.int IntKind.i64 ((k:Int)+1)=I64 ((b:Nat):Int)/\Sym.Sub Sym.nil Sym.nil/\B5j (fun k _=>k<=s.length/\i+skM false (s.drop i)=k+skM false (s.drop k)) b c/\s.length-b<s.length-k :=
   fun h=>⟨k+1,rfl,Sub.refl _,inv ⟨by omega,by rw [he,D3m hg h];omega⟩,by omega⟩
  repeat' ((with_reducible first|refine wr ?_|refine wb2 ?_ ?_<;>(intro hb;try simp only [hb])|fail)<;>try simp only [go_sem,seval,hd,hg,hw])
  ·have h35:=B5e (b:=35) hb;have h1:=C8j hg h35;have h2:=D3o hg h35;refine C2 (fun j:Nat=>[(0,.str s),(1,I64 ((k+j:Nat):Int))]) (fun _=>nil) (fun j _=>k+j<=s.length/\j<=C9 (fun c=>decide (c.toNat≠10)) (s.drop k)) (fun j=>s.length-(k+j)) 0 (by simp [C3,tm,Tm.upd]) (Sub.nil _) (by simp;omega) ?_;rintro j c ⟨hkj,hej⟩;have hend:C9 (fun c=>decide (c.toNat≠10)) (s.drop k)=j->∃ b,I64 ((k+j:Nat):Int)=I64 ((b:Nat):Int)/\Sym.Sub Sym.nil Sym.nil/\B5j (fun k _=>k<=s.length/\i+skM false (s.drop i)=k+skM false (s.drop k)) b c/\s.length-b<s.length-k:=by
    intro e;rw [e] at h1 h2;exact ⟨k+j,rfl,Sub.refl _,inv ⟨hkj,by rw [he,h2];omega⟩,by omega⟩
   by_cases hlt2:k+j<s.length
   ·have hd2:decide (((k+j:Nat):Int)<s.length)=true:=by simp;omega
    have hg2:=A0C hlt2;have hw2:IntKind.i64.wrap (((k+j:Nat):Int)+1)=((k+(j+1):Nat):Int):=by rw [w64 (by omega) (by omega)];omega
    have hst:=A8c hg2 hej;repeat' ((with_reducible first|refine wr ?_|refine wb2 ?_ ?_<;>(intro hb;try simp only [hb])|fail)<;>try simp only [go_sem,seval,hd2,hg2,hw2])
    ·exact ⟨j+1,rfl,Sub.refl _,inv ⟨hlt2,hst.1 (by simpa using D0x (b:=10) hb)⟩,by omega⟩
    ·exact hend (hst.2 (by simpa using D6y (b:=10) hb))
   ·have hd2:decide (((k+j:Nat):Int)<s.length)=false:=by simp;omega
    repeat' ((with_reducible apply wr)<;>try simp only [go_sem,seval,hd2])
    exact hend (A5h (by omega) hej)
  ·exact hsep (by simp [Z6,B5e (b:=9) hb])
  ·exact hsep (by simp [Z6,B5e (b:=10) hb])
  ·exact hsep (by simp [Z6,B5e (b:=13) hb])
  ·exact hsep (by simp [Z6,B5e (b:=32) hb])
  ·refine A6 ?_;have h9:=A6s (a:=s[k].toNat) (b:=9) (by assumption);have h10:=A6s (a:=s[k].toNat) (b:=10) (by assumption);have h13:=A6s (a:=s[k].toNat) (b:=13) (by assumption);have h32:=A6s (a:=s[k].toNat) (b:=32) (by assumption);have h35:=A6s (a:=s[k].toNat) (b:=35) (by assumption);rw [he,C8i hg (by simp [Z6,h9,h10,h13,h32]) h35];simp
 ·have hd:decide ((k:Int)<s.length)=false:=by simpa using hlt
  repeat' ((with_reducible apply wr)<;>try simp only [go_sem,seval,hd])
  refine A6 ?_;rw [he,D3n (by omega)];simp
theorem c_wordR (s:List UInt8) (hs:s.length<=1000000000) (i:Nat) (hi:i<s.length) (hl:ltB s[i]=true):PC Tryz.prog 109 [.str s,I64 i] (nxR (B1 (s.drop i)) i):=by
 have hM:B1 (s.drop i)=if 12<C9 ptB (s.drop i) then nxE 9 else ⟨if G6 ((s.drop i).take (C9 ptB (s.drop i)))=true then 2 else 1,(s.drop i).take (C9 ptB (s.drop i)),0,C9 ptB (s.drop i),0⟩:=by
  rw [L9 (A0C hi),B1,if_pos hl]
 rw [hM];have hle:=Y0 ptB (s.drop i);rw [A1Z] at hle;refine PC.ofT A9 rfl (A0B rfl) rfl (B6j _ _) ?_;repeat' ((with_reducible apply wr)<;>try simp only [go_sem,seval])
 refine C2 (fun j:Nat=>[(0,.str s),(1,I64 i),(4,.ptr 0 0),(7,I64 ((i+j:Nat):Int))]) (fun _=>Sym.nil.upd 0 ⟨0,true,[I64 0,.str [],I64 0,I64 0]⟩) (fun j cc=>1<=cc/\i+j<=s.length/\j<=C9 ptB (s.drop i)) (fun j=>s.length-(i+j)) 0 (by simp [C3,tm,Tm.upd]) (Sub.refl _) (by simp;omega) ?_;rintro j c ⟨h1c,hk,he⟩;have hw2:IntKind.i64.wrap (((i+j:Nat):Int)-i)=(j:Int):=by rw [w64 (by omega) (by omega)];omega
 have hsx:=B3j hk;have hiw:=c_IsWordR ((s.drop i).take j);have hR9:C9 ptB (s.drop i)=j->12<j->U2 9 i=nxR (if 12<C9 ptB (s.drop i) then nxE 9 else ⟨if G6 ((s.drop i).take (C9 ptB (s.drop i)))=true then 2 else 1,(s.drop i).take (C9 ptB (s.drop i)),0,C9 ptB (s.drop i),0⟩) i:=by
  intro e h;rw [e,if_pos h,A4l (by decide)]
 have hRw:C9 ptB (s.drop i)=j->¬ 12<j->G6 ((s.drop i).take j)=true->okN 2 ((s.drop i).take j) 0 i j=nxR (if 12<C9 ptB (s.drop i) then nxE 9 else ⟨if G6 ((s.drop i).take (C9 ptB (s.drop i)))=true then 2 else 1,(s.drop i).take (C9 ptB (s.drop i)),0,C9 ptB (s.drop i),0⟩) i:=by
  intro e h h2;rw [e,if_neg h,A8g,if_pos h2]
 have hRn:C9 ptB (s.drop i)=j->¬ 12<j->G6 ((s.drop i).take j)=false->okN 1 ((s.drop i).take j) 0 i j=nxR (if 12<C9 ptB (s.drop i) then nxE 9 else ⟨if G6 ((s.drop i).take (C9 ptB (s.drop i)))=true then 2 else 1,(s.drop i).take (C9 ptB (s.drop i)),0,C9 ptB (s.drop i),0⟩) i:=by
  intro e h h2;rw [e,if_neg h,A8g,if_neg (by rw [h2];simp)]
 by_cases hlt:i+j<s.length
 ·have hd:decide (((i+j:Nat):Int)<s.length)=true:=by simp;omega
  have hg:=A0C hlt;have hw:IntKind.i64.wrap (((i+j:Nat):Int)+1)=((i+(j+1):Nat):Int):=by rw [w64 (by omega) (by omega)];omega
  have h1:=c_letterR s[i+j];have h2:=c_digitR s[i+j];have hst:=A8c hg he;have hlp:ptB s[i+j]=true->∃ b,DV.int IntKind.i64 ((i+(j+1):Nat):Int)=I64 ((i+b:Nat):Int)/\Sym.Sub (Sym.nil.upd 0 ⟨0,true,[I64 0,.str [],I64 0,I64 0]⟩) (Sym.nil.upd 0 ⟨0,true,[I64 0,.str [],I64 0,I64 0]⟩) /\
    B5j (fun j cc=>1<=cc/\i+j<=s.length/\j<=C9 ptB (s.drop i)) b c/\s.length-(i+b)<s.length-(i+j) :=
   fun h=>⟨j+1,rfl,Sub.refl _,inv ⟨h1c,hlt,hst.1 h⟩,by omega⟩
  have ne0:=M8 c 0 (by omega);repeat' ((with_reducible first|refine wr ?_|refine cpc h1 ?_|refine cpc h2 ?_|refine cpc hiw ?_|refine wb2 ?_ ?_<;>(intro hb;try simp only [hb])|fail)<;>try simp only [go_sem,seval,hd,hg,hw,hw2,hsx,ne0])
  ·exact hlp (by simp [ptB,hb])
  ·exact hlp (by simp [ptB,hb])
  ·exact hlp (by simp [ptB,B5e (b:=95) hb])
  ·have hj:=hst.2 (by simp only [ptB];rw [‹ltB s[i+j]=false›, ‹dgB s[i+j]=false›];simpa using A6s (a:=s[i+j].toNat) (b:=95) (by assumption));rw [E7 (v:=U2 9 i) rfl];exact A6 (hR9 hj (C0x hb))
  ·have hj:=hst.2 (by simp only [ptB];rw [‹ltB s[i+j]=false›, ‹dgB s[i+j]=false›];simpa using A6s (a:=s[i+j].toNat) (b:=95) (by assumption));rw [E7 (v:=okN 2 ((s.drop i).take j) 0 i j) rfl];exact A6 (hRw hj (A9p (a:=j) (b:=12) (by assumption)) hb)
  ·have hj:=hst.2 (by simp only [ptB];rw [‹ltB s[i+j]=false›, ‹dgB s[i+j]=false›];simpa using A6s (a:=s[i+j].toNat) (b:=95) (by assumption));rw [E7 (v:=okN 1 ((s.drop i).take j) 0 i j) rfl];exact A6 (hRn hj (A9p (a:=j) (b:=12) (by assumption)) hb)
 ·have hd:decide (((i+j:Nat):Int)<s.length)=false:=by simp;omega
  have hj:=A5h (p:=ptB) (s:=s) (by omega) he;have ne0:=M8 c 0 (by omega);repeat' ((with_reducible first|refine wr ?_|refine cpc hiw ?_|refine wb2 ?_ ?_<;>(intro hb;try simp only [hb])|fail)<;>try simp only [go_sem,seval,hd,hw2,hsx,ne0])
  ·rw [E7 (v:=U2 9 i) rfl];exact A6 (hR9 hj (C0x hb))
  ·rw [E7 (v:=okN 2 ((s.drop i).take j) 0 i j) rfl];exact A6 (hRw hj (A9p (a:=j) (b:=12) (by assumption)) hb)
  ·rw [E7 (v:=okN 1 ((s.drop i).take j) 0 i j) rfl];exact A6 (hRn hj (A9p (a:=j) (b:=12) (by assumption)) hb)
theorem c_numberR (s:List UInt8) (hs:s.length<=1000000000) (i:Nat) (hi:i<s.length) (hl:ltB s[i]=false) (hg0:dgB s[i]=true):PC Tryz.prog 111 [.str s,I64 i] (nxR (B1 (s.drop i)) i):=by
 have hM:B1 (s.drop i)=if 1<C9 dgB (s.drop i)/\s[i].toNat=48 then nxE 47
   else if 2147483647<Z0 ((s.drop i).take (C9 dgB (s.drop i))) then nxE 5
   else ⟨3,[],(Z0 ((s.drop i).take (C9 dgB (s.drop i))):Int),C9 dgB (s.drop i),0⟩:=by
  have hdr:=L9 (A0C hi);have:∀ r,s.drop i=s[i] :: r->B1 (s.drop i)=if 1<C9 dgB (s.drop i)/\s[i].toNat=48 then nxE 47
   else if 2147483647<Z0 ((s.drop i).take (C9 dgB (s.drop i))) then nxE 5
   else ⟨3,[],(Z0 ((s.drop i).take (C9 dgB (s.drop i))):Int),C9 dgB (s.drop i),0⟩:=by
   intro r e;rw [e,B1,if_neg (by rw [hl];simp),if_pos hg0]
  exact this _ hdr
 have hle:=Y0 dgB (s.drop i);rw [A1Z] at hle;obtain ⟨D,hD⟩:∃ D,D=s.drop i:=⟨_,rfl⟩;refine PC.ofT A9 rfl (A0B rfl) rfl (B6j _ _) ?_;repeat' ((with_reducible apply wr)<;>try simp only [go_sem,seval])
 refine C2 (fun j:Nat=>[(0,.str s),(1,I64 i),(4,.ptr 0 0),(7,I64 ((i+j:Nat):Int)),(8,I64 (smV (D.take j))),(9,.bool (B2s (D.take j)))]) (fun _=>Sym.nil.upd 0 ⟨0,true,[I64 0,.str [],I64 0,I64 0]⟩) (fun j _=>i+j<=s.length/\j<=C9 dgB (s.drop i)) (fun j=>s.length-(i+j)) 0 (by simp [C3,tm,Tm.upd,smV,B2s,Z0]) (Sub.refl _) (by simp;omega) ?_;rintro j c ⟨hk,he⟩;have hw2:IntKind.i64.wrap (((i+j:Nat):Int)-i)=(j:Int):=by rw [w64 (by omega) (by omega)];omega
 have hgi:=A0C hi;have hRz:C9 dgB (s.drop i)=j->1<j->s[i].toNat=48->U2 47 i=nxR (B1 (s.drop i)) i:=by
  intro e h h2;rw [hM,e,if_pos ⟨h,h2⟩,A4l (by decide)]
 have hRb:C9 dgB (s.drop i)=j->¬ (1<j/\s[i].toNat=48)->B2s (D.take j)=true->U2 5 i=nxR (B1 (s.drop i)) i:=by
  intro e h h2;rw [hM,e,if_neg h, <- hD,if_pos (of_decide_eq_true h2),A4l (by decide)]
 have hRk:C9 dgB (s.drop i)=j->¬ (1<j/\s[i].toNat=48)->B2s (D.take j)=false->okN 3 [] (smV (D.take j)) i j=nxR (B1 (s.drop i)) i:=by
  intro e h h2;have h3:=of_decide_eq_false h2;rw [hM,e,if_neg h, <- hD,if_neg h3,A8g,C3a h3]
 by_cases hlt:i+j<s.length
 ·have hd:decide (((i+j:Nat):Int)<s.length)=true:=by simp;omega
  have hg:=A0C hlt;have hw:IntKind.i64.wrap (((i+j:Nat):Int)+1)=((i+(j+1):Nat):Int):=by rw [w64 (by omega) (by omega)];omega
  have h2:=c_digitR s[i+j];have hst:=A8c hg he;by_cases hdg:dgB s[i+j]=true
  ·rw [hdg] at h2;have hgD:D[j]? = some s[i+j]:=by rw [hD,A1Q];exact hg
   have hn:=C0l hgD;have hdd:48<=s[i+j].toNat/\s[i+j].toNat<=57:=by simpa [dgB] using hdg
   obtain ⟨z,hz⟩:∃ z:Nat,z=s[i+j].toNat-48:=⟨_,rfl⟩;rw [<- hz] at hn;have w1:IntKind.i64.wrap (10 * (smV (D.take j):Int))=((10 * smV (D.take j):Nat):Int):=by have:=C2z (D.take j);rw [w64 (by omega) (by omega)];omega
   have w2:IntKind.u8.wrap ((s[i+j].toNat:Int)-48)=(z:Int):=by rw [wu8 (by omega) (by omega)];omega
   have w3:IntKind.i64.wrap (z:Int)=(z:Int):=w64 (by omega) (by omega);have w4:IntKind.i64.wrap (((10 * smV (D.take j):Nat):Int)+z)=((10 * smV (D.take j)+z:Nat):Int):=by have:=C2z (D.take j);rw [w64 (by omega) (by omega)];omega
   by_cases hbg:2147483647<Z0 (D.take j)
   ·have hb1:B2s (D.take j)=true:=decide_eq_true hbg;have e1:B2s (D.take (j+1))=true:=decide_eq_true (by omega);have e2:smV (D.take (j+1))=0:=D1i (by omega);rw [hb1];repeat' ((with_reducible first|apply wr|refine cpc h2 ?_|fail)<;>try simp only [go_sem,seval,hd,hg,hw,w1,w2,w3,w4])
    exact ⟨j+1,⟨rfl,by rw [e2];rfl,by rw [e1]⟩,Sub.refl _,inv ⟨hlt,hst.1 hdg⟩,by omega⟩
   ·have hb1:B2s (D.take j)=false:=decide_eq_false hbg;have hs1:=C3a hbg;rw [hb1];by_cases hbn:2147483647<Z0 (D.take (j+1))
    ·have e1:B2s (D.take (j+1))=true:=decide_eq_true hbn;have e2:smV (D.take (j+1))=0:=D1i hbn;have hd5:decide (((10 * smV (D.take j)+z:Nat):Int)>2147483647)=true:=by simp only [A0L];omega
     repeat' ((with_reducible first|apply wr|refine cpc h2 ?_|fail)<;>try simp only [go_sem,seval,hd,hg,hw,w1,w2,w3,w4,hd5])
     exact ⟨j+1,⟨rfl,by rw [e2];rfl,by rw [e1]⟩,Sub.refl _,inv ⟨hlt,hst.1 hdg⟩,by omega⟩
    ·have e1:B2s (D.take (j+1))=false:=decide_eq_false hbn;have e2:smV (D.take (j+1))=10 * smV (D.take j)+z:=by rw [C3a hbn,hn,hs1]
     have hd5:decide (((10 * smV (D.take j)+z:Nat):Int)>2147483647)=false:=by simp only [A1W];omega
     repeat' ((with_reducible first|apply wr|refine cpc h2 ?_|fail)<;>try simp only [go_sem,seval,hd,hg,hw,w1,w2,w3,w4,hd5])
     exact ⟨j+1,⟨rfl,by rw [e2],by rw [e1]⟩,Sub.refl _,inv ⟨hlt,hst.1 hdg⟩,by omega⟩
  ·have hdg0:dgB s[i+j]=false:=by simpa using hdg
   rw [hdg0] at h2;have hj:=hst.2 hdg0;repeat' ((with_reducible first|refine wr ?_|refine cpc h2 ?_|refine wb2 ?_ ?_<;>(intro hb;try simp only [hb])|fail)<;>try simp only [go_sem,seval,hd,hg,hw2,hgi])
   ·rw [E7 (v:=U2 47 i) rfl];exact A6 (hRz hj (C0x hb) (B5e (b:=48) (by assumption)))
   ·rw [E7 (v:=U2 5 i) rfl];exact A6 (hRb hj (fun h=>A9p (a:=j) (b:=1) (by assumption) h.1) hb)
   ·rw [E7 (v:=okN 3 [] (smV (D.take j)) i j) rfl];exact A6 (hRk hj (fun h=>A9p (a:=j) (b:=1) (by assumption) h.1) hb)
   ·rw [E7 (v:=U2 5 i) rfl];exact A6 (hRb hj (fun h=>A6s (b:=48) (by assumption) h.2) hb)
   ·rw [E7 (v:=okN 3 [] (smV (D.take j)) i j) rfl];exact A6 (hRk hj (fun h=>A6s (b:=48) (by assumption) h.2) hb)
 ·have hd:decide (((i+j:Nat):Int)<s.length)=false:=by simp;omega
  have hj:=A5h (p:=dgB) (s:=s) (by omega) he;repeat' ((with_reducible first|refine wr ?_|refine wb2 ?_ ?_<;>(intro hb;try simp only [hb])|fail)<;>try simp only [go_sem,seval,hd,hw2,hgi])
  ·rw [E7 (v:=U2 47 i) rfl];exact A6 (hRz hj (C0x hb) (B5e (b:=48) (by assumption)))
  ·rw [E7 (v:=U2 5 i) rfl];exact A6 (hRb hj (fun h=>A9p (a:=j) (b:=1) (by assumption) h.1) hb)
  ·rw [E7 (v:=okN 3 [] (smV (D.take j)) i j) rfl];exact A6 (hRk hj (fun h=>A9p (a:=j) (b:=1) (by assumption) h.1) hb)
  ·rw [E7 (v:=U2 5 i) rfl];exact A6 (hRb hj (fun h=>A6s (b:=48) (by assumption) h.2) hb)
  ·rw [E7 (v:=okN 3 [] (smV (D.take j)) i j) rfl];exact A6 (hRk hj (fun h=>A6s (b:=48) (by assumption) h.2) hb)
theorem c_quotedR (s:List UInt8) (hs:s.length<=100000) (i:Nat) (hi:i<s.length):PC Tryz.prog 112 [.str s,I64 i] (quR i (quA [] (i+1) (quM (s.drop (i+1))))):=by
 refine PC.ofT A9 rfl (A0B rfl) rfl (D4m _ _) ?_;have hw0:IntKind.i64.wrap ((i:Int)+1)=((i+1:Nat):Int):=by rw [w64 (by omega) (by omega)];omega
 repeat' ((with_reducible apply wr)<;>try simp only [go_sem,seval,hw0])
 refine C2 (fun q:Nat × Option Nat × List UInt8=>[(0,.str s),(1,I64 i),(4,.ptr 0 0),(7,B9 q.2.1 q.2.2.length),(8,I64 q.1)]) (fun q=>C6 (Sym.nil.upd 0 C7b) q.2.1 ⟨1,true,bytesC q.2.2⟩)
  (fun q c=>1<=c/\i+1<=q.1/\q.2.2.length<=q.1/\q.1<=s.length+1/\(q.2.1=none->q.2.2=[])/\(∀ i,q.2.1=some i->1<=i/\i<c)/\quA [] (i+1) (quM (s.drop (i+1)))=quA q.2.2 q.1 (quM (s.drop q.1))) (fun q=>s.length+1-q.1) (i+1,none,[])
  (by simp [C3,tm,Tm.upd,B9]) (Sub.refl _) ⟨by simp,by simp,by simp,by simp only;omega,fun _=>rfl,(fun i hi=>by cases hi),rfl⟩ ?_
 rintro ⟨k,o,acc⟩ c ⟨h1c,h1,hal,hk,hno,ho,he⟩;simp only at h1 hal hk hno ho he;simp only;rw [he];have hH0:C6 (Sym.nil.upd 0 C7b) o ⟨1,true,bytesC acc⟩ 0=some ⟨0,true,[I64 0,.str [],I64 0,I64 0]⟩:=by rw [D0 (fun i hi=>by have:=ho i hi;omega),A0];rfl
 have hlt0:=A5m (o:=o) (n:=acc.length) (fun e=>by rw [hno e];rfl);by_cases hlt:k<s.length
 ·have hd:decide ((k:Int)<s.length)=true:=by simpa using hlt
  have hg:=A0C hlt;have hw:IntKind.i64.wrap ((k:Int)+1)=((k+1:Nat):Int):=by rw [w64 (by omega) (by omega)];omega
  have hw2:IntKind.i64.wrap (((k+1:Nat):Int)+1)=((k+2:Nat):Int):=by rw [w64 (by omega) (by omega)];omega
  have hcv:=C3r (H:=C6 (Sym.nil.upd 0 C7b) o ⟨1,true,bytesC acc⟩) (u:=1) hno (fun i hi=>by subst hi;exact A0);have hc0:∀ n:Nat,((s[k].toNat:Int) == (n:Int))=true->s[k].toNat=n:=fun n h=>by have:=A1K.1 h;omega
  have hc1:∀ n:Nat,((s[k].toNat:Int) == (n:Int))=false->s[k].toNat≠n:=fun n h h2=>by rw [h2] at h;simp at h
  by_cases hlt2:k+1<s.length
  ·have hd2:decide (((k+1:Nat):Int)≥s.length)=false:=by simp;omega
   have hg2:=A0C hlt2;have hc2:∀ n:Nat,((s[k+1].toNat:Int) == (n:Int))=true->s[k+1].toNat=n:=fun n h=>by have:=A1K.1 h;omega
   have hc3:∀ n:Nat,((s[k+1].toNat:Int) == (n:Int))=false->s[k+1].toNat≠n:=fun n h h2=>by rw [h2] at h;simp at h
   have ne0:=S0 c (c+1) 0 (by omega);have hap:=B3s (X:=Sym.nil.upd 0 C7b) hno (fun i hi=>(ho i hi).2) (by omega);repeat' ((with_reducible first|refine wr ?_|refine wb2 ?_ ?_<;>(intro hb;try simp only [hb])|fail)<;>try simp only [go_sem,seval,hd,hg,hw,hcv,hlt0,hd2,hg2,hw2,ne0,hap,hH0])
   ·rw [E7 (v:=U2 9 i) rfl];refine A6 ?_;rw [A4h hg (hc0 34 (by assumption)),quR,if_pos (C0x hb)]
   ·rw [E7 (v:=.tup [.agg [I64 4,.str acc,I64 0,I64 i],I64 ((k+1:Nat):Int),I64 0]) rfl];refine A6 ?_;rw [A4h hg (hc0 34 (by assumption)),quR,if_neg (A9p hb)]
   ·rw [E7 (v:=U2 48 i) rfl];refine A6 ?_;rw [B1m hg (hc1 34 (by assumption)) (.inl (by have:=of_decide_eq_true hb;omega))];rfl
   ·rw [E7 (v:=U2 48 i) rfl];refine A6 ?_;rw [B1m hg (hc1 34 (by assumption)) (.inr (by have:=of_decide_eq_true hb;omega))];rfl
   ·rw [E7 (v:=U2 48 i) rfl];refine A6 ?_;rw [B8e hg (hc0 92 (by assumption)) (fun d hd=>by
     rw [hg2] at hd;cases hd;exact ⟨D0x (b:=34) (by assumption),D0x (b:=92) hb⟩)];rfl
   ·have hq:=C3s (acc:=acc) hg (hc0 92 (by assumption)) hg2 (.inr (D6y (b:=92) hb));exact ⟨(k+2,some (c+1),acc++[s[k+1]]),⟨by simp only [A0A,A0I];rfl,rfl⟩,A6z (fun j q=>A6x h1c) (fun i hi=>A6w (by have:=ho i hi;omega)) rfl,inv ⟨by omega,by simp only;omega,by simp;omega,by simp only;omega,(fun h=>by cases h),(fun i hi=>by cases hi;omega),hq⟩,by simp only;omega⟩
   ·have hq:=C3s (acc:=acc) hg (hc0 92 (by assumption)) hg2 (.inl (D6y (b:=34) hb));exact ⟨(k+2,some (c+1),acc++[s[k+1]]),⟨by simp only [A0A,A0I];rfl,rfl⟩,A6z (fun j q=>A6x h1c) (fun i hi=>A6w (by have:=ho i hi;omega)) rfl,inv ⟨by omega,by simp only;omega,by simp;omega,by simp only;omega,(fun h=>by cases h),(fun i hi=>by cases hi;omega),hq⟩,by simp only;omega⟩
   ·have hq:=B8f (acc:=acc) hg (hc1 34 (by assumption)) (by have:=of_decide_eq_false (by assumption:decide (((s[k].toNat:Int))<32)=false);omega) (by have:=of_decide_eq_false (by assumption:decide (((s[k].toNat:Int))>126)=false);omega) (hc1 92 (by assumption));exact ⟨(k+1,some (c+1),acc++[s[k]]),⟨by simp only [A0A,A0I];rfl,rfl⟩,A6z (fun j q=>A6x h1c) (fun i hi=>A6w (by have:=ho i hi;omega)) rfl,inv ⟨by omega,by simp only;omega,by simp;omega,by simp only;omega,(fun h=>by cases h),(fun i hi=>by cases hi;omega),hq⟩,by simp only;omega⟩
  ·have hd2:decide (((k+1:Nat):Int)≥s.length)=true:=by simp;omega
   have ne0:=S0 c (c+1) 0 (by omega);have hap:=B3s (X:=Sym.nil.upd 0 C7b) hno (fun i hi=>(ho i hi).2) (by omega);repeat' ((with_reducible first|refine wr ?_|refine wb2 ?_ ?_<;>(intro hb;try simp only [hb])|fail)<;>try simp only [go_sem,seval,hd,hg,hw,hcv,hlt0,hd2,ne0,hap,hH0])
   ·rw [E7 (v:=U2 9 i) rfl];refine A6 ?_;rw [A4h hg (hc0 34 (by assumption)),quR,if_pos (C0x hb)]
   ·rw [E7 (v:=.tup [.agg [I64 4,.str acc,I64 0,I64 i],I64 ((k+1:Nat):Int),I64 0]) rfl];refine A6 ?_;rw [A4h hg (hc0 34 (by assumption)),quR,if_neg (A9p hb)]
   ·rw [E7 (v:=U2 48 i) rfl];refine A6 ?_;rw [B1m hg (hc1 34 (by assumption)) (.inl (by have:=of_decide_eq_true hb;omega))];rfl
   ·rw [E7 (v:=U2 48 i) rfl];refine A6 ?_;rw [B1m hg (hc1 34 (by assumption)) (.inr (by have:=of_decide_eq_true hb;omega))];rfl
   ·rw [E7 (v:=U2 48 i) rfl];refine A6 ?_;rw [B8e hg (hc0 92 (by assumption)) (fun d hd=>by rw [A2I (by omega)] at hd;cases hd)];rfl
   ·have hq:=B8f (acc:=acc) hg (hc1 34 (by assumption)) (by have:=of_decide_eq_false (by assumption:decide (((s[k].toNat:Int))<32)=false);omega) (by have:=of_decide_eq_false (by assumption:decide (((s[k].toNat:Int))>126)=false);omega) (hc1 92 (by assumption));exact ⟨(k+1,some (c+1),acc++[s[k]]),⟨by simp only [A0A,A0I];rfl,rfl⟩,A6z (fun j q=>A6x h1c) (fun i hi=>A6w (by have:=ho i hi;omega)) rfl,inv ⟨by omega,by simp only;omega,by simp;omega,by simp only;omega,(fun h=>by cases h),(fun i hi=>by cases hi;omega),hq⟩,by simp only;omega⟩
 ·have hd:decide ((k:Int)<s.length)=false:=by simpa using hlt
  have ne0:=M8 c 0 (by omega);repeat' ((with_reducible apply wr)<;>try simp only [go_sem,seval,hd,ne0,hH0])
  rw [E7 (v:=U2 48 i) rfl];refine A6 ?_;rw [D4l (by omega)];rfl
theorem c_oneR (s:List UInt8) (hs:s.length<=100000) (i:Nat) (hi:i<s.length):PC Tryz.prog 71 [.str s,I64 i] (nxR (B1 (s.drop i)) i):=by
 refine PC.ofT A9 rfl (A0B rfl) rfl (B6j _ _) ?_;have hg:=A0C hi;have hlt:=c_letterR s[i];have hdg:=c_digitR s[i];obtain ⟨k,t,v,p,n,e,hsh⟩:=C0k (B1 (s.drop i)) i;by_cases hl:ltB s[i]=true
 ·have hw:=c_wordR s (by omega) i hi hl;rw [hsh] at hw ⊢;repeat' ((with_reducible first|apply wr|refine cpc hlt ?_|refine cpc hw ?_|fail)<;>try simp only [go_sem,seval,hl,hg])
  rw [E7 (v:=.tup [.agg [I64 k,.str t,I64 v,I64 p],I64 n,I64 e]) rfl];exact A6 rfl
 have hl0:ltB s[i]=false:=by simpa using hl
 by_cases hd:dgB s[i]=true
 ·have hw:=c_numberR s (by omega) i hi hl0 hd;rw [hsh] at hw ⊢;repeat' ((with_reducible first|apply wr|refine cpc hlt ?_|refine cpc hdg ?_|refine cpc hw ?_|fail)<;>try simp only [go_sem,seval,hl0,hd,hg])
  rw [E7 (v:=.tup [.agg [I64 k,.str t,I64 v,I64 p],I64 n,I64 e]) rfl];exact A6 rfl
 have hd0:dgB s[i]=false:=by simpa using hd
 by_cases hq:s[i].toNat=34
 ·have hw:=c_quotedR s hs i hi;rw [C3t hg hl0 hd0 hq,hsh] at hw;rw [hsh];have hb34:((s[i].toNat:Int) == 34)=true:=by rw [hq];rfl
  repeat' ((with_reducible first|apply wr|refine cpc hlt ?_|refine cpc hdg ?_|refine cpc hw ?_|fail)<;>try simp only [go_sem,seval,hl0,hd0,hg,hb34])
  rw [E7 (v:=.tup [.agg [I64 k,.str t,I64 v,I64 p],I64 n,I64 e]) rfl];exact A6 rfl
 clear hsh;have hb34:((s[i].toNat:Int) == 34)=false:=by simpa using (fun h=>hq (by omega))
 have hM:B1 (s.drop i)=if F0 (s.drop i)=0 then nxE 47 else ⟨5,(s.drop i).take (F0 (s.drop i)),0,F0 (s.drop i),0⟩:=by
  have hdr:=L9 hg;have:∀ r,s.drop i=s[i] :: r->B1 (s.drop i)=if F0 (s.drop i)=0 then nxE 47 else ⟨5,(s.drop i).take (F0 (s.drop i)),0,F0 (s.drop i),0⟩:=by
   intro r e;rw [e,B1,if_neg hl,if_neg hd,if_neg hq]
  exact this _ hdr
 rw [hM];have hsg:=c_signsR;repeat' ((with_reducible first|apply wr|refine cpc hlt ?_|refine cpc hdg ?_|refine cpc hsg ?_|fail)<;>try simp only [go_sem,seval,hl0,hd0,hg,hb34])
 have hlen:P8.length=21:=rfl;refine C2 (fun k:Nat=>[(0,.str s),(1,I64 i),(4,.ptr 0 0),(8,.lst (P8.map DV.str)),(9,I64 k)]) (fun _=>Sym.nil.upd 0 ⟨0,true,[I64 0,.str [],I64 0,I64 0]⟩) (fun k _=>k<=P8.length/\∀ j,j<k->A5o (P8.getD j []) (s.drop i)=false) (fun k=>P8.length-k) 0 (by simp [C3,tm,Tm.upd]) (Sub.refl _) (by simp) ?_;rintro k c ⟨hk,he⟩;by_cases hkl:k<P8.length
 ·have hd:decide ((k:Int)<P8.length)=true:=by simpa using hkl
  have hgk:=A0C hkl;have hget:P8.getD k []=P8[k]:=by rw [A0X,hgk];rfl
  have hw:IntKind.i64.wrap ((k:Int)+1)=((k+1:Nat):Int):=by rw [w64 (by omega) (by omega)];omega
  obtain ⟨L,hL⟩:∃ L,L=P8[k]:=⟨_,rfl⟩;rw [<- hL] at hgk hget;have hLl:1<=L.length/\L.length<=2:=by
   have:∀ x∈P8,1<=x.length/\x.length<=2:=by decide
   rw [hL];exact this _ (A0O hkl)
  have hw1:IntKind.i64.wrap ((s.length:Int)-i)=((s.length-i:Nat):Int):=by rw [w64 (by omega) (by omega)];omega
  have hw2:IntKind.i64.wrap ((i:Int)+L.length)=((i+L.length:Nat):Int):=by rw [w64 (by omega) (by omega)];omega
  have hnext:A5o L (s.drop i)=false->B5j (fun k _=>k<=P8.length/\∀ j,j<k->A5o (P8.getD j []) (s.drop i)=false) (k+1) c:=fun h=>inv ⟨hkl,fun j hj=>by
   by_cases e:j=k
   ·rw [e,hget];exact h
   ·exact he j (by omega)⟩
  by_cases hln:L.length<=s.length-i
  ·have hd2:decide (((s.length-i:Nat):Int)≥L.length)=true:=by simp only [A0L];omega
   have hsx:=B3j (s:=s) (i:=i) (n:=L.length) (by omega);have hpr:A5o L (s.drop i)=((s.drop i).take L.length == L):=by
    unfold A5o;rw [decide_eq_true (by rw [A1Z];exact hln),A1N]
   repeat' ((with_reducible first|refine wr ?_|refine wb2 ?_ ?_<;>(intro hb;try simp only [hb])|fail)<;>try simp only [go_sem,seval,hd,hgk,hw,hw1,hw2,hd2,hsx])
   ·have hp:=hpr.trans hb;have:=C0d (s:=s.drop i) (k:=k) (by omega) he (by rw [hget];exact hp);rw [hget] at this;rw [E7 (v:=okN 5 L 0 i L.length) rfl];refine A6 ?_;rw [this.1,if_neg (by omega),A8g, <- this.2]
   ·exact ⟨k+1,rfl,Sub.refl _,hnext (hpr.trans hb),by omega⟩
  ·have hd2:decide (((s.length-i:Nat):Int)≥L.length)=false:=by simp only [A1W];omega
   repeat' ((with_reducible apply wr)<;>try simp only [go_sem,seval,hd,hgk,hw,hw1,hd2])
   exact ⟨k+1,rfl,Sub.refl _,hnext (by unfold A5o;rw [decide_eq_false (by rw [A1Z];exact hln),Bool.false_and]),by omega⟩
 ·have hd:decide ((k:Int)<P8.length)=false:=by simpa using hkl
  repeat' ((with_reducible apply wr)<;>try simp only [go_sem,seval,hd])
  rw [E7 (v:=U2 47 i) rfl];refine A6 ?_;rw [if_pos (C3d fun j hj=>he j (by omega)),A4l (by decide)]
theorem c_ScanR (s:List UInt8) (hs:s.length<=1000000000):PC Tryz.prog 36 [.str s] (C3j (F4 s)):=by
 refine PC.ofT A9 rfl (A0B rfl) rfl (C3i _) ?_;have hsk:=c_skipR s hs 0 (by omega);rw [A3J,A1J] at hsk;by_cases h20:20000<s.length
 ·have hd0:decide ((s.length:Int)>20000)=true:=by simp;omega
  have hM:F4 s=([],0,9):=if_pos h20;rw [hM];repeat' ((with_reducible apply wr)<;>try simp only [go_sem,seval,hd0])
  exact B3l
 have hd0:decide ((s.length:Int)>20000)=false:=by simp;omega
 have hM:F4 s=M4 (s.length+1) s (skM false s) []:=if_neg h20;rw [hM];have hle0:=A0p false s;repeat' ((with_reducible first|apply wr|refine cpc hsk ?_|fail)<;>try simp only [go_sem,seval,hd0])
 refine C2 (fun q:Nat × Nat × Option Nat × List Tok=>[(0,.str s),(5,B9 q.2.2.1 q.2.2.2.length),(6,I64 q.2.1)]) (fun q=>C6 Sym.nil q.2.2.1 ⟨4,true,A3 (q.2.2.2.map Tok.v)⟩)
  (fun q c=>q.2.1<=s.length/\s.length<q.1+q.2.1/\q.2.2.2.length<=q.2.1/\(q.2.2.1=none->q.2.2.2=[])/\(∀ i,q.2.2.1=some i->i<c)/\M4 (s.length+1) s (skM false s) []=M4 q.1 s q.2.1 q.2.2.2) (fun q=>q.1) (s.length+1,skM false s,none,[])
  (by simp [C3,tm,Tm.upd,B9]) (Sub.nil _) ⟨by simp only;omega,by simp only;omega,by simp,fun _=>rfl,(fun i hi=>by cases hi),rfl⟩ ?_
 rintro ⟨f,at_,o,acc⟩ c ⟨h1,hf,hal,hno,ho,he⟩;simp only at h1 hf hal hno ho he;simp only;rw [he];by_cases hlt:at_<s.length
 ·have hd:decide ((at_:Int)<s.length)=true:=by simpa using hlt
  have hnx:=c_oneR s (by omega) at_ hlt;obtain ⟨f,rfl⟩:∃ g,f=g+1:=⟨f-1,by omega⟩;by_cases hz:(B1 (s.drop at_)).err=0
  ·have hn:=A4o hz;rw [A1Z] at hn;have hst:M4 (f+1) s at_ acc=M4 f s (at_+(B1 (s.drop at_)).n+skM false (s.drop (at_+(B1 (s.drop at_)).n))) (acc++[⟨(B1 (s.drop at_)).kind,(B1 (s.drop at_)).text,(B1 (s.drop at_)).value,(at_:Int)⟩]):=by
    rw [M4,if_neg (by omega),if_neg (by simpa using hz)]
   rw [hst];obtain ⟨x,hx⟩:∃ x,x=B1 (s.drop at_):=⟨_,rfl⟩;rw [<- hx] at hnx hz hn ⊢;rw [nxR,if_pos hz,okN] at hnx;have hsk2:=c_skipR s hs (at_+x.n) (by omega);have hkl:=A0p false (s.drop (at_+x.n));rw [A1Z] at hkl;obtain ⟨z,hzz⟩:∃ z,z=skM false (s.drop (at_+x.n)):=⟨_,rfl⟩;rw [<- hzz] at hsk2 hkl ⊢;have ne0:=S0 c (c+1) (c+2) (by omega);repeat' ((with_reducible first|apply wr|refine cpc hnx ?_|refine cpc hsk2 ?_|fail)<;>try simp only [go_sem,seval,hd,ne0])
   refine F6 (F1 (cs:=A3 (acc.map Tok.v)) (fun e=>by rw [hno e];exact ⟨rfl,rfl⟩) (fun i hi=>?_) (by rw [B3 (u:=4) (E2 _)];simp) (by omega) (by omega) (by omega)) ?_
   ·have:=ho i hi;rw [A2 (by omega),A2 (by omega),A2 (by omega)];exact A1r hi
   simp only [go_sem,seval,ne0];repeat' ((with_reducible first|apply wr|refine cpc hnx ?_|refine cpc hsk2 ?_|fail)<;>try simp only [go_sem,seval,hd,ne0])
   exact ⟨(f,at_+x.n+z,some (c+1+1),acc++[⟨x.kind,x.text,x.value,(at_:Int)⟩]),⟨by simp only [A0A,A0I];rfl,rfl⟩,
    A0l (by simp only [A0P,B6];rfl),inv ⟨by simp only;omega,by simp only;omega,by simp only [A0A,A0I];omega,(fun h=>by cases h),(fun i hi=>by cases hi;omega),rfl⟩,by simp only;omega⟩
  ·have hst:M4 (f+1) s at_ acc=([],(at_:Int),(B1 (s.drop at_)).err):=by
    rw [M4,if_neg (by omega),if_pos hz]
   rw [hst];obtain ⟨x,hx⟩:∃ x,x=B1 (s.drop at_):=⟨_,rfl⟩;rw [<- hx] at hnx hz ⊢;rw [nxR,if_neg hz,U2] at hnx;have hz':(x.err != 0)=true:=by simpa using hz
   have ne0:=M8 c (c+1) (by omega);repeat' ((with_reducible first|apply wr|refine cpc hnx ?_|fail)<;>try simp only [go_sem,seval,hd,hz',ne0])
   exact B3l
 ·have hd:decide ((at_:Int)<s.length)=false:=by simpa using hlt
  repeat' ((with_reducible apply wr)<;>try simp only [go_sem,seval,hd])
  have hM2:M4 f s at_ acc=(acc,0,0):=by
   cases f with
   | zero=>rfl
   | succ f=>rw [M4,if_pos (by omega)]
  rw [hM2];exact C3z (fun e=>by rw [hno e];rfl) (by simp) (E2 acc)
theorem c_IsNameR (s:List UInt8) (hs:s.length<=1000000000):PC Tryz.prog 152 [.str s] (.bool (D8 s)):=by
 refine PC.ofT A9 rfl (A0B rfl) (by simp [DV.nlL,DV.nl]) (by simp [DV.nlL,DV.nl]) ?_;have hw:=c_IsWordR s;cases s with
 | nil =>
  repeat' ((with_reducible apply wr)<;>try simp only [go_sem,seval])
  exact A6 rfl
 | cons c r =>
  have hx:B4g (DV.str (c :: r)) (.int .i64 0)=some (.int .u8 (c.toNat:Int)):=rfl;have hlt:=c_letterR c;have hd1:decide (((r.length+1:Nat):Int)<1)=false:=by simp;omega
  have hN:D8 (c :: r)=(decide ((r.length+1)<=12) && ltB c && decide (C9 ptB (c :: r)=r.length+1) && !G6 (c :: r)):=by
   simp [D8]
  rw [hN];have hN2:∀ b:Bool,decide (((r.length+1:Nat):Int)>12)=b->decide ((r.length+1)<=12) = !b:=by
   intro b hb;subst hb;rw [A2A];simp;omega
  obtain ⟨dd,hdd⟩:∃ dd,dd=decide ((r.length+1)<=12):=⟨_,rfl⟩;rw [<- hdd] at hN2 ⊢;obtain ⟨ee,hee⟩:∃ ee,ee=decide (C9 ptB (c :: r)=r.length+1):=⟨_,rfl⟩;rw [<- hee];obtain ⟨ff,hff⟩:∃ ff,ff=G6 (c :: r):=⟨_,rfl⟩;rw [<- hff] at hw ⊢;repeat' ((with_reducible first|refine wr ?_|refine cpc hw ?_|refine cpc hlt ?_|refine wb2 ?_ ?_<;>(intro hb;try simp only [hb])|fail)<;>try simp only [go_sem,seval,hx,hd1])
  ·refine A6 (congrArg DV.bool ?_);rw [hN2 _ hb];rfl
  ·refine A6 (congrArg DV.bool ?_);have:ltB c=false:=by simpa using hb
   rw [this];simp
  ·refine A6 (congrArg DV.bool ?_);simp
  ·have hN3:=hN2 _ (by assumption);have hl:ltB c=true:=by simpa using (by assumption:(!ltB c)=false)
   rw [hN3,hl];refine C2 (fun k:Nat=>[(0,.str (c :: r)),(3,I64 k)]) (fun _=>nil) (fun k _=>k<=(c :: r).length/\k<=C9 ptB (c :: r)) (fun k=>(c :: r).length-k) 0 (by simp [C3,tm,Tm.upd]) (Sub.nil _) (by simp) ?_;rintro k cc ⟨hk,he⟩;have hsl:=Y0 ptB (c :: r);have hS:(c :: r).length=r.length+1:=rfl;by_cases hlt2:k<(c :: r).length
   ·have hd:decide ((k:Int)<((r.length+1:Nat):Int))=true:=by simp only [A0L];omega
    have hg:=A0C hlt2;have hw:IntKind.i64.wrap ((k:Int)+1)=((k+1:Nat):Int):=by rw [w64 (by omega) (by omega)];omega
    have hst:=A7d hg he;obtain ⟨x,hxx⟩:∃ x,x=(c :: r)[k]:=⟨_,rfl⟩;rw [<- hxx] at hg hst;have h1:=c_letterR x;have h2:=c_digitR x;obtain ⟨L,hL⟩:∃ L,L=c :: r:=⟨_,rfl⟩;have hd3:decide ((k:Int)<(L.length:Int))=true:=by rw [hL];exact hd
    rw [<- hL] at hg hst hk he hsl hee ⊢;by_cases hp:ptB x=true
    ·have hgo:∃ b,DV.int IntKind.i64 ((k+1:Nat):Int)=I64 ((b:Nat):Int)/\Sym.Sub Sym.nil Sym.nil/\B5j (fun k _=>k<=L.length/\k<=C9 ptB L) b cc/\L.length-b<L.length-k :=
      ⟨k+1,rfl,Sub.refl _,inv ⟨by rw [hL];exact hlt2,hst.1 hp⟩,by rw [hL];omega⟩
     simp only [ptB,A0Z,A0L] at hp;repeat' ((with_reducible first|refine wr ?_|refine cpc h1 ?_|refine cpc h2 ?_|refine wb2 ?_ ?_<;>(intro hb;try simp only [hb])|fail)<;>try simp only [go_sem,seval,hd3,hg,hw])
     ·exfalso;have p1:ltB x=false:=by simpa using (by assumption:(!ltB x)=true)
      have p2:dgB x=false:=by simpa using (by assumption:(!dgB x)=true)
      have p3:=D0x (b:=95) hb;rw [p1,p2] at hp;rcases hp with (hp|hp)|hp
      ·cases hp
      ·cases hp
      ·exact p3 hp
     ·exact hgo
     ·exact hgo
     ·exact hgo
    ·have hp':ptB x=false:=by simpa using hp
     have hj:=hst.2 hp';simp only [ptB,A4F,A1W] at hp';obtain ⟨⟨q1,q2⟩,q3⟩:=hp';have q4:((x.toNat:Int) != 95)=true:=by simp;omega
     repeat' ((with_reducible first|apply wr|refine cpc h1 ?_|refine cpc h2 ?_|fail)<;>try simp only [go_sem,seval,hd3,hg,hw,q1,q2,q4])
     refine A6 (congrArg DV.bool ?_);rw [hee,hj,decide_eq_false];have:L.length=r.length+1:=by rw [hL];rfl
     have:k<L.length:=by rw [hL];exact hlt2
     omega
   ·have hd:decide ((k:Int)<((r.length+1:Nat):Int))=false:=by simp only [A1W];omega
    repeat' ((with_reducible apply wr)<;>try simp only [go_sem,seval,hd])
    refine A6 (congrArg DV.bool ?_);rw [hee,decide_eq_true (by omega)]
end Go.Proofs.YtnmkkggfgdfmeaaGreatDoor
namespace Go.Pb
variable [Go.Sym.Tab]
open Go.Sym
def T0:Tok:=⟨0,[],0,0⟩
theorem D2e {g:Bool} {a b d a' b' d':Int} {s t:List UInt8}:C1b g [0,2,0,0] (.agg [I64 a,.str s,I64 b,I64 d]) (.agg [I64 a',.str t,I64 b',I64 d'])=some (.bool (g != (a == a' && (s == t && (b == b' && d == d'))))):=by
 simp only [C1b,R1,A5y,if_true];cases h1:a == a'<;>cases h2:s == t<;>cases h3:b == b'<;>cases h4:d == d'<;>simp
theorem A9z:∀ (f:Nat) (s:List UInt8) (k:Nat) (acc:List Tok),acc.length<=k->k<=s.length->(M4 f s k acc).1.length<=s.length
 | 0,s,k,acc,h1,h2=>by simp only [M4];omega
 | f+1,s,k,acc,h1,h2=>by
  rw [M4];split
  ·simp only;omega
  ·split
   ·simp
   ·rename_i h3 h4;have h4:(B1 (s.drop k)).err=0:=by simpa using h4
    have hn:=A4o h4;rw [A1Z] at hn;have hk:=A0p false (s.drop (k+(B1 (s.drop k)).n));rw [A1Z] at hk;exact A9z f s _ _ (by rw [A0A,A0I];omega) (by omega)
theorem C0e (s:List UInt8):(F4 s).1.length<=s.length:=by
 unfold F4;split
 ·simp
 ·have:=A0p false s;exact A9z _ _ _ _ (by simp) this
end Go.Pb
namespace Go.Pb
variable [Go.Sym.Tab]
open Go.Sym
def B2i (c:UInt8):Bool:=Z6 c || decide (c.toNat=35)
theorem W9 {c:UInt8} (h:B2i c=true):c.toNat=9\/c.toNat=10\/c.toNat=13\/c.toNat=32\/c.toNat=35:=by
 simp only [B2i,Z6,A0Z,A0L] at h;omega
theorem D6j {c:UInt8} (h:B2i c=true):ltB c=false:=by
 have:=W9 h;simp only [ltB];simp;omega
theorem D6k {c:UInt8} (h:B2i c=true):dgB c=false:=by
 have:=W9 h;simp only [dgB];simp;omega
theorem C6p {c d:UInt8} (h:B2i c=true):A1n c d=false:=by
 have:=W9 h;unfold A1n;rw [A3M];intro h2;simp at h2;omega
theorem B9h {c:UInt8} (h:B2i c=true):A3q c=false:=by
 have:=W9 h;unfold A3q;rw [A3M];intro h2;simp at h2;omega
theorem D6l {c:UInt8} (h:B2i c=true):¬ c.toNat=34:=by
 have:=W9 h;omega
theorem B6d (r:List UInt8):∀ {s t:List UInt8} {n:Nat},quM s=some (t,n)->quM (s.take n++r)=some (t,n)
 | [],t,n,h=>by simp [quM] at h
 | c :: q,t,n,h=>by
  rw [M5] at h;by_cases h1:c.toNat=34
  ·rw [if_pos h1] at h;cases h;rw [A0V,List.cons_append,M5,if_pos h1]
  ·rw [if_neg h1] at h;by_cases h2:c.toNat<32\/126<c.toNat
   ·rw [if_pos h2] at h;cases h
   ·rw [if_neg h2] at h;by_cases h3:c.toNat=92
    ·rw [if_pos h3] at h;cases q with
     | nil=>cases h
     | cons d q =>
      simp only at h;by_cases h4:d.toNat=34\/d.toNat=92
      ·rw [if_pos h4] at h;obtain ⟨⟨t',n'⟩,g1,g2⟩:=A0Q.1 h;have ih:=B6d r g1;cases g2;rw [A0V,A0V,List.cons_append,List.cons_append,M5,if_neg h1,if_neg h2,if_pos h3];simp only;rw [if_pos h4,ih];rfl
      ·rw [if_neg h4] at h;cases h
    ·rw [if_neg h3] at h;obtain ⟨⟨t',n'⟩,g1,g2⟩:=A0Q.1 h;have ih:=B6d r g1;cases g2;rw [A0V,List.cons_append,M5,if_neg h1,if_neg h2,if_neg h3,ih];rfl
theorem C2k {α : Type} {s r:List α} {n:Nat} (h:n<=s.length):(s.take n++r).take n=s.take n:=by
 have hl:(s.take n).length=n:=by rw [A1A];omega
 exact List.take_left' hl
theorem C9d {s:List UInt8} (h:(B1 s).err=0):skM false s=0:=by
 cases s with
 | nil=>rfl
 | cons c q =>
  by_cases he:B2i c=true
  ·have hs:F0 (c :: q)=0:=by
    cases q with
    | nil=>simp only [F0];rw [if_neg (by rw [B9h he];simp)]
    | cons d q=>simp only [F0];rw [if_neg (by rw [C6p he];simp),if_neg (by rw [B9h he];simp)]
   rw [B1,if_neg (by rw [D6j he];simp),if_neg (by rw [D6k he];simp),if_neg (D6l he),if_pos hs] at h;simp [nxE] at h
  ·have he:Z6 c=false/\¬ c.toNat=35:=by simpa [B2i] using he
   simp only [skM];rw [if_neg (by rw [he.1];simp),if_neg he.2]
def nxT (x:Nx) (p:Int):Tok:=⟨x.kind,x.text,x.value,p⟩
def A0f (s:List UInt8):Nat->List Tok->Prop
 | k,[]=>s.length<=k
 | k,t :: l=>k<s.length/\(B1 (s.drop k)).err=0/\t=nxT (B1 (s.drop k)) (k:Int)/\A0f s (k+(B1 (s.drop k)).n+skM false (s.drop (k+(B1 (s.drop k)).n))) l
theorem A6f:∀ (f:Nat) (s:List UInt8) (k:Nat) (acc:List Tok),s.length+1<=k+f->(M4 f s k acc).2.2=0->∃ l,(M4 f s k acc).1=acc++l/\A0f s k l
 | 0,s,k,acc,hf,h=>⟨[],by simp [M4],by show s.length<=k;omega⟩
 | f+1,s,k,acc,hf,h=>by
  rw [M4] at h ⊢;by_cases h1:s.length<=k
  ·rw [if_pos h1];exact ⟨[],by simp,h1⟩
  ·rw [if_neg h1] at h ⊢;by_cases h2:(B1 (s.drop k)).err=0
   ·rw [if_neg (by simpa using h2)] at h ⊢;have hn:=A4o h2;obtain ⟨l,e,hr⟩:=A6f f s _ _ (by omega) h;exact ⟨_ :: l,by rw [e,A0S];rfl,by omega,h2,rfl,hr⟩
   ·rw [if_pos h2] at h;exact absurd h h2
theorem A6g:∀ (f:Nat) (s:List UInt8) (k:Nat) (acc l:List Tok),s.length+1<=k+f->A0f s k l->M4 f s k acc=(acc++l,0,0)
 | 0,s,k,acc,l,hf,h=>by
  cases l with
  | nil=>simp [M4]
  | cons t l=>have:=h.1;omega
 | f+1,s,k,acc,[],hf,h=>by
  rw [M4,if_pos (show s.length<=k from h)];simp
 | f+1,s,k,acc,t :: l,hf,h=>by
  obtain ⟨h1,h2,h3,h4⟩:=h;have hn:=A4o h2;rw [M4,if_neg (by omega),if_neg (by simpa using h2),A6g f s _ _ l (by omega) h4,h3,A0S];rfl
theorem A1q {s:List UInt8} (h:(F4 s).2.2=0):s.length<=20000/\A0f s (skM false s) (F4 s).1:=by
 unfold F4 at h ⊢;by_cases h1:20000<s.length
 ·rw [if_pos h1] at h;cases h
 ·rw [if_neg h1] at h ⊢;have:=A0p false s;obtain ⟨l,e,hr⟩:=A6f _ s _ [] (by omega) h;rw [e];exact ⟨by omega,hr⟩
theorem B3q {s:List UInt8} {l:List Tok} (h1:s.length<=20000) (h:A0f s (skM false s) l):F4 s=(l,0,0):=by
 unfold F4;rw [if_neg (by omega),A6g _ s _ [] l (by omega) h];rfl
def TOk (t:Tok):Prop:=∃ s p,(B1 s).err=0/\t=nxT (B1 s) p
theorem A0f.ok {s:List UInt8}:∀ {k:Nat} {l:List Tok},A0f s k l->∀ t∈l,TOk t
 | k,[],_,t,h=>by cases h
 | k,x :: l,h,t,ht=>by
  rcases A1D.1 ht with rfl|ht
  ·exact ⟨_,_,h.2.1,h.2.2.1⟩
  ·exact A0f.ok h.2.2.2 t ht
end Go.Pb
namespace Go.Pb
variable [Go.Sym.Tab]
open Go.Sym
theorem B7y {s:List UInt8} (h:(F4 s).2.2=0):∀ t∈(F4 s).1,TOk t:=(A1q h).2.ok
end Go.Pb
namespace Go.Proofs.YtnmkkggfgdfmeaaGreatDoor
open Go.Eng (IC IOper DReg IFn B8 H8)
open Go.Sym Go.Pb Go.RowKit
theorem c_Dec:∀ (m:Nat) (n:Int),n.natAbs<m -> -9223372036854775808<=n->n<=9223372036854775807->PC Tryz.prog 55 [I64 n] (.str (Q9 n)):=by
 intro m
 induction m with
 | zero=>intro n h;omega
 | succ m ih =>
  intro n h h1 h2;have b:=D6p (d:=S1 n) (B8v n);have hl:=B8v n;by_cases h0:n<0
  ·have hd:decide (n<0)=true:=by simpa using h0
   have e1:=C9f h0;have e2:=C9e h0;have hh:=B9a (n:=n) (by omega);have w1:=w64 (n := -((V4 n:Nat):Int)) (by omega) (by omega);have w2:=w64 (n:=0 - -((S1 n:Nat):Int)) (by omega) (by omega);have w3:0 - -((S1 n:Nat):Int)=(S1 n:Int):=by omega
   rw [w3] at w2;have hlen:=O7 (n := -((V4 n:Nat):Int)) (by omega) (by omega);have a0:=P9 (s:=Q9 (-((V4 n:Nat):Int))) (t:=[A0x (S1 n)]) (by simp;omega);have a2:A1e (nil.upd 5 ⟨1,true,[DV.int .u8 ((A0x (S1 n)).toNat:Int)]⟩) (.slc 5 0 1)=some (.str [A0x (S1 n)]):=A9b A0 rfl rfl;have a1:=P9 (s:=[45]) (t:=[A0x (S1 n)]) (by simp);refine PC.ofT A9 rfl (A0B rfl) (by simp [DV.nlL,DV.nl]) (by simp [DV.nlL,DV.nl]) ?_;repeat' ((first|(with_reducible first|refine wr ?_|refine cpc (ih (-((V4 n:Nat):Int)) (by omega) (by omega) (by omega)) ?_)|(with_reducible refine wb2 ?_ ?_<;>(intro hb;try simp only [hb]))|((with_reducible refine C5b (A9b (l:=[A0x (S1 n)]) A0 rfl rfl) ?_))|fail)<;>try simp only [go_sem,seval,hd,U7,B8d,e1,e2,w1,w3,w2,b,a0,a1,a2])
   ·rw [C1f h0 (by simpa using hb)];exact A6 rfl
   ·rw [C6u h0 (by simpa using hb)];exact A6 rfl
  ·have hd:decide (n<0)=false:=by simpa using h0
   have e1:=C8t (n:=n) (by omega);have e2:=C8s (n:=n) (by omega);have hh:V4 n<=n.natAbs:=by unfold V4;omega
   have w1:=w64 (n:=((V4 n:Nat):Int)) (by omega) (by omega);have hlen:=O7 (n:=((V4 n:Nat):Int)) (by omega) (by omega);have a0:=P9 (s:=Q9 ((V4 n:Nat):Int)) (t:=[A0x (S1 n)]) (by simp;omega);by_cases h9:n<10
   ·have hd9:decide (n<10)=true:=by simpa using h9
    refine PC.ofT A9 rfl (A0B rfl) (by simp [DV.nlL,DV.nl]) (by simp [DV.nlL,DV.nl]) ?_;repeat' ((first|(with_reducible first|refine wr ?_)|((with_reducible refine C5b (A9b (l:=[A0x (S1 n)]) A0 rfl rfl) ?_))|fail)<;>try simp only [go_sem,seval,hd,hd9,U7,B8d,e1,e2,w1,b])
    rw [A7o (by omega) h9];exact A6 rfl
   ·have hd9:decide (n<10)=false:=by simpa using h9
    have hh:=B9a (n:=n) (by omega);refine PC.ofT A9 rfl (A0B rfl) (by simp [DV.nlL,DV.nl]) (by simp [DV.nlL,DV.nl]) ?_;repeat' ((first|(with_reducible first|refine wr ?_|refine cpc (ih ((V4 n:Nat):Int) (by omega) (by omega) (by omega)) ?_)|((with_reducible refine C5b (A9b (l:=[A0x (S1 n)]) A0 rfl rfl) ?_))|fail)<;>try simp only [go_sem,seval,hd,hd9,U7,B8d,e1,e2,w1,b,a0])
    rw [B9j h9];exact A6 rfl
theorem c_Dec' (n:Int) (h1 : -9223372036854775808<=n) (h2:n<=9223372036854775807):PC Tryz.prog 55 [I64 n] (.str (Q9 n)):=c_Dec (n.natAbs+1) n (by omega) h1 h2
end Go.Proofs.YtnmkkggfgdfmeaaGreatDoor
namespace Go.Pb
variable [Go.Sym.Tab]
open Go.Sym
def Evt {α : Type} (g:Nat->Option α) (r : α):Prop:=∃ N, ∀ f,N<=f->g f=some r
theorem Evt.one {α : Type} {g:Nat->Option α} {r : α} (h:∀ f,g (f+1)=some r):Evt g r :=
 ⟨1,fun f hf=>by obtain ⟨k,rfl⟩:∃ k,f=k+1:=⟨f-1,by omega⟩;exact h k⟩
theorem Evt.ext {α β : Type} {g:Nat->Option α} {h:Nat->Option β} {r : α} {q : β} (hg:Evt g r) (e:∀ f,g f=some r->h (f+1)=some q):Evt h q:=by
 obtain ⟨N,hg⟩:=hg;exact ⟨N+1,fun f hf=>by obtain ⟨k,rfl⟩:∃ k,f=k+1:=⟨f-1,by omega⟩;exact e k (hg k (by omega))⟩
theorem Evt.map {α β : Type} {g:Nat->Option α} {h:Nat->Option β} {r : α} {q : β} (hg:Evt g r) (e:∀ f,g f=some r->h f=some q):Evt h q:=by
 obtain ⟨N,hg⟩:=hg;exact ⟨N,fun f hf=>e f (hg f hf)⟩
theorem Evt.and {α β : Type} {g:Nat->Option α} {h:Nat->Option β} {r : α} {q : β} (hg:Evt g r) (hh:Evt h q):Evt (fun f=>match g f,h f with|some a,some b=>some (a,b)|_,_=>none) (r,q):=by
 obtain ⟨N,hg⟩:=hg;obtain ⟨M,hh⟩:=hh;exact ⟨max N M,fun f hf=>by dsimp only;rw [hg f (by omega),hh f (by omega)]⟩
theorem Evt.ext2 {α β γ : Type} {g:Nat->Option α} {h:Nat->Option β} {k:Nat->Option γ} {r : α} {q : β} {w : γ} (hg:Evt g r) (hh:Evt h q) (e:∀ f,g f=some r->h f=some q->k (f+1)=some w):Evt k w:=by
 obtain ⟨N,hg⟩:=hg;obtain ⟨M,hh⟩:=hh;exact ⟨max N M+1,fun f hf=>by obtain ⟨j,rfl⟩:∃ j,f=j+1:=⟨f-1,by omega⟩;exact e j (hg j (by omega)) (hh j (by omega))⟩
theorem Evt.map2 {α β γ : Type} {g:Nat->Option α} {h:Nat->Option β} {k:Nat->Option γ} {r : α} {q : β} {w : γ} (hg:Evt g r) (hh:Evt h q) (e:∀ f,g f=some r->h f=some q->k f=some w):Evt k w:=by
 obtain ⟨N,hg⟩:=hg;obtain ⟨M,hh⟩:=hh;exact ⟨max N M,fun f hf=>e f (hg f (by omega)) (hh f (by omega))⟩
theorem Evt.uniq {α : Type} {g:Nat->Option α} {r q : α} (h1:Evt g r) (h2:Evt g q):r=q:=by
 obtain ⟨N,h1⟩:=h1;obtain ⟨M,h2⟩:=h2;exact Option.some.inj ((h1 (max N M) (by omega)).symm.trans (h2 (max N M) (by omega)))
theorem Evt.get {α : Type} {g:Nat->Option α} {r : α} (h:Evt g r):∃ f,g f=some r:=by
 obtain ⟨N,h⟩:=h;exact ⟨N,h N (A0H _)⟩
section
variable {L:List Tok} {E:Int}
abbrev Bin (L:List Tok) (E n:Int) (s:Rd) (r:Ex × Rd):Prop:=Evt (fun f=>I7 L E f n s) r
abbrev Lop (L:List Tok) (E n:Int) (e:Ex) (s:Rd) (r:Ex × Rd):Prop:=Evt (fun f=>O5 L E f n e s) r
abbrev Un (L:List Tok) (E:Int) (s:Rd) (r:Ex × Rd):Prop:=Evt (fun f=>S6 L E f s) r
theorem Bin.un {n:Int} {s:Rd} {r:Ex × Rd} (hn:5<n) (h:Un L E s r):Bin L E n s r :=
 h.ext fun f h=>by rw [I7,if_pos hn];exact h
theorem Bin.go {n:Int} {s s1:Rd} {e:Ex} {r:Ex × Rd} (hn:n<=5) (h:Bin L E (n+1) s (e,s1)) (h2:Lop L E n e s1 r):Bin L E n s r :=
 h.ext2 h2 fun f h h2=>by rw [I7,if_neg (by omega),h];exact h2
theorem Lop.stop {n:Int} {e:Ex} {s:Rd} (h:C1 L E s C5<0\/B4 (12+C1 L E s C5)≠n):Lop L E n e s (e,s) :=
 Evt.one fun f=>by rw [O5];dsimp only;rw [if_pos h]
theorem Lop.three {n:Int} {e x:Ex} {s s1:Rd} (h0:0<=C1 L E s C5) (h1:B4 (12+C1 L E s C5)=n) (hn:n=3) (hb:Bin L E (n+1) (A7 s) (x,s1)):Lop L E n e s (.mk (12+C1 L E s C5) 0 [] [e,x] (B5 L E s).pos,s1) :=
 hb.ext fun f h=>by rw [O5];dsimp only;rw [if_neg (by omega),h];dsimp only;rw [if_pos hn]
theorem Lop.more {n:Int} {e x:Ex} {s s1:Rd} {r:Ex × Rd} (h0:0<=C1 L E s C5) (h1:B4 (12+C1 L E s C5)=n) (hn:n≠3) (hb:Bin L E (n+1) (A7 s) (x,s1)) (hl:Lop L E n (.mk (12+C1 L E s C5) 0 [] [e,x] (B5 L E s).pos) s1 r):Lop L E n e s r :=
 hb.ext2 hl fun f h h2=>by rw [O5];dsimp only;rw [if_neg (by omega),h];dsimp only;rw [if_neg hn];exact h2
theorem Un.prim {s:Rd} (h:C1 L E s K5<0):Un L E s (I4 L E s) :=
 Evt.one fun f=>by rw [S6];dsimp only;rw [if_pos h]
theorem Un.bad {s:Rd} (h:0<=C1 L E s K5) (hl:okR (C4 L E s (s.par+1) 16 50)=false):Un L E s (Ex0,C4 L E s (s.par+1) 16 50) :=
 Evt.one fun f=>by rw [S6];dsimp only;rw [if_neg (by omega),if_pos hl]
theorem Un.par {s s3:Rd} {e:Ex} (h:C1 L E s K5=2) (hl:okR (C4 L E s (s.par+1) 16 50)=true) (hb:Bin L E 1 { s with i:=s.i+1,par:=s.par+1 } (e,s3)):Un L E s (e, { D1 L E s3 [41] with par:=(D1 L E s3 [41]).par-1 }) :=
 hb.ext fun f hf=>by
  have e0:=(G3 (by decide) hl).2.2;rw [S6];dsimp only;rw [if_neg (by omega),if_neg (by rw [hl];decide),e0,if_pos h,hf]
theorem Un.pre {s s3:Rd} {e:Ex} (h0:0<=C1 L E s K5) (h:C1 L E s K5≠2) (hl:okR (C4 L E s (s.par+1) 16 50)=true) (hb:Un L E { s with i:=s.i+1,par:=s.par+1 } (e,s3)):Un L E s (.mk (10+C1 L E s K5) 0 [] [e] (B5 L E s).pos, { s3 with par:=s3.par-1 }) :=
 hb.ext fun f hf=>by
  have e0:=(G3 (by decide) hl).2.2;rw [S6];dsimp only;rw [if_neg (by omega),if_neg (by rw [hl];decide),e0,if_neg h,hf]
theorem E6 {s:Rd} {x:List UInt8}:s.i<=(D1 L E s x).i:=by
 unfold D1;cases k:isR L E s x with
 | false=>rw [if_pos rfl,T6];exact A0H _
 | true=>rw [if_neg (by simp)];exact A3O _
theorem I8 {s:Rd} {x:Int}:s.i<=(B2 L E s x).2.i:=by
 unfold B2;cases k:I0 L E s x with
 | false=>rw [if_pos rfl];show s.i<=(O2 L E s).i;rw [T6];exact A0H _
 | true=>rw [if_neg (by simp)];exact A3O _
theorem B8h {s:Rd}:s.i<=(I4 L E s).2.i:=by
 unfold I4;dsimp only;have h2:(C4 L E { s with ops:=s.ops+1 } (s.ops+1) 32 9).i=s.i:=F7;have h3:(A7 (C4 L E { s with ops:=s.ops+1 } (s.ops+1) 32 9)).i=s.i+1:=by show (C4 L E { s with ops:=s.ops+1 } (s.ops+1) 32 9).i+1=_;rw [h2]
 split
 ·show s.i<=(O2 L E s).i;rw [T6];exact A0H _
 ·split
  ·show s.i<=(C4 L E { s with ops:=s.ops+1 } (s.ops+1) 32 9).i;rw [h2];exact A0H _
  ·have:=I8 (L:=L) (E:=E) (s:=A7 (C4 L E { s with ops:=s.ops+1 } (s.ops+1) 32 9)) (x:=1);repeat' split
   all_goals (first|(show s.i<=(B2 L E _ 1).2.i;omega)|(show s.i<=(A7 _).i;omega))
theorem ET.all:∀ (m:Nat),(∀ s:Rd,L.length-s.i<=m->∃ r,Un L E s r/\s.i<=r.2.i)/\(∀ (n:Int) e (s:Rd),n<=5->1<=n->L.length-s.i<=m->∃ r,Lop L E n e s r/\s.i<=r.2.i)/\(∀ (n:Int) (s:Rd),1<=n->L.length-s.i<=m->∃ r,Bin L E n s r/\s.i<=r.2.i):=by
 intro m
 induction m using Nat.strongRecOn with
 | _ m ih =>
  have A:∀ s:Rd,L.length-s.i<=m->∃ r,Un L E s r/\s.i<=r.2.i:=by
   intro s hs;by_cases hk:C1 L E s K5<0
   ·exact ⟨_,Un.prim hk,B8h⟩
   ·obtain ⟨-,hi, -⟩:=G5 (show 0<=C1 L E s K5 by omega);cases hl:okR (C4 L E s (s.par+1) 16 50) with
    | false=>exact ⟨_,Un.bad (by omega) hl,by show s.i<=(C4 L E s (s.par+1) 16 50).i;rw [F7];exact A0H _⟩
    | true =>
     by_cases h2:C1 L E s K5=2
     ·obtain ⟨⟨e,s3⟩,hb,hge⟩:=(ih (m-1) (by omega)).2.2 1 { s with i:=s.i+1,par:=s.par+1 } (by decide) (by show L.length-(s.i+1)<=m-1;omega);refine ⟨_,Un.par h2 hl hb,?_⟩;have h4:=E6 (L:=L) (E:=E) (s:=s3) (x:=[41]);have h5:s.i+1<=s3.i:=hge;show s.i<=(D1 L E s3 [41]).i;omega
     ·obtain ⟨⟨e,s3⟩,hb,hge⟩:=(ih (m-1) (by omega)).1 { s with i:=s.i+1,par:=s.par+1 } (by show L.length-(s.i+1)<=m-1;omega);refine ⟨_,Un.pre (by omega) h2 hl hb,?_⟩;have h5:s.i+1<=s3.i:=hge;show s.i<=s3.i;omega
  have B:∀ (n:Int) e (s:Rd),n<=5->1<=n->L.length-s.i<=m->∃ r,Lop L E n e s r/\s.i<=r.2.i:=by
   intro n e s h5 h1 hs;by_cases hk:C1 L E s C5<0\/B4 (12+C1 L E s C5)≠n
   ·exact ⟨_,Lop.stop hk,A0H _⟩
   ·have h0:0<=C1 L E s C5:=by omega
    obtain ⟨-,hi, -⟩:=G5 h0;obtain ⟨⟨x,s1⟩,hb,hge⟩:=(ih (m-1) (by omega)).2.2 (n+1) (A7 s) (by omega) (by show L.length-(s.i+1)<=m-1;omega);have hge:s.i+1<=s1.i:=hge;by_cases h3:n=3
    ·exact ⟨_,Lop.three h0 (by omega) h3 hb,by show s.i<=s1.i;omega⟩
    ·obtain ⟨r,hl,hg2⟩:=(ih (m-1) (by omega)).2.1 n (.mk (12+C1 L E s C5) 0 [] [e,x] (B5 L E s).pos) s1 h5 h1 (by omega);exact ⟨_,Lop.more h0 (by omega) h3 hb hl,by omega⟩
  refine ⟨A,B,?_⟩;have C:∀ (j:Nat) (n:Int) (s:Rd),6-n<=j->1<=n->L.length-s.i<=m->∃ r,Bin L E n s r/\s.i<=r.2.i:=by
   intro j
   induction j with
   | zero =>
    intro n s hj h1 hs;obtain ⟨r,h,hg⟩:=A s hs;exact ⟨r,Bin.un (by omega) h,hg⟩
   | succ j ihj =>
    intro n s hj h1 hs;by_cases h5:5<n
    ·obtain ⟨r,h,hg⟩:=A s hs;exact ⟨r,Bin.un h5 h,hg⟩
    ·obtain ⟨⟨e,s1⟩,h,hg⟩:=ihj (n+1) s (by omega) (by omega) hs;have hg:s.i<=s1.i:=hg;obtain ⟨r,h2,hg2⟩:=B n e s1 (by omega) h1 (by omega);exact ⟨r,Bin.go (by omega) h h2,by omega⟩
  exact fun n s h1 hs=>C (6-n).toNat n s (by omega) h1 hs
abbrev Xpn (L:List Tok) (E:Int) (s:Rd) (r:Ex × Rd):Prop:=Evt (fun f=>Q7 L E f s) r
theorem A2f (s:Rd):∃ r,Xpn L E s r/\s.i<=r.2.i:=by
 obtain ⟨r,h,hg⟩:=(ET.all (L:=L) (E:=E) (L.length-s.i)).2.2 1 { s with ops:=0,par:=0 } (by decide) (A0H _);exact ⟨r,h,hg⟩
theorem C2l (k p:Int) (s:Rd):∃ r,Evt (fun f=>I9 L E f k p s) r/\s.i<=r.2.i:=by
 by_cases h4:k=4
 ·obtain ⟨⟨e,s1⟩,h,hg⟩:=A2f (L:=L) (E:=E) s;exact ⟨_,h.map fun f h=>by unfold I9;rw [if_pos h4,h],A1P hg E6⟩
 by_cases h18:k=18
 ·obtain ⟨⟨e,s1⟩,h,hg⟩:=A2f (L:=L) (E:=E) (D1 L E (B2 L E s 4).2 [44]);exact ⟨_,h.map fun f h=>by unfold I9;rw [if_neg h4,if_pos h18,h],A1P (A1P I8 (A1P E6 hg)) E6⟩
 by_cases h19:k=19
 ·exact ⟨_,Evt.one fun f=>by unfold I9;rw [if_neg h4,if_neg h18,if_pos h19],E6⟩
 by_cases h8:k=8\/k=9\/k=10
 ·obtain ⟨⟨e,s1⟩,h,hg⟩:=A2f (L:=L) (E:=E) (B2 L E s 1).2;by_cases h9:k=9
  ·obtain ⟨⟨e2,s2⟩,h2,hg2⟩:=A2f (L:=L) (E:=E) (D1 L E s1 [44]);exact ⟨_,h.map2 h2 fun f h h2=>by unfold I9;rw [if_neg h4,if_neg h18,if_neg h19];dsimp only;rw [if_pos h8,h];dsimp only;rw [if_pos h9,h2],A1P (A1P I8 (A1P hg (A1P E6 hg2))) E6⟩
  ·exact ⟨_,h.map fun f h=>by unfold I9;rw [if_neg h4,if_neg h18,if_neg h19];dsimp only;rw [if_pos h8,h];dsimp only;rw [if_neg h9],A1P (A1P I8 hg) E6⟩
 ·exact ⟨_,Evt.one fun f=>by unfold I9;rw [if_neg h4,if_neg h18,if_neg h19];dsimp only;rw [if_neg h8],A1P I8 E6⟩
abbrev A5d (L:List Tok) (E d:Int) (s:Rd) (r:List St × Rd):Prop:=Evt (fun f=>M0 L E f d s) r
abbrev V7 (L:List Tok) (E d:Int) (l:List St) (s:Rd) (r:List St × Rd):Prop:=Evt (fun f=>P4 L E f d l s) r
abbrev L3 (L:List Tok) (E d:Int) (s:Rd) (r:St × Rd):Prop:=Evt (fun f=>R8 L E f d s) r
abbrev A5c (L:List Tok) (E d:Int) (s:Rd) (r:List St × Rd):Prop:=Evt (fun f=>Q1 L E f d s) r
theorem A5d.mk {d:Int} {s:Rd} {r:List St × Rd} (h:V7 L E d [] (D1 L E s [123]) r):A5d L E d s r :=
 h.ext fun f h=>by rw [M0];exact h
theorem V7.stop {d:Int} {l:List St} {s:Rd} (h:¬ (okR s=true/\isR L E s [125]=false)):V7 L E d l s (l,D1 L E s [125]) :=
 Evt.one fun f=>by rw [P4,if_neg h]
theorem V7.bad {d:Int} {l:List St} {s:Rd} (h:okR s=true/\isR L E s [125]=false) (h2:C1 L E s C0<0/\I0 L E s 1=false):V7 L E d l s ([],O2 L E s) :=
 Evt.one fun f=>by rw [P4,if_pos h,if_pos h2]
theorem V7.more {d:Int} {l:List St} {s s1:Rd} {x:St} {r:List St × Rd} (h:okR s=true/\isR L E s [125]=false) (h2:¬ (C1 L E s C0<0/\I0 L E s 1=false)) (hx:L3 L E d (C4 L E s ((l.length:Int)+1) 64 9) (x,s1)) (hl:V7 L E d (l++[x]) s1 r):V7 L E d l s r :=
 hx.ext2 hl fun f hx hl=>by rw [P4,if_pos h,if_neg h2,hx];exact hl
theorem L3.bad {d:Int} {s:Rd} (h:okR (C4 L E s d 8 50)=false):L3 L E d s (St0,C4 L E s d 8 50) :=
 Evt.one fun f=>by rw [R8];dsimp only;rw [if_pos h]
theorem L3.set {d:Int} {s s1:Rd} {e:Ex} (h:okR (C4 L E s d 8 50)=true) (hk:C1 L E s C0<0) (he:Xpn L E (D1 L E (B2 L E s 1).2 [61]) (e,s1)):L3 L E d s (.mk 1 (B2 L E s 1).1.text [] [e] [] [] (B5 L E s).pos,D1 L E s1 [59]) :=
 he.ext fun f hf=>by
  have e0:=(G3 (by decide) h).2.2;rw [R8];dsimp only;rw [if_neg (by rw [h];decide),e0,if_pos hk,hf]
theorem L3.els {d:Int} {s s2 s3 s4:Rd} {e:Ex} {t o:List St} (h:okR (C4 L E s d 8 50)=true) (hk:C1 L E s C0=0) (he:Xpn L E (A7 s) (e,s2)) (ht:A5d L E (d+1) s2 (t,s3)) (hi:isR L E s3 [101,108,115,101]=true) (ho:A5c L E d (A7 s3) (o,s4)):L3 L E d s (.mk 2 [] [] [e] t o (B5 L E s).pos,s4) :=
 (he.and ht).ext2 ho fun f hf h2=>by
  have e0:=(G3 (by decide) h).2.2;cases h3:Q7 L E f (A7 s) with
  | none=>rw [h3] at hf;cases hf
  | some q =>
   cases h4:M0 L E f (d+1) s2 with
   | none=>rw [h3,h4] at hf;cases hf
   | some w =>
    rw [h3,h4] at hf;obtain ⟨rfl,rfl⟩:=Prod.mk.inj (Option.some.inj hf);rw [R8];dsimp only;rw [if_neg (by rw [h];decide),e0,if_neg (by omega),if_pos (.inl hk),h3];dsimp only;rw [h4];dsimp only;rw [if_pos ⟨hk,hi⟩,h2]
theorem L3.blk {d:Int} {s s2 s3:Rd} {e:Ex} {t:List St} (h:okR (C4 L E s d 8 50)=true) (hk:C1 L E s C0=0\/C1 L E s C0=1) (he:Xpn L E (A7 s) (e,s2)) (ht:A5d L E (d+1) s2 (t,s3)) (hi:¬ (C1 L E s C0=0/\isR L E s3 [101,108,115,101]=true)):L3 L E d s (.mk (2+C1 L E s C0) [] [] [e] t [] (B5 L E s).pos,s3) :=
 he.ext2 ht fun f h3 h4=>by
  have e0:=(G3 (by decide) h).2.2;rw [R8];dsimp only;rw [if_neg (by rw [h];decide),e0,if_neg (by omega),if_pos hk,h3];dsimp only;rw [h4];dsimp only;rw [if_neg hi]
theorem L3.tail {d:Int} {s:Rd} {r:St × Rd} (h:okR (C4 L E s d 8 50)=true) (hk:2<=C1 L E s C0) (he:Evt (fun f=>I9 L E f (2+C1 L E s C0) (B5 L E s).pos (A7 s)) r):L3 L E d s r :=
 he.ext fun f h3=>by
  have e0:=(G3 (by decide) h).2.2;rw [R8];dsimp only;rw [if_neg (by rw [h];decide),e0,if_neg (by omega),if_neg (by omega)];exact h3
theorem A5c.iff {d:Int} {s s1:Rd} {x:St} (h:isR L E s [105,102]=true) (hs:L3 L E (d+1) s (x,s1)):A5c L E d s ([x],s1) :=
 hs.ext fun f hf=>by rw [Q1,if_pos h,hf]
theorem A5c.blk {d:Int} {s:Rd} {r:List St × Rd} (h:isR L E s [105,102]=false) (hs:A5d L E (d+1) s r):A5c L E d s r :=
 hs.ext fun f hf=>by rw [Q1,if_neg (by rw [h];decide)];exact hf
theorem ST.all:∀ (m:Nat),(∀ d (s:Rd),L.length-s.i<=m->∃ r,L3 L E d s r/\s.i<=r.2.i/\(okR (C4 L E s d 8 50)=true->(0<=C1 L E s C0\/I0 L E s 1=true)->s.i<r.2.i)) /\
  (∀ d l (s:Rd),L.length-s.i<=m->∃ r,V7 L E d l s r/\s.i<=r.2.i):=by
 intro m
 induction m using Nat.strongRecOn with
 | _ m ih =>
  have blk:∀ d (s:Rd),L.length-s.i<m->∃ r,A5d L E d s r/\s.i<=r.2.i:=by
   intro d s hs;have h0:=E6 (L:=L) (E:=E) (s:=s) (x:=[123]);obtain ⟨r,h,hg⟩:=(ih _ hs).2 d [] (D1 L E s [123]) (by omega);exact ⟨r,A5d.mk h,by omega⟩
  have oth:∀ d (s:Rd),L.length-s.i<m->∃ r,A5c L E d s r/\s.i<=r.2.i:=by
   intro d s hs;cases hi:isR L E s [105,102] with
   | true =>
    obtain ⟨⟨x,s1⟩,h,hg, -⟩:=(ih _ hs).1 (d+1) s (A0H _);exact ⟨_,A5c.iff hi h,hg⟩
   | false =>
    obtain ⟨r,h,hg⟩:=blk (d+1) s hs;exact ⟨r,A5c.blk hi h,hg⟩
  have A:∀ d (s:Rd),L.length-s.i<=m->∃ r,L3 L E d s r/\s.i<=r.2.i/\(okR (C4 L E s d 8 50)=true->(0<=C1 L E s C0\/I0 L E s 1=true)->s.i<r.2.i):=by
   intro d s hs;cases hl:okR (C4 L E s d 8 50) with
   | false=>exact ⟨_,L3.bad hl,by show s.i<=(C4 L E s d 8 50).i;rw [F7];exact A0H _,fun h=>by cases h⟩
   | true =>
    by_cases hk:C1 L E s C0<0
    ·obtain ⟨⟨e,s1⟩,he,hg⟩:=A2f (L:=L) (E:=E) (D1 L E (B2 L E s 1).2 [61]);have hg:(D1 L E (B2 L E s 1).2 [61]).i<=s1.i:=hg;have h1:=E6 (L:=L) (E:=E) (s:=s1) (x:=[59]);have h2:=E6 (L:=L) (E:=E) (s:=(B2 L E s 1).2) (x:=[61]);have h3:=I8 (L:=L) (E:=E) (s:=s) (x:=1);refine ⟨_,L3.set hl hk he,by show s.i<=(D1 L E s1 [59]).i;omega,fun _ hc=>?_⟩;have h4:I0 L E s 1=true:=hc.resolve_left (by omega);have h5:(B2 L E s 1).2.i=s.i+1:=by unfold B2;rw [if_neg (by rw [h4];decide)];rfl
     show s.i<(D1 L E s1 [59]).i;omega
    ·obtain ⟨-,hi, -,hk18⟩:=G5 (show 0<=C1 L E s C0 by omega);by_cases h01:C1 L E s C0=0\/C1 L E s C0=1
     ·obtain ⟨⟨e,s2⟩,he,hg⟩:=A2f (L:=L) (E:=E) (A7 s);have hg:s.i+1<=s2.i:=hg;obtain ⟨⟨t,s3⟩,ht,hg3⟩:=blk (d+1) s2 (by omega);have hg3:s2.i<=s3.i:=hg3;by_cases hc:C1 L E s C0=0/\isR L E s3 [101,108,115,101]=true
      ·have hi3:=(A1b hc.2).2;obtain ⟨⟨o,s4⟩,ho,hg4⟩:=oth d (A7 s3) (by show L.length-(s3.i+1)<m;omega);have hg4:s3.i+1<=s4.i:=hg4;exact ⟨_,L3.els hl hc.1 he ht hc.2 ho,by show s.i<=s4.i;omega,fun _ _=>by show s.i<s4.i;omega⟩
      ·exact ⟨_,L3.blk hl h01 he ht hc,by show s.i<=s3.i;omega,fun _ _=>by show s.i<s3.i;omega⟩
     ·obtain ⟨r,hr,hg⟩:=C2l (L:=L) (E:=E) (2+C1 L E s C0) (B5 L E s).pos (A7 s);have hg:s.i+1<=r.2.i:=hg;exact ⟨_,L3.tail hl (by omega) hr,by omega,fun _ _=>by omega⟩
  refine ⟨A,fun d l s hs=>?_⟩;by_cases hc:okR s=true/\isR L E s [125]=false
  ·by_cases h2:C1 L E s C0<0/\I0 L E s 1=false
   ·exact ⟨_,V7.bad hc h2,by show s.i<=(O2 L E s).i;rw [T6];exact A0H _⟩
   ·have hlt:s.i<L.length:=by
     by_cases hk:0<=C1 L E s C0
     ·exact (G5 hk).2.1
     ·cases h1:I0 L E s 1 with
      | false=>exact absurd ⟨by omega,h1⟩ h2
      | true=>exact (J4 (by decide) (H7 h1).2).2
    cases hl:okR (C4 L E s ((l.length:Int)+1) 64 9) with
    | false =>
     have hb:okR (C4 L E (C4 L E s ((l.length:Int)+1) 64 9) d 8 50)=false:=by
      cases hz:okR (C4 L E (C4 L E s ((l.length:Int)+1) 64 9) d 8 50) with
      | false=>rfl
      | true=>rw [(G3 (by decide) hz).1] at hl;cases hl
     have hx:=L3.bad hb;refine ⟨_,V7.more hc h2 hx (V7.stop (by rw [hb];simp)),?_⟩;have h1:=E6 (L:=L) (E:=E) (s:=C4 L E (C4 L E s ((l.length:Int)+1) 64 9) d 8 50) (x:=[125]);rw [F7,F7] at h1;exact h1
    | true =>
     have e0:=(G3 (by decide) hl).2.2;obtain ⟨⟨x,s1⟩,hx,hg,hprog⟩:=A d s hs;have hg:s.i<=s1.i:=hg;cases hd:okR (C4 L E s d 8 50) with
     | false =>
      have hx:=L3.bad hd;refine ⟨_,V7.more hc h2 (by rw [e0];exact hx) (V7.stop (by rw [hd];simp)),?_⟩;have h1:=E6 (L:=L) (E:=E) (s:=C4 L E s d 8 50) (x:=[125]);rw [F7] at h1;exact h1
     | true =>
      have hlt2:s.i<s1.i:=hprog hd (by
       by_cases hk:0<=C1 L E s C0
       ·exact .inl hk
       ·cases h1:I0 L E s 1 with
        | false=>exact absurd ⟨by omega,h1⟩ h2
        | true=>exact .inr rfl)
      obtain ⟨r,hr,hg2⟩:=(ih (L.length-s1.i) (by omega)).2 d (l++[x]) s1 (A0H _);exact ⟨r,V7.more hc h2 (by rw [e0];exact hx) hr,by omega⟩
  ·exact ⟨_,V7.stop hc,E6⟩
theorem D0y (d:Int) (s:Rd):∃ r,A5d L E d s r/\s.i<=r.2.i:=by
 obtain ⟨r,h,hg⟩:=(ST.all (L:=L) (E:=E) _).2 d [] (D1 L E s [123]) (A0H _);exact ⟨r,A5d.mk h,A1P E6 hg⟩
theorem C9l:∀ (m:Nat) (l:List Hd) (s:Rd),L.length-s.i<=m->∃ r,Evt (fun f=>T8 L E f l s) r/\s.i<=r.2.i:=by
 intro m
 induction m using Nat.strongRecOn with
 | _ m ih =>
  intro l s hs;by_cases hc:okR s=true/\isR L E s [125]=false
  ·cases hon:isR L E s [111,110] with
   | false=>exact ⟨_,Evt.one fun f=>by rw [T8,if_pos hc,if_pos hon],by show s.i<=(O2 L E s).i;rw [T6];exact A0H _⟩
   | true =>
    have hi:=(A1b hon).2;have h1:(C4 L E s ((l.length:Int)+1) 32 9).i=s.i:=F7;generalize hl:C4 L E s ((l.length:Int)+1) 32 9=s1 at h1;have h2:=E6 (L:=L) (E:=E) (s:=s1) (x:=[111,110]);generalize he:D1 L E s1 [111,110]=s2 at h2;by_cases hk:C1 L E s2 E1<0
    ·exact ⟨_,Evt.one fun f=>by rw [T8,if_pos hc,if_neg (by rw [hon];decide),hl];dsimp only;rw [he,if_pos hk],by show s.i<=(O2 L E s2).i;rw [T6];omega⟩
    ·have hi2:=(G5 (show 0<=C1 L E s2 E1 by omega)).2.1;have h4:s2.i+1<=(if 2<=C1 L E s2 E1 then (B2 L E (A7 s2) 1).2 else A7 s2).i:=by
      split
      ·exact I8 (L:=L) (E:=E) (s:=A7 s2) (x:=1)
      ·exact A0H _
     obtain ⟨⟨b,s5⟩,hb,hg⟩:=D0y (L:=L) (E:=E) 1 (if 2<=C1 L E s2 E1 then (B2 L E (A7 s2) 1).2 else A7 s2);have hg:(if 2<=C1 L E s2 E1 then (B2 L E (A7 s2) 1).2 else A7 s2).i<=s5.i:=hg;obtain ⟨r,hr,hg2⟩:=ih (L.length-s5.i) (by omega) (l++[⟨1+C1 L E s2 E1,if 2<=C1 L E s2 E1 then (B2 L E (A7 s2) 1).1.text else [],b,(B5 L E s1).pos⟩]) s5 (A0H _);exact ⟨r,hb.ext2 hr fun f hb hr=>by rw [T8,if_pos hc,if_neg (by rw [hon];decide),hl];dsimp only;rw [he,if_neg hk,hb];exact hr,by omega⟩
  ·exact ⟨_,Evt.one fun f=>by rw [T8,if_neg hc],E6⟩
theorem C9k (s:Rd):∃ r,Evt (fun f=>A2x L E f s) r/\s.i<=r.2.i/\(isR L E s [109,111,100,101]=true->s.i<r.2.i):=by
 obtain ⟨⟨l,s3⟩,h,hg⟩:=C9l (L:=L) (E:=E) _ [] (D1 L E (B2 L E (B2 L E (D1 L E s [109,111,100,101]) 1).2 3).2 [123]) (A0H _);have hg:(D1 L E (B2 L E (B2 L E (D1 L E s [109,111,100,101]) 1).2 3).2 [123]).i<=s3.i:=hg;have h1:=E6 (L:=L) (E:=E) (s:=(B2 L E (B2 L E (D1 L E s [109,111,100,101]) 1).2 3).2) (x:=[123]);have h2:=I8 (L:=L) (E:=E) (s:=(B2 L E (D1 L E s [109,111,100,101]) 1).2) (x:=3);have h3:=I8 (L:=L) (E:=E) (s:=D1 L E s [109,111,100,101]) (x:=1);have h4:=E6 (L:=L) (E:=E) (s:=s) (x:=[109,111,100,101]);refine ⟨_,h.map fun f h=>by unfold A2x;dsimp only;rw [h],by show s.i<=s3.i;omega,fun hi=>?_⟩;have h5:(D1 L E s [109,111,100,101]).i=s.i+1:=by unfold D1;rw [if_neg (by rw [hi];decide)];rfl
 show s.i<s3.i;omega
theorem C6v {k:Int} {s:Rd}:s.i+1<=(R0 L E k s).2.i:=by
 unfold R0;dsimp only;have h1:=I8 (L:=L) (E:=E) (s:=A7 s) (x:=1);have h0:(A7 s).i=s.i+1:=rfl;split
 ·generalize (B2 L E (A7 s) 1).2=s2 at h1 ⊢;have h3:s2.i<=(if (k+1 == 6 && isR L E s2 [45])=true then A7 s2 else s2).i:=by
   split
   ·exact A3O _
   ·exact A0H _
  generalize (if (k+1 == 6 && isR L E s2 [45])=true then A7 s2 else s2)=s3 at h3 ⊢;have h4:=I8 (L:=L) (E:=E) (s:=s3) (x:=3);have h5:=E6 (L:=L) (E:=E) (s:=(B2 L E s3 3).2) (x:=[59]);show s.i+1<=(D1 L E (B2 L E s3 3).2 [59]).i;omega
 ·have h5:=E6 (L:=L) (E:=E) (s:=(B2 L E (A7 s) 1).2) (x:=[59]);show s.i+1<=(D1 L E (B2 L E (A7 s) 1).2 [59]).i;omega
theorem B9o {s:Rd} (h:okR s=false):∀ (l:List (List UInt8)) (k:Nat),V6 L E s k l = -1
 | [],k=>rfl
 | t :: l,k=>by rw [V6,show isR L E s t=false by unfold isR;rw [h];rfl,if_neg (by decide),B9o h l]
theorem C8p:∀ (m:Nat) (l:List Dc) (s:Rd),L.length-s.i<=m->∃ r,Evt (fun f=>R9 L E f l s) r/\s.i<=r.2.i:=by
 intro m
 induction m using Nat.strongRecOn with
 | _ m ih =>
  intro l s hs;by_cases hk:C1 L E s D2<0
  ·exact ⟨_,Evt.one fun f=>by rw [R9];dsimp only;rw [if_pos hk],A0H _⟩
  ·have hi:=(G5 (show 0<=C1 L E s D2 by omega)).2.1;have h1:(C4 L E s ((l.length:Int)+1) 128 9).i=s.i:=F7;cases hl:okR (C4 L E s ((l.length:Int)+1) 128 9) with
   | false =>
    have hz:C1 L E (C4 L E s ((l.length:Int)+1) 128 9) D2<0:=by
     show V6 L E _ 0 D2<0;rw [B9o hl];decide
    have h2:Evt (fun f=>R9 L E f l (C4 L E s ((l.length:Int)+1) 128 9)) (l,C4 L E s ((l.length:Int)+1) 128 9):=Evt.one fun f=>by rw [R9];dsimp only;rw [if_pos hz]
    exact ⟨_,h2.ext fun f h=>by rw [R9];dsimp only;rw [if_neg hk,if_neg (by rw [hl];decide)];exact h,by show s.i<=(C4 L E s ((l.length:Int)+1) 128 9).i;omega⟩
   | true =>
    have h3:=C6v (L:=L) (E:=E) (k:=C1 L E s D2) (s:=C4 L E s ((l.length:Int)+1) 128 9);obtain ⟨r,hr,hg⟩:=ih (L.length-(R0 L E (C1 L E s D2) (C4 L E s ((l.length:Int)+1) 128 9)).2.i) (by omega) (l++[(R0 L E (C1 L E s D2) (C4 L E s ((l.length:Int)+1) 128 9)).1]) _ (A0H _);exact ⟨r,hr.ext fun f h=>by rw [R9];dsimp only;rw [if_neg hk,if_pos hl];exact h,by omega⟩
theorem C8o:∀ (m:Nat) (l:List Md) (s:Rd),L.length-s.i<=m->∃ r,Evt (fun f=>Q0 L E f l s) r/\s.i<=r.2.i:=by
 intro m
 induction m using Nat.strongRecOn with
 | _ m ih =>
  intro l s hs;by_cases hc:okR s=true/\s.i<L.length
  ·cases hm:isR L E s [109,111,100,101] with
   | false=>exact ⟨_,Evt.one fun f=>by rw [Q0,if_pos hc,if_pos hm],by show s.i<=(O2 L E s).i;rw [T6];exact A0H _⟩
   | true =>
    have h1:(C4 L E s ((l.length:Int)+1) 16 9).i=s.i:=F7;cases hl:okR (C4 L E s ((l.length:Int)+1) 16 9) with
    | false =>
     have h2:Evt (fun f=>Q0 L E f l (C4 L E s ((l.length:Int)+1) 16 9)) (l,C4 L E s ((l.length:Int)+1) 16 9):=Evt.one fun f=>by rw [Q0,if_neg (by rw [hl];simp)]
     exact ⟨_,h2.ext fun f h=>by rw [Q0,if_pos hc,if_neg (by rw [hm];decide)];dsimp only;rw [if_neg (by rw [hl];decide)];exact h,by show s.i<=(C4 L E s ((l.length:Int)+1) 16 9).i;omega⟩
    | true =>
     have e0:=(G3 (by decide) hl).2.2;obtain ⟨⟨md,s2⟩,h2,hg,hlt⟩:=C9k (L:=L) (E:=E) s;have hlt:s.i<s2.i:=hlt hm;obtain ⟨r,hr,hg2⟩:=ih (L.length-s2.i) (by omega) (l++[md]) s2 (A0H _);exact ⟨r,h2.ext2 hr fun f h2 hr=>by rw [Q0,if_pos hc,if_neg (by rw [hm];decide)];dsimp only;rw [if_pos hl,e0,h2];exact hr,by omega⟩
  ·exact ⟨_,Evt.one fun f=>by rw [Q0,if_neg hc],A0H _⟩
theorem B8a (s:Rd):∃ r,Evt (fun f=>A4e L E f s) r:=by
 obtain ⟨⟨d,s1⟩,h1, -⟩:=C8p (L:=L) (E:=E) _ [] s (A0H _);obtain ⟨⟨m,s2⟩,h2, -⟩:=C8o (L:=L) (E:=E) _ [] s1 (A0H _);exact ⟨_,h1.map2 h2 fun f h1 h2=>by unfold A4e;rw [h1];dsimp only;rw [h2]⟩
end
end Go.Pb
namespace Go.Pb
variable [Go.Sym.Tab]
open Go.Sym
def A5 (s:List UInt8):Tok:=⟨if G6 s=true then 2 else if D8 s=true then 1 else 5,s,0,0⟩
def D4 (s:List UInt8):List Tok:=if D8 s=false then [R7] else [⟨1,s,0,0⟩]
def T7 (n:Int):List Tok:=if n<0\/2147483647<n then [R7] else [⟨3,[],n,0⟩]
def txB (c:UInt8):Bool:=decide (32<=c.toNat) && decide (c.toNat<=126)
def A1a (s:List UInt8):List Tok:=if s.all txB=false\/32<s.length then [R7] else [⟨4,s,0,0⟩]
def E3 (q:Int × List Tok) (least:Int):List Tok:=if B4 q.1<least then [A5 [40]]++q.2++[A5 [41]] else q.2
def K3 (k v:Int) (n:List UInt8) (as1:List (Int × List Tok)):List Tok :=
 let lv:=B4 k
 if k=1 then T7 v
 else if k=2 then D4 n
 else if k=3 then [A5 [116,114,117,101]]
 else if k=4 then [A5 [102,97,108,115,101]]
 else if k=8 then [A5 [112,108,97,121,101,114]]
 else if k=9 then [A5 [98,97,108,108]]
 else if k=5 then [A5 [99,108,111,115,101,100]]++D4 n
 else if k=6 then [A5 [97,99,116,105,118,101]]++D4 n
 else if k=7 then [A5 [108,101,102,116]]++D4 n
 else match as1 with
  | [q]=>if lv=6 then [A5 (if k=10 then [45] else [33])]++E3 q 6 else [R7]
  | [q,r]=>if lv<6 then E3 q (if lv=3 then 4 else lv)++[A5 (C5.getD (k-12).toNat [])]++E3 r (lv+1) else [R7]
  | _=>[R7]
mutual
def exT:Ex->List Tok
 | .mk k v n a p=>K3 k v n (A6q a)
def A6q:List Ex->List (Int × List Tok)
 | []=>[]
 | e :: l=>(e.kind,exT e) :: A6q l
end
def agT (l:List Ex) (i:Nat):List Tok:=match l[i]? with
 | some e=>exT e
 | none=>[R7]
mutual
def stT:St->List Tok
 | .mk k n t a x y p =>
  if k=1 then D4 n++[A5 [61]]++agT a 0++[A5 [59]]
  else if k<2\/19<k then [R7]
  else
   let w:=A5 (C0.getD (k-2).toNat [])
   if k=2\/k=3 then
    let o:=[w]++agT a 0++([A5 [123]]++O8 x++[A5 [125]])
    match y with
    | []=>o
    | [s]=>if s.kind=2 then o++[A5 [101,108,115,101]]++stT s else o++[A5 [101,108,115,101]]++([A5 [123]]++stT s++[A5 [125]])
    | s :: s2 :: r=>o++[A5 [101,108,115,101]]++([A5 [123]]++O8 (s :: s2 :: r)++[A5 [125]])
   else if k=4 then [w]++agT a 0++[A5 [59]]
   else if k=18 then [w]++A1a t++[A5 [44]]++agT a 0++[A5 [59]]
   else if k=8\/k=10 then [w]++D4 n++agT a 0++[A5 [59]]
   else if k=9 then [w]++D4 n++agT a 0++[A5 [44]]++agT a 1++[A5 [59]]
   else if k=19 then [w]++[A5 [59]]
   else [w]++D4 n++[A5 [59]]
def O8:List St->List Tok
 | []=>[]
 | s :: l=>stT s++O8 l
end
def blT (l:List St):List Tok:=[A5 [123]]++O8 l++[A5 [125]]
def dcT (d:Dc):List Tok :=
 if d.kind<1\/8<d.kind then [R7]
 else
  let o:=[A5 (D2.getD (d.kind-1).toNat [])]++D4 d.name
  (if 6<d.kind then o
  else if d.value<0 /\ -2147483647<=d.value/\d.kind=6 then o++[A5 [45]]++T7 (-d.value)
  else o++T7 d.value)++[A5 [59]]
def hdT (h:Hd):List Tok:=[A5 [111,110],A5 (E1.getD (h.trig-1).toNat [])]++(if 2<h.trig then D4 h.name else [])++blT h.body
def U1 (h:Hd):Bool:=decide (h.trig<1) || decide (6<h.trig)
def mdT (m:Md):List Tok:=[A5 [109,111,100,101]]++D4 m.name++T7 m.prio++[A5 [123]]++m.hds.flatMap hdT++[A5 [125]]
def ruT (r:Ru):List Tok:=if (r.modes.any fun m=>m.hds.any U1)=true then [R7] else r.decls.flatMap dcT++r.modes.flatMap mdT
mutual
def Ex.plain:Ex->Ex
 | .mk k v n a p=>.mk k v n (Ex.plains a) 0
def Ex.plains:List Ex->List Ex
 | []=>[]
 | e :: l=>e.plain :: Ex.plains l
end
mutual
def St.plain:St->St
 | .mk k n t a x y p=>.mk k n t (Ex.plains a) (St.plains x) (St.plains y) 0
def St.plains:List St->List St
 | []=>[]
 | e :: l=>e.plain :: St.plains l
end
def Dc.plain (d:Dc):Dc:={ d with pos:=0 }
def Hd.plain (h:Hd):Hd:=⟨h.trig,h.name,St.plains h.body,0⟩
def Md.plain (m:Md):Md:=⟨m.name,m.prio,m.hds.map Hd.plain,0⟩
def Ru.plain (r:Ru):Ru:=⟨r.decls.map Dc.plain,r.modes.map Md.plain⟩
theorem Ex.plains_map:∀ l:List Ex,Ex.plains l=l.map Ex.plain
 | []=>rfl
 | e :: l=>by rw [Ex.plains,Ex.plains_map l];rfl
theorem St.plains_map:∀ l:List St,St.plains l=l.map St.plain
 | []=>rfl
 | e :: l=>by rw [St.plains,St.plains_map l];rfl
mutual
def A9r (p:Bool):Ex->Ex->Bool
 | .mk k v n a q,.mk k' v' n' a' q'=>k == k' && (v == v' && (n == n' && ((p || q == q') && M9 p a a')))
def M9 (p:Bool):List Ex->List Ex->Bool
 | [],[]=>true
 | e :: l,e' :: l'=>A9r p e e' && M9 p l l'
 | _,_=>false
end
mutual
def B5t:St->St->Bool
 | .mk k n t a x y q,.mk k' n' t' a' x' y' q'=>k == k' && (n == n' && (t == t' && (q == q' && (M9 false a a' && (K9 x x' && K9 y y')))))
def K9:List St->List St->Bool
 | [],[]=>true
 | e :: l,e' :: l'=>B5t e e' && K9 l l'
 | _,_=>false
end
mutual
theorem C5x:∀ a b:Ex,A9r false a b=true↔a=b
 | .mk k v n a q,.mk k' v' n' a' q'=>by
  have:=A5w a a';simp only [A9r,A0G,A1K,Bool.false_or,this,Ex.mk.injEq];constructor
  ·rintro ⟨h1,h2,h3,h4,h5⟩;exact ⟨h1,h2,h3,h5,h4⟩
  ·rintro ⟨h1,h2,h3,h4,h5⟩;exact ⟨h1,h2,h3,h5,h4⟩
theorem A5w:∀ a b:List Ex,M9 false a b=true↔a=b
 | [],[]=>by simp [M9]
 | [],_ :: _=>by simp [M9]
 | _ :: _,[]=>by simp [M9]
 | e :: l,e' :: l'=>by
  have h1:=C5x e e';have h2:=A5w l l';simp only [M9,A0G,h1,h2,List.cons.injEq]
end
mutual
theorem C2x:∀ a b:St,B5t a b=true↔a=b
 | .mk k n t a x y q,.mk k' n' t' a' x' y' q'=>by
  have h1:=A5w a a';have h2:=Z5 x x';have h3:=Z5 y y';simp only [B5t,A0G,A1K,h1,h2,h3,St.mk.injEq];constructor
  ·rintro ⟨e1,e2,e3,e4,e5,e6,e7⟩;exact ⟨e1,e2,e3,e5,e6,e7,e4⟩
  ·rintro ⟨e1,e2,e3,e4,e5,e6,e7⟩;exact ⟨e1,e2,e3,e7,e4,e5,e6⟩
theorem Z5:∀ a b:List St,K9 a b=true↔a=b
 | [],[]=>by simp [K9]
 | [],_ :: _=>by simp [K9]
 | _ :: _,[]=>by simp [K9]
 | e :: l,e' :: l'=>by
  have h1:=C2x e e';have h2:=Z5 l l';simp only [K9,A0G,h1,h2,List.cons.injEq]
end
end Go.Pb
namespace Go.Pb
variable [Go.Sym.Tab]
open Go.Sym
def J6 (k:Int):Nat:=if B4 k=6 then 1 else if B4 k<6 then 2 else 0
def B1z (k:Int):Bool:=k == 5 || (k == 6 || k == 7)
def kOk (k:Int):Bool:=decide (B4 k<7) || (decide (1<=k) && decide (k<=24))
def A1j (k:Int) (n:List UInt8):Bool:=if k=2\/B1z k=true then D8 n else n == []
def A1g (k v:Int):Bool:=v == 0 || (k == 1 && (decide (0<v) && decide (v<=2147483647)))
def X4 (k q:Int) (i:Nat):Bool:=decide (B4 q<B4 k) || (B4 q == B4 k && (i == 1 || B4 k == 3))
mutual
def msM:Ex->Option (Nat × Nat)
 | .mk k v n a p =>
  if kOk k=false\/a.length≠J6 k\/A1j k n=false\/A1g k v=false then none
  else if J6 k=0 then some (1,0)
  else match msL k 0 a with
   | none=>none
   | some (o,d)=>some (o,if J6 k=1 then d+1 else d)
def msL (k:Int):Nat->List Ex->Option (Nat × Nat)
 | _,[]=>some (0,0)
 | i,e :: l=>match msM e with
  | none=>none
  | some (o,d)=>match msL k (i+1) l with
   | none=>none
   | some (o2,d2)=>some (o+o2,max (if X4 k e.kind i=true then d+1 else d) d2)
end
def X5 (e:Ex):Bool:=match msM e with
 | some (o,d)=>decide (o<=32) && decide (d<=16)
 | none=>false
structure Shp where
 name:Bool
 text:Bool
 args:Nat
 thn:Bool
 els:Bool
def M2 (k:Int):Shp :=
 if k=1\/k=8\/k=10 then ⟨true,false,1,false,false⟩
 else if k=9 then ⟨true,false,2,false,false⟩
 else if k=2 then ⟨false,false,1,true,true⟩
 else if k=3 then ⟨false,false,1,true,false⟩
 else if k=4 then ⟨false,false,1,false,false⟩
 else if k=18 then ⟨false,true,1,false,false⟩
 else if k=19 then ⟨false,false,0,false,false⟩
 else ⟨true,false,0,false,false⟩
def U0 (s:List UInt8):Bool:=s.all txB && decide (s.length<=32)
mutual
def R6:Nat->St->Bool
 | d,.mk k n t a x y p =>
  (decide (1<=k) && decide (k<=19)) && (a.length == (M2 k).args && a.all X5) &&
   ((if (M2 k).name=true then D8 n else n == []) && (if (M2 k).text=true then U0 t else t == [])) &&
   (((M2 k).thn || x.isEmpty) && ((M2 k).els || y.isEmpty)) &&
   ((decide (x.length<=64) && (x.isEmpty || decide (d+1<=8)) && G7 (d+1) x) && (decide (y.length<=64) && (y.isEmpty || decide (d+1<=8)) && G7 (d+1) y))
def G7:Nat->List St->Bool
 | _,[]=>true
 | d,s :: l=>R6 d s && G7 d l
end
def N8 (l:List St) (d:Nat):Bool:=decide (l.length<=64) && (l.isEmpty || decide (d<=8)) && G7 d l
def A1m (d:Dc):Bool:=decide (1<=d.kind) && decide (d.kind<=8) && D8 d.name && decide ((if d.kind=6 then -2147483647 else 0)<=d.value) && decide (d.value<=(if d.kind=7\/d.kind=8 then 0 else 2147483647))
def A1h (h:Hd):Bool:=decide (1<=h.trig) && decide (h.trig<=6) && (if 3<=h.trig then D8 h.name else h.name == []) && N8 h.body 1
def W0 (m:Md):Bool:=D8 m.name && decide (0<=m.prio) && decide (m.prio<=2147483647) && decide (m.hds.length<=32) && m.hds.all A1h
def R5 (r:Ru):Bool:=decide (r.decls.length<=128) && decide (r.modes.length<=16) && r.decls.all A1m && r.modes.all W0
def H6 (t:Tok):Prop:=(t.kind=1->D8 t.text=true)/\(t.kind=3->0<=t.value/\t.value<=2147483647)/\(t.kind=4->U0 t.text=true)
def SE (n:Int) (s:Rd) (e:Ex) (s':Rd):Prop :=
 okR s=true/\s'.par=s.par/\∃ o d,msM e=some (o,d)/\s'.ops=s.ops+(o:Int)/\s'.ops<=32/\((n<=B4 e.kind/\s.par+(d:Int)<=16)\/s.par+(d:Int)+1<=16)
theorem V8 (k:Int):1<=B4 k/\B4 k<=7:=by
 unfold B4;repeat' split
 all_goals omega
theorem B2f {k:Int} (h:B4 k<7):10<=k/\k<=24:=by
 unfold B4 at h;repeat' split at h
 all_goals omega
theorem C9u {k:Int} (h0:0<=k) (h1:k<13):B4 (12+k)<6:=by
 unfold B4;repeat' split
 all_goals omega
theorem A4r {k:Int} (h:k=10\/k=11):B4 k=6:=by
 rcases h with rfl|rfl<;>rfl
theorem D5b {k:Int} {a b:Ex} {o1 d1 o2 d2:Nat} {p:Int} (hk:B4 k<6) (ha:msM a=some (o1,d1)) (hb:msM b=some (o2,d2)) :
  msM (.mk k 0 [] [a,b] p)=some (o1+o2,max (if X4 k a.kind 0=true then d1+1 else d1) (if X4 k b.kind 1=true then d2+1 else d2)):=by
 have hl:=B2f (k:=k) (by omega);have h1:kOk k=true:=by simp [kOk];left;omega
 have h2:J6 k=2:=by unfold J6;rw [if_neg (by omega),if_pos hk]
 have h3:A1j k []=true:=by
  unfold A1j;rw [if_neg]
  ·rfl
  ·simp only [B1z,A0Z,A1K];omega
 have h4:A1g k 0=true:=by simp [A1g]
 unfold msM;rw [if_neg (by simp [h1,h2,h3,h4]),h2,if_neg (by omega)];simp only [msL,ha,hb,A2W,A1J,Nat.max_zero,if_neg (show ¬ 2=1 by omega)]
theorem D8r {k:Int} {a:Ex} {o d:Nat} {p:Int} (hk:k=10\/k=11) (ha:msM a=some (o,d)) :
  msM (.mk k 0 [] [a] p)=some (o,(if X4 k a.kind 0=true then d+1 else d)+1):=by
 have hl:=A4r hk;have h1:kOk k=true:=by simp [kOk];left;omega
 have h2:J6 k=1:=by unfold J6;rw [if_pos hl]
 have h3:A1j k []=true:=by
  unfold A1j;rw [if_neg]
  ·rfl
  ·simp only [B1z,A0Z,A1K];omega
 have h4:A1g k 0=true:=by simp [A1g]
 unfold msM;rw [if_neg (by simp [h1,h2,h3,h4]),h2,if_neg (by omega)];simp only [msL,ha,A2W,Nat.max_zero,if_true]
theorem C9j {k v:Int} {n:List UInt8} {p:Int} (hk:B4 k=7) (h1:kOk k=true) (h3:A1j k n=true) (h4:A1g k v=true):msM (.mk k v n [] p)=some (1,0):=by
 have h2:J6 k=0:=by unfold J6;rw [if_neg (by omega),if_neg (by omega)]
 unfold msM;rw [if_neg (by simp [h1,h2,h3,h4]),if_pos h2]
section
variable {L:List Tok} {E:Int}
theorem H9 {s:Rd} {t:List UInt8} (h:okR (D1 L E s t)=true):okR s=true:=(A1b (A8w h).1).1
theorem W4 {s:Rd} {k:Int} (h:okR (B2 L E s k).2=true):okR s=true:=(H7 (A0j h).1).1
theorem B8g {s:Rd} (h:okR (I4 L E s).2=true):okR s=true:=by
 unfold I4 at h;dsimp only at h;split at h
 ·rw [A0k] at h;cases h
 ·split at h
  ·rename_i h1;rw [h1] at h;cases h
  ·rename_i h1;have h2:okR (C4 L E { s with ops:=s.ops+1 } (s.ops+1) 32 9)=true:=by simpa using h1
   exact (G3 (by decide) h2).1
theorem B6e (hG:∀ t∈L,H6 t) {s s':Rd} {e:Ex} (h:I4 L E s=(e,s')) (hok:okR s'=true) (hp:s.par<=16):SE 7 s e s':=by
 have hs:okR s=true:=B8g (L:=L) (E:=E) (by rw [h];exact hok);have leaf:∀ (k v:Int) (n:List UInt8) (p:Int),B4 k=7->kOk k=true->A1j k n=true->A1g k v=true->s.ops+1<=32->∀ s2:Rd,s2.par=s.par->s2.ops=s.ops+1->SE 7 s (.mk k v n [] p) s2:=by
  intro k v n p q1 q2 q3 q4 q6 s2 q7 q8;refine ⟨hs,q7,1,0,C9j q1 q2 q3 q4,by rw [q8];rfl,by omega,.inl ⟨?_,by simpa using hp⟩⟩;show 7<=B4 k;omega
 unfold I4 at h;dsimp only at h;split at h
 ·cases h;rw [A0k] at hok;cases hok
 rename_i hc;split at h
 ·rename_i h1;cases h;rw [h1] at hok;cases hok
 rename_i h1;have h2:okR (C4 L E { s with ops:=s.ops+1 } (s.ops+1) 32 9)=true:=by simpa using h1
 obtain ⟨-,h3,h4⟩:=G3 (by decide) h2;rw [h4] at h;split at h
 ·rename_i hk;obtain ⟨-, -, -,hk7⟩:=G5 hk;have hk7:C1 L E s F2<7:=hk7;generalize C1 L E s F2=k at h hk hk7;split at h
  ·rename_i hk4;cases h;obtain ⟨t1,t2⟩:=A0j hok;obtain ⟨t3,t4⟩:=H7 t1;have hn:=(hG _ (J4 (by decide) t4).1).1 t4;rw [t2];have:k=4\/k=5\/k=6:=by omega
   rcases this with rfl|rfl|rfl
   ·exact leaf 5 _ _ _ (by decide) (by decide) hn (by decide) h3 _ rfl rfl
   ·exact leaf 6 _ _ _ (by decide) (by decide) hn (by decide) h3 _ rfl rfl
   ·exact leaf 7 _ _ _ (by decide) (by decide) hn (by decide) h3 _ rfl rfl
  ·rename_i hk4;cases h;have:k=0\/k=1\/k=2\/k=3:=by omega
   rcases this with rfl|rfl|rfl|rfl
   all_goals exact leaf _ _ _ _ (by decide) (by decide) (by decide) (by decide) h3 _ rfl rfl
 ·rename_i hk;split at h
  ·rename_i hk3;cases h;have hn:=(hG _ (J4 (by decide) hk3).1).2.1 hk3;refine leaf 1 _ _ _ (by decide) (by decide) (by decide) ?_ h3 _ rfl rfl;simp only [A1g,A0Z,A0G,A1K,A0L];by_cases h0:(B5 L E s).value=0
   ·exact .inl h0
   ·exact .inr ⟨trivial,by omega,hn.2⟩
  ·rename_i hk3;cases h;have h1k:I0 L E s 1=true:=by
    cases hz:I0 L E s 1 with
    | true=>rfl
    | false =>
     refine absurd ⟨by omega,?_,hz⟩ hc;cases hy:I0 L E s 3 with
     | false=>rfl
     | true=>exact absurd (H7 hy).2 hk3
   have hn:=(hG _ (J4 (by decide) (H7 h1k).2).1).1 (H7 h1k).2;exact leaf 2 _ _ _ (by decide) (by decide) hn (by decide) h3 _ rfl rfl
theorem OB.all:∀ f:Nat,(∀ n s r,I7 L E f n s=some r->okR r.2=true->okR s=true)/\(∀ n e s r,O5 L E f n e s=some r->okR r.2=true->okR s=true)/\(∀ s r,S6 L E f s=some r->okR r.2=true->okR s=true)
 | 0=>⟨fun n s r h=>by simp [I7] at h,fun n e s r h=>by simp [O5] at h,fun s r h=>by simp [S6] at h⟩
 | f+1=>by
  obtain ⟨i1,i2,i3⟩:=OB.all f;refine ⟨fun n s r h k=>?_,fun n e s r h k=>?_,fun s r h k=>?_⟩
  ·unfold I7 at h;split at h
   ·exact i3 _ _ h k
   ·split at h
    ·cases h
    ·rename_i hb;exact i1 _ _ _ hb (i2 _ _ _ _ h k)
  ·unfold O5 at h;dsimp only at h;split at h
   ·cases h;exact k
   ·rename_i hk;exact (G5 (show 0<=C1 L E s C5 from Classical.byContradiction fun g=>hk (.inl (by omega)))).1
  ·unfold S6 at h;dsimp only at h;split at h
   ·cases h;exact B8g k
   ·rename_i hk;exact (G5 (show 0<=C1 L E s K5 by omega)).1
theorem SE.weak {m n:Int} {s s':Rd} {e:Ex} (hmn:n<=m) (h:SE m s e s'):SE n s e s':=by
 obtain ⟨h1,h2,o,d,h3,h4,h5,h6⟩:=h;exact ⟨h1,h2,o,d,h3,h4,h5,h6.imp (fun h=>⟨by omega,h.2⟩) id⟩
theorem SE.all (hG:∀ t∈L,H6 t):∀ f:Nat,(∀ n s r,1<=n->n<=6->I7 L E f n s=some r->okR r.2=true->s.par<=16->SE n s r.1 r.2) /\
  (∀ n m e s s0 r,1<=n->n<=5->(m=n+1\/m=n/\n≠3)->O5 L E f n e s=some r->okR r.2=true->SE m s0 e s->s0.par<=16->SE n s0 r.1 r.2) /\
  (∀ s r,S6 L E f s=some r->okR r.2=true->s.par<=16->SE 6 s r.1 r.2)
 | 0=>⟨fun n s r _ _ h=>by simp [I7] at h,fun n m e s s0 r _ _ _ h=>by simp [O5] at h,fun s r h=>by simp [S6] at h⟩
 | f+1=>by
  obtain ⟨i1,i2,i3⟩:=SE.all hG f;refine ⟨fun n s r n1 n6 h k hp=>?_,fun n m e s s0 r n1 n5 hm h k he hp=>?_,fun s r h k hp=>?_⟩
  ·unfold I7 at h;split at h
   ·have:=i3 _ _ h k hp;exact this.weak n6
   ·rename_i hn;split at h
    ·cases h
    ·rename_i e s1 hb;have k1:=(OB.all f).2.1 _ _ _ _ h k;have h1:=i1 _ _ _ (by omega) (by omega) hb k1 hp;exact i2 n (n+1) _ _ s _ n1 (by omega) (.inl rfl) h k h1 hp
  ·unfold O5 at h;dsimp only at h;split at h
   ·cases h;exact he.weak (by omega)
   ·rename_i hk;have hk0:0<=C1 L E s C5:=Classical.byContradiction fun g=>hk (.inl (by omega));have hlv:B4 (12+C1 L E s C5)=n:=Classical.byContradiction fun g=>hk (.inr g);split at h
    ·cases h
    ·rename_i x s1 hb;obtain ⟨e1,e2,o1,d1,e3,e4,e5,e6⟩:=he;have step:okR s1=true->SE n s0 (.mk (12+C1 L E s C5) 0 [] [e,x] (B5 L E s).pos) s1:=by
      intro k1;obtain ⟨x1,x2,o2,d2,x3,x4,x5,x6⟩:=i1 _ _ _ (by omega) (by omega) hb k1 (by show s.par<=16;omega);have x2':s1.par=s.par:=x2;have x4':s1.ops=s.ops+(o2:Int):=x4;have x6':((n+1<=B4 x.kind/\s.par+(d2:Int)<=16)\/s.par+(d2:Int)+1<=16):=x6;refine ⟨e1,by omega,_,_,D5b (by omega) e3 x3,by rw [x4',e4];omega,x5,.inl ⟨?_,?_⟩⟩
      ·show n<=B4 (12+C1 L E s C5);omega
      ·have w1:s0.par+((if X4 (12+C1 L E s C5) e.kind 0=true then d1+1 else d1:Nat):Int)<=16:=by
        split
        ·rename_i hw;simp only [X4,A0Z,A0G,A0L,A1K,hlv] at hw;omega
        ·omega
       have w2:s0.par+((if X4 (12+C1 L E s C5) x.kind 1=true then d2+1 else d2:Nat):Int)<=16:=by
        split
        ·rename_i hw;simp only [X4,A0Z,A0G,A0L,A1K,hlv] at hw;omega
        ·omega
       omega
     split at h
     ·cases h;exact step k
     ·rename_i hn3;have k1:=(OB.all f).2.1 _ _ _ _ h k;exact i2 n n _ _ s0 _ n1 n5 (.inr ⟨rfl,hn3⟩) h k (step k1) hp
  ·unfold S6 at h;dsimp only at h;split at h
   ·cases h;exact (B6e hG rfl k hp).weak (by decide)
   ·rename_i hk;obtain ⟨hs,hi, -,hk3⟩:=G5 (show 0<=C1 L E s K5 by omega);have hk3:C1 L E s K5<3:=hk3;split at h
    ·rename_i hl;cases h;rw [hl] at k;cases k
    rename_i hl;have hl:okR (C4 L E s (s.par+1) 16 50)=true:=by simpa using hl
    obtain ⟨-,h2,h3⟩:=G3 (by decide) hl;rw [h3] at h;split at h
    ·split at h
     ·cases h
     ·rename_i e s3 hb;cases h;have k3:okR (D1 L E s3 [41])=true:=k;obtain ⟨-,x2⟩:=A8w k3;obtain ⟨e1,e2,o,d,e3,e4,e5,e6⟩:=i1 1 _ _ (by decide) (by decide) hb (H9 k3) (show s.par+1<=16 from h2);have e2':s3.par=s.par+1:=e2;have e4':s3.ops=s.ops+(o:Int):=e4;have e6':((1<=B4 e.kind/\s.par+1+(d:Int)<=16)\/s.par+1+(d:Int)+1<=16):=e6;rw [x2];refine ⟨hs,by show s3.par-1=s.par;omega,o,d,e3,e4',e5,.inr (by omega)⟩
    ·rename_i hk2;split at h
     ·cases h
     ·rename_i e s3 hb;cases h;have k3:okR s3=true:=k;obtain ⟨e1,e2,o,d,e3,e4,e5,e6⟩:=i3 _ _ hb k3 (show s.par+1<=16 from h2);have e2':s3.par=s.par+1:=e2;have e4':s3.ops=s.ops+(o:Int):=e4;have e6':((6<=B4 e.kind/\s.par+1+(d:Int)<=16)\/s.par+1+(d:Int)+1<=16):=e6;have hk10:10+C1 L E s K5=10\/10+C1 L E s K5=11:=by omega
      refine ⟨hs,by show s3.par-1=s.par;omega,o,_,D8r hk10 e3,e4',e5,.inl ⟨?_,?_⟩⟩
      ·show 6<=B4 (10+C1 L E s K5);rw [A4r hk10];decide
      ·split
       ·rename_i hw;simp only [X4,A0Z,A0G,A0L,A1K,A4r hk10] at hw;omega
       ·omega
theorem N0 (hG:∀ t∈L,H6 t) {f:Nat} {s:Rd} {r:Ex × Rd} (h:Q7 L E f s=some r) (hok:okR r.2=true):okR s=true/\X5 r.1=true:=by
 obtain ⟨h1,h2,o,d,h3,h4,h5,h6⟩:=(SE.all hG f).1 1 _ _ (by decide) (by decide) h hok (by decide:(0:Int)<=16);refine ⟨h1,?_⟩;have h4':r.2.ops=0+(o:Int):=h4;have h6':((1<=B4 r.1.kind/\0+(d:Int)<=16)\/0+(d:Int)+1<=16):=h6;unfold X5;rw [h3];simp only [A0G,A0L];omega
end
end Go.Pb
namespace Go.Pb
variable [Go.Sym.Tab]
open Go.Sym
section
variable {L:List Tok} {E:Int}
theorem P2 (hG:∀ t∈L,H6 t) {s:Rd} (h:okR (B2 L E s 1).2=true):D8 (B2 L E s 1).1.text=true:=by
 obtain ⟨h1,h2⟩:=A0j h;rw [h2];exact (hG _ (J4 (by decide) (H7 h1).2).1).1 (H7 h1).2
theorem B3e (hG:∀ t∈L,H6 t) {s:Rd} (h:okR (B2 L E s 3).2=true):0<=(B2 L E s 3).1.value/\(B2 L E s 3).1.value<=2147483647:=by
 obtain ⟨h1,h2⟩:=A0j h;rw [h2];exact (hG _ (J4 (by decide) (H7 h1).2).1).2.1 (H7 h1).2
theorem C2j (hG:∀ t∈L,H6 t) {s:Rd} (h:okR (B2 L E s 4).2=true):U0 (B2 L E s 4).1.text=true:=by
 obtain ⟨h1,h2⟩:=A0j h;rw [h2];exact (hG _ (J4 (by decide) (H7 h1).2).1).2.2 (H7 h1).2
theorem A0h {d:Nat} {k p:Int} {n t:List UInt8} {a:List Ex} (h1:1<=k) (h2:k<=19) (h3:a.length=(M2 k).args) (h4:a.all X5=true)
  (h5:(if (M2 k).name=true then D8 n else n == [])=true) (h6:(if (M2 k).text=true then U0 t else t == [])=true):R6 d (.mk k n t a [] [] p)=true:=by
 unfold R6;simp only [A0G,A0L,A1K];exact ⟨⟨⟨⟨⟨h1,h2⟩,h3,h4⟩,h5,h6⟩,by simp⟩,by simp [G7]⟩
theorem B5r (hG:∀ t∈L,H6 t) {f:Nat} {k p:Int} {s:Rd} {r:St × Rd} (d:Nat) (hk4:4<=k) (hk:k<=19) (h:I9 L E f k p s=some r) (hok:okR r.2=true):okR s=true/\R6 d r.1=true:=by
 unfold I9 at h;dsimp only at h;split at h
 ·rename_i hk;subst hk;split at h
  ·cases h
  ·rename_i e s1 he;cases h;obtain ⟨h1,h2⟩:=N0 hG he (H9 hok);exact ⟨h1,A0h (by decide) (by decide) rfl (by simp [h2]) rfl rfl⟩
 split at h
 ·rename_i hk;subst hk;split at h
  ·cases h
  ·rename_i e s1 he;cases h;obtain ⟨h1,h2⟩:=N0 hG he (H9 hok);have h3:=H9 h1;exact ⟨W4 h3,A0h (by decide) (by decide) rfl (by simp [h2]) rfl (C2j hG h3)⟩
 split at h
 ·rename_i hk;subst hk;cases h;exact ⟨H9 hok,A0h (by decide) (by decide) rfl rfl rfl rfl⟩
 rename_i n4 n18 n19;split at h
 ·rename_i hk;split at h
  ·cases h
  ·rename_i e s1 he;split at h
   ·rename_i hk9;subst hk9;split at h
    ·cases h
    ·rename_i e2 s2 he2;cases h;obtain ⟨h1,h2⟩:=N0 hG he2 (H9 hok);obtain ⟨h3,h4⟩:=N0 hG he (H9 h1);exact ⟨W4 h3,A0h (by decide) (by decide) rfl (by simp [h2,h4]) (P2 hG h3) rfl⟩
   ·rename_i hk9;cases h;obtain ⟨h1,h2⟩:=N0 hG he (H9 hok);have:k=8\/k=10:=by omega
    rcases this with rfl|rfl
    all_goals exact ⟨W4 h1,A0h (by decide) (by decide) rfl (by simp [h2]) (P2 hG h1) rfl⟩
 ·rename_i hk8;cases h;have h1:=H9 hok;have hs:M2 k=⟨true,false,0,false,false⟩:=by
   unfold M2;rw [if_neg (by omega),if_neg (by omega),if_neg (by omega),if_neg (by omega),if_neg (by omega),if_neg (by omega),if_neg (by omega)]
  exact ⟨W4 h1,A0h (by omega) hk (by rw [hs];rfl) rfl (by rw [hs];exact P2 hG h1) (by rw [hs];rfl)⟩
theorem A7t {d:Nat}:∀ {l:List St} {x:St},G7 d (l++[x])=(G7 d l && R6 d x)
 | [],x=>by simp [G7]
 | a :: l,x=>by rw [List.cons_append,G7,G7,A7t,Bool.and_assoc]
theorem B2x {d:Nat} {k p:Int} {e:Ex} {t o:List St} (hk:k=2\/k=3) (he:X5 e=true) (ht:N8 t (d+1)=true) (ho:N8 o (d+1)=true) (h3:k=3->o=[]):R6 d (.mk k [] [] [e] t o p)=true:=by
 unfold N8 at ht ho;unfold R6;rcases hk with rfl|rfl
 ·simp only [M2];simp [he,ht,ho];simpa using And.intro ht ho
 ·obtain rfl:=h3 rfl;simp only [M2];simp [he,G7];simpa using ht
theorem SS.all (hG:∀ t∈L,H6 t):∀ f:Nat,(∀ (d:Nat) s r,M0 L E f d s=some r->okR r.2=true->okR s=true/\N8 r.1 d=true) /\
  (∀ (d:Nat) l s r,P4 L E f d l s=some r->okR r.2=true->okR s=true/\(G7 d l=true->l.length<=64->(l=[]\/d<=8)->N8 r.1 d=true)) /\
  (∀ (d:Nat) s r,R8 L E f d s=some r->okR r.2=true->okR s=true/\d<=8/\R6 d r.1=true) /\
  (∀ (d:Nat) s r,Q1 L E f d s=some r->okR r.2=true->okR s=true/\N8 r.1 (d+1)=true)
 | 0=>⟨fun d s r h=>by simp [M0] at h,fun d l s r h=>by simp [P4] at h,fun d s r h=>by simp [R8] at h,fun d s r h=>by simp [Q1] at h⟩
 | f+1=>by
  obtain ⟨i1,i2,i3,i4⟩:=SS.all hG f;have hd1:∀ d:Nat,(d:Int)+1=((d+1:Nat):Int):=fun d=>by omega
  refine ⟨fun d s r h k=>?_,fun d l s r h k=>?_,fun d s r h k=>?_,fun d s r h k=>?_⟩
  ·unfold M0 at h;obtain ⟨h1,h2⟩:=i2 _ _ _ _ h k;exact ⟨H9 h1,h2 rfl (by simp) (.inl rfl)⟩
  ·unfold P4 at h;split at h
   ·rename_i hc;refine ⟨hc.1,fun h1 h2 h3=>?_⟩;split at h
    ·cases h;rw [A0k] at k;cases k
    ·split at h
     ·cases h
     ·rename_i x s1 he;obtain ⟨h4,h5⟩:=i2 _ _ _ _ h k;obtain ⟨h6,h7,h8⟩:=i3 _ _ _ he h4;obtain ⟨-,h9, -⟩:=G3 (by decide) h6;exact h5 (by rw [A7t,h1,h8];rfl) (by simp only [A0A,A0I];omega) (.inr h7)
   ·cases h;refine ⟨H9 k,fun h1 h2 h3=>?_⟩;unfold N8;simp only [A0G,A0Z,A0L];exact ⟨⟨h2,h3.imp (fun h=>by rw [h];rfl) id⟩,h1⟩
  ·unfold R8 at h;dsimp only at h;split at h
   ·rename_i hl;cases h;rw [hl] at k;cases k
   rename_i hl;have hl:okR (C4 L E s d 8 50)=true:=by simpa using hl
   obtain ⟨hs,hd,hle⟩:=G3 (by decide) hl;rw [hle] at h;refine ⟨hs,by omega,?_⟩;split at h
   ·split at h
    ·cases h
    ·rename_i e s1 he;cases h;obtain ⟨h1,h2⟩:=N0 hG he (H9 k);exact A0h (by decide) (by decide) rfl (by simp [h2]) (P2 hG (H9 h1)) rfl
   ·rename_i hk;obtain ⟨-,hi, -,hk18⟩:=G5 (show 0<=C1 L E s C0 by omega);have hk18:C1 L E s C0<18:=hk18;generalize C1 L E s C0=q at h hk hk18;split at h
    ·rename_i hq;split at h
     ·cases h
     ·rename_i e s2 he;split at h
      ·cases h
      ·rename_i t s3 ht;rw [hd1] at ht;split at h
       ·rename_i hc;split at h
        ·cases h
        ·rename_i o s4 ho;cases h;obtain ⟨o1,o2⟩:=i4 _ _ _ ho k;obtain ⟨t1,t2⟩:=i1 _ _ _ ht (show okR s3=true from o1);obtain ⟨e1,e2⟩:=N0 hG he t1;exact B2x (.inl rfl) e2 t2 o2 (fun h=>absurd h (by decide))
       ·cases h;obtain ⟨t1,t2⟩:=i1 _ _ _ ht k;obtain ⟨e1,e2⟩:=N0 hG he t1;exact B2x (by omega) e2 t2 (by simp [N8,G7]) (fun _=>rfl)
    ·rename_i hq;exact (B5r hG d (by omega) (by omega) h k).2
  ·unfold Q1 at h;rw [hd1] at h;split at h
   ·split at h
    ·cases h
    ·rename_i x s1 he;cases h;obtain ⟨h1,h2,h3⟩:=i3 _ _ _ he k;refine ⟨h1,?_⟩;unfold N8;simp only [A0G,A0Z,A0L];exact ⟨⟨by simp,.inr h2⟩,by rw [G7,G7,h3];rfl⟩
   ·exact i1 _ _ _ h k
theorem C1g (hG:∀ t∈L,H6 t) {k:Int} {s:Rd} (h0:0<=k) (h8:k<8) (h:okR (R0 L E k s).2=true):A1m (R0 L E k s).1=true:=by
 have key:∀ d:Dc,1<=d.kind->d.kind<=8->D8 d.name=true->(if d.kind=6 then -2147483647 else 0)<=d.value->d.value<=(if d.kind=7\/d.kind=8 then 0 else 2147483647)->A1m d=true:=by
  intro d a1 a2 a3 a4 a5;simp only [A1m,A0G,A0L];exact ⟨⟨⟨⟨a1,a2⟩,a3⟩,a4⟩,a5⟩
 unfold R0 at h ⊢;dsimp only at h ⊢;split at h
 ·rename_i hk;rw [if_pos hk];have h1:=H9 h;obtain ⟨n0,n1⟩:=B3e hG h1;have h2:=W4 h1;have h3:okR (B2 L E (A7 s) 1).2=true:=by
   split at h2
   ·exact h2
   ·exact h2
  refine key _ (by dsimp only;omega) (by dsimp only;omega) (P2 hG h3) ?_ ?_
  ·dsimp only;generalize (B2 L E (if (k+1 == 6 && isR L E (B2 L E (A7 s) 1).2 [45])=true then A7 (B2 L E (A7 s) 1).2 else (B2 L E (A7 s) 1).2) 3).1.value=w at n0 n1 ⊢;by_cases h6:k+1=6
   ·rw [if_pos (by omega)];split<;>omega
   ·rw [if_neg (by omega),if_neg (by simp [h6])];exact n0
  ·dsimp only;generalize (B2 L E (if (k+1 == 6 && isR L E (B2 L E (A7 s) 1).2 [45])=true then A7 (B2 L E (A7 s) 1).2 else (B2 L E (A7 s) 1).2) 3).1.value=w at n0 n1 ⊢;rw [if_neg (by omega:¬ (1+k=7\/1+k=8))];split<;>omega
 ·rename_i hk;rw [if_neg hk];have h3:=H9 h;refine key _ (by dsimp only;omega) (by dsimp only;omega) (P2 hG h3) ?_ ?_
  ·dsimp only;rw [if_neg (by omega)];decide
  ·dsimp only;split<;>decide
theorem B0i (hG:∀ t∈L,H6 t):∀ (f:Nat) (l:List Hd) (s:Rd) (r:List Hd × Rd),T8 L E f l s=some r->okR r.2=true->okR s=true/\(l.length<=32->l.all A1h=true->r.1.length<=32/\r.1.all A1h=true)
 | 0,l,s,r,h,_=>by simp [T8] at h
 | f+1,l,s,r,h,k=>by
  unfold T8 at h;dsimp only at h;split at h
  ·rename_i hc;refine ⟨hc.1,fun h1 h2=>?_⟩;split at h
   ·cases h;rw [A0k] at k;cases k
   split at h
   ·cases h;rw [A0k] at k;cases k
   rename_i hk;obtain ⟨hok2,hi2, -,hk6⟩:=G5 (show 0<=C1 L E (D1 L E (C4 L E s ((l.length:Int)+1) 32 9) [111,110]) E1 by omega);have hk6:C1 L E (D1 L E (C4 L E s ((l.length:Int)+1) 32 9) [111,110]) E1<6:=hk6;obtain ⟨-,hll, -⟩:=G3 (by decide) (H9 hok2);generalize C1 L E (D1 L E (C4 L E s ((l.length:Int)+1) 32 9) [111,110]) E1=q at h hk hk6;split at h
   ·cases h
   ·rename_i b s5 hb;obtain ⟨m1,m2⟩:=B0i hG f _ _ _ h k;obtain ⟨b1,b2⟩:=(SS.all hG f).1 1 _ _ hb m1;refine m2 (by simp only [A0A,A0I];omega) ?_;rw [A3U,h2,A1N];simp only [A2M,A4L,A2G,A1h,A0G,A0L];refine ⟨⟨⟨by omega,by omega⟩,?_⟩,b2⟩;by_cases hq:2<=q
    ·rw [if_pos (by omega),if_pos hq];rw [if_pos hq] at b1;exact P2 hG b1
    ·rw [if_neg (by omega),if_neg hq];rfl
  ·cases h;exact ⟨H9 k,fun h1 h2=>⟨h1,h2⟩⟩
theorem C0o (hG:∀ t∈L,H6 t) {f:Nat} {s:Rd} {r:Md × Rd} (h:A2x L E f s=some r) (k:okR r.2=true):okR s=true/\W0 r.1=true:=by
 unfold A2x at h;dsimp only at h;split at h
 ·cases h
 ·rename_i l s3 hm;cases h;obtain ⟨m1,m2⟩:=B0i hG _ _ _ _ hm k;obtain ⟨m3,m4⟩:=m2 (by simp) rfl;have h1:=H9 m1;have h2:=W4 h1;obtain ⟨n0,n1⟩:=B3e hG h1;refine ⟨H9 (W4 h2),?_⟩;simp only [W0,A0G,A0L];exact ⟨⟨⟨⟨P2 hG h2,n0⟩,n1⟩,m3⟩,m4⟩
theorem A5k (hG:∀ t∈L,H6 t):∀ (f:Nat) (l:List Dc) (s:Rd) (r:List Dc × Rd),R9 L E f l s=some r->okR r.2=true->okR s=true/\(l.length<=128->l.all A1m=true->r.1.length<=128/\r.1.all A1m=true)
 | 0,l,s,r,h,_=>by simp [R9] at h
 | f+1,l,s,r,h,k=>by
  unfold R9 at h;dsimp only at h;split at h
  ·cases h;exact ⟨k,fun h1 h2=>⟨h1,h2⟩⟩
  ·rename_i hk;obtain ⟨hs,hi, -,hk8⟩:=G5 (show 0<=C1 L E s D2 by omega);have hk8:C1 L E s D2<8:=hk8;refine ⟨hs,fun h1 h2=>?_⟩;split at h
   ·rename_i hl;obtain ⟨-,hll,hle⟩:=G3 (by decide) hl;obtain ⟨m1,m2⟩:=A5k hG f _ _ _ h k;exact m2 (by simp only [A0A,A0I];omega) (by rw [A3U,h2,A1N,A2M,C1g hG (by omega) hk8 m1];rfl)
   ·rename_i hl;obtain ⟨m1,m2⟩:=A5k hG f _ _ _ h k;exact absurd m1 hl
theorem A5j (hG:∀ t∈L,H6 t):∀ (f:Nat) (l:List Md) (s:Rd) (r:List Md × Rd),Q0 L E f l s=some r->okR r.2=true->okR s=true/\(l.length<=16->l.all W0=true->r.1.length<=16/\r.1.all W0=true)
 | 0,l,s,r,h,_=>by simp [Q0] at h
 | f+1,l,s,r,h,k=>by
  unfold Q0 at h;dsimp only at h;split at h
  ·rename_i hc;refine ⟨hc.1,fun h1 h2=>?_⟩;split at h
   ·cases h;rw [A0k] at k;cases k
   split at h
   ·rename_i hl;split at h
    ·cases h
    ·rename_i m s2 hm;obtain ⟨m1,m2⟩:=A5j hG f _ _ _ h k;obtain ⟨q1,q2⟩:=C0o hG hm m1;obtain ⟨-,hll,hle⟩:=G3 (by decide) hl;exact m2 (by simp only [A0A,A0I];omega) (by rw [A3U,h2,A1N,A2M,q2];rfl)
   ·rename_i hl;obtain ⟨m1,m2⟩:=A5j hG f _ _ _ h k;exact absurd m1 hl
  ·cases h;exact ⟨k,fun h1 h2=>⟨h1,h2⟩⟩
theorem C0f (hG:∀ t∈L,H6 t) {f:Nat} {s:Rd} {r:Ru × Rd} (h:A4e L E f s=some r) (k:okR r.2=true):R5 r.1=true:=by
 unfold A4e at h;split at h
 ·cases h
 ·rename_i d s1 hd;split at h
  ·cases h
  ·rename_i m s2 hm;cases h;obtain ⟨m1,m2⟩:=A5j hG _ _ _ _ hm k;obtain ⟨m3,m4⟩:=m2 (by simp) rfl;obtain ⟨d1,d2⟩:=A5k hG _ _ _ _ hd m1;obtain ⟨d3,d4⟩:=d2 (by simp) rfl;simp only [R5,A0G,A0L];exact ⟨⟨⟨d3,m3⟩,d4⟩,m4⟩
end
end Go.Pb
namespace Go.Pb
variable [Go.Sym.Tab]
open Go.Sym
theorem A9y {p:UInt8->Bool}:∀ (s:List UInt8),C9 p (s.take (C9 p s))=C9 p s
 | []=>rfl
 | c :: r=>by
  have ih:=A9y (p:=p) r;by_cases h:p c=true
  ·simp only [C9,h,if_true,A0V];rw [ih]
  ·simp only [C9,h,if_false,A1Y,A1O]
theorem B1n:∀ {s t:List UInt8} {n:Nat},quM s=some (t,n)->t.all txB=true
 | [],t,n,h=>by simp [quM] at h
 | c :: r,t,n,h=>by
  rw [M5] at h;split at h
  ·cases h;rfl
  ·split at h
   ·cases h
   ·rename_i h34 hr;split at h
    ·cases r with
     | nil=>cases h
     | cons d q =>
      simp only at h;split at h
      ·rename_i hd;obtain ⟨⟨t',n'⟩,h1,h2⟩:=A0Q.1 h;have:=B1n h1;cases h2;simp only [A2M,this,A2G,txB,A0G,A0L];omega
      ·cases h
    ·obtain ⟨⟨t',n'⟩,h1,h2⟩:=A0Q.1 h;have:=B1n h1;cases h2;simp only [A2M,this,A2G,txB,A0G,A0L];omega
theorem B6l {s:List UInt8} {p:Int} (h:(B1 s).err=0):H6 (nxT (B1 s) p)/\0<=(B1 s).value/\(B1 s).value<=2147483647:=by
 unfold H6;cases s with
 | nil=>simp [B1,nxE] at h
 | cons c q =>
  by_cases hl:ltB c=true
  ·by_cases h12:12<C9 ptB (c :: q)
   ·rw [B1,if_pos hl,if_pos h12] at h;simp [nxE] at h
   ·rw [B1,if_pos hl,if_neg h12,nxT];refine ⟨⟨fun hk=>?_,fun hk=>?_,fun hk=>?_⟩,by simp,by simp⟩
    ·simp only at hk ⊢;have hw:G6 ((c :: q).take (C9 ptB (c :: q)))=false:=by
      cases hz:G6 ((c :: q).take (C9 ptB (c :: q))) with
      | false=>rfl
      | true=>rw [hz] at hk;simp at hk
     have hp:ptB c=true:=by unfold ptB;rw [hl];rfl
     have h1:1<=C9 ptB (c :: q):=by simp only [C9,hp,if_true];omega
     have hle:=Y0 ptB (c :: q);have hlen:((c :: q).take (C9 ptB (c :: q))).length=C9 ptB (c :: q):=by rw [A1A];omega
     have hhd:∃ r,(c :: q).take (C9 ptB (c :: q))=c :: r:=by
      obtain ⟨k,hk⟩:∃ k,C9 ptB (c :: q)=k+1:=⟨C9 ptB (c :: q)-1,by omega⟩;rw [hk];exact ⟨_,rfl⟩
     unfold D8;rw [hlen,hw,A9y];obtain ⟨r,hr⟩:=hhd;rw [hr];simp only [hl,A2G,Bool.not_false,A0G,A0L];exact ⟨⟨h1,by omega⟩,trivial⟩
    ·simp only at hk;split at hk<;>simp at hk
    ·simp only at hk;split at hk<;>simp at hk
  ·by_cases hd:dgB c=true
   ·by_cases h3:1<C9 dgB (c :: q)/\c.toNat=48
    ·rw [B1,if_neg hl,if_pos hd,if_pos h3] at h;simp [nxE] at h
    ·by_cases h2:2147483647<Z0 ((c :: q).take (C9 dgB (c :: q)))
     ·rw [B1,if_neg hl,if_pos hd,if_neg h3,if_pos h2] at h;simp [nxE] at h
     ·rw [B1,if_neg hl,if_pos hd,if_neg h3,if_neg h2,nxT];refine ⟨⟨fun hk=>by simp at hk,fun hk=>?_,fun hk=>by simp at hk⟩,?_⟩
      ·simp only;omega
      ·simp only;omega
   ·by_cases h34:c.toNat=34
    ·cases hq:quM q with
     | none=>rw [B1,if_neg hl,if_neg hd,if_pos h34,hq] at h;simp [nxE] at h
     | some x =>
      obtain ⟨t,m⟩:=x;by_cases h32:32<t.length
      ·rw [B1,if_neg hl,if_neg hd,if_pos h34,hq] at h;simp only at h;rw [if_pos h32] at h;simp [nxE] at h
      ·rw [B1,if_neg hl,if_neg hd,if_pos h34,hq];simp only;rw [if_neg h32,nxT];refine ⟨⟨fun hk=>by simp at hk,fun hk=>by simp at hk,fun hk=>?_⟩,by simp,by simp⟩;simp only [U0,B1n hq,A1N,A0L];omega
    ·by_cases hs:F0 (c :: q)=0
     ·rw [B1,if_neg hl,if_neg hd,if_neg h34,if_pos hs] at h;simp [nxE] at h
     ·rw [B1,if_neg hl,if_neg hd,if_neg h34,if_neg hs,nxT];exact ⟨⟨fun hk=>by simp at hk,fun hk=>by simp at hk,fun hk=>by simp at hk⟩,by simp,by simp⟩
theorem TOk.good {t:Tok} (h:TOk t):H6 t/\0<=t.value/\t.value<=2147483647:=by
 obtain ⟨s,p,h1,rfl⟩:=h;obtain ⟨h2,h3⟩:=B6l (p:=p) h1;exact ⟨h2,h3⟩
theorem B5w {s:List UInt8} (h:(F4 s).2.2=0):∀ t∈(F4 s).1,H6 t:=fun t ht=>(B7y h t ht).good.1
theorem C3h {s:List UInt8} (h:(F4 s).2.2=0):∀ t∈(F4 s).1,0<=t.value/\t.value<=9223372036854775807:=fun t ht=>by
 have:=(B7y h t ht).good.2;omega
theorem B7z {s:List UInt8} (h:(F4 s).2.2=0):(F4 s).1.length<=20000:=A1P (C0e s) (A1q h).1
def rd0:Rd:=⟨0,0,0,0,0⟩
def X7 (L:List Tok) (E:Int):Ru × Rd:=Classical.choose (B8a (L:=L) (E:=E) rd0)
theorem A3j (L:List Tok) (E:Int):Evt (fun f=>A4e L E f rd0) (X7 L E):=Classical.choose_spec (B8a (L:=L) (E:=E) rd0)
def Ru0:Ru:=⟨[],[]⟩
def O0 (s:List UInt8):Ru × Int × Int :=
 let q:=F4 s
 if q.2.2≠0 then (Ru0,q.2.1,q.2.2)
 else if okR (X7 q.1 s.length).2=false then (Ru0,(X7 q.1 s.length).2.pos,(X7 q.1 s.length).2.e)
 else ((X7 q.1 s.length).1,0,0)
abbrev C4e (q:Ru × Int × Int):DV:=.tup [q.1.v,I64 q.2.1,I64 q.2.2]
theorem C8v (q:Ru × Int × Int):(C4e q).nl=true:=by
 simp only [DV.nl,DV.nlL,Ru.nl,H4,G9,A2G]
end Go.Pb
namespace Go.Proofs.YtnmkkggfgdfmeaaGreatDoor
open Go.Eng (IC IOper DReg IFn B8)
open Go.Sym Go.Pb
theorem C4b {H:Hp} {a b:DV}:∃ H2,GL H [.tup [.agg [.snil,.snil],a,b]] H2 [.tup [.agg [.lst [],.lst []],a,b]] :=
 ⟨H,GL.view fun ρ vs hA=>R3 (fun v h=>by
  obtain ⟨b',rfl,k1,k2⟩:=h.tup_inv;refine .tup _ _ k1 fun i x y hx hy=>?_
  match i with
  | 0 =>
   cases hx;obtain ⟨c',rfl,m1,m2⟩:=(k2 0 _ y rfl hy).agg_inv;refine .agg _ _ m1 fun j x z hx hz=>?_
   match j with
   | 0=>cases hx;exact (m2 0 _ z rfl hz).snil_lst
   | 1=>cases hx;exact (m2 1 _ z rfl hz).snil_lst
   | _+2=>cases hx
  | 1=>cases hx;exact k2 1 _ y rfl hy
  | 2=>cases hx;exact k2 2 _ y rfl hy
  | _+3=>cases hx) vs hA⟩
theorem c_Parse (s:List UInt8) (hs:s.length<=1000000000):PC Tryz.prog 15 [.str s] (C4e (O0 s)):=by
 refine PC.ofT A9 rfl (A0B rfl) rfl (C8v _) ?_;have hsc:=c_ScanR s hs;have hpar:O0 s=O0 s:=rfl;by_cases h0:(F4 s).2.2=0
 ·have hd:((F4 s).2.2 != 0)=false:=by simpa using h0
  repeat' ((with_reducible first|apply wr|refine cpc hsc ?_|fail)<;>try simp only [go_sem,seval,hd])
  obtain ⟨f,hf⟩:=(A3j (F4 s).1 s.length).get;refine AC.call (c_rules (F4 s).1 s.length (by have:=B7z h0;omega) (C3h h0) f rd0 _ hf (A0R _) _ _ 1 rfl (by decide)) ?_;rintro v H' c2 ⟨rfl,rfl⟩ hc2;have hM:O0 s=if okR (X7 (F4 s).1 s.length).2=false then (Ru0,(X7 (F4 s).1 s.length).2.pos,(X7 (F4 s).1 s.length).2.e) else ((X7 (F4 s).1 s.length).1,0,0):=by
   unfold O0;dsimp only;rw [if_neg (by simpa using h0)]
  rw [hM];generalize X7 (F4 s).1 s.length=w;clear hM hpar hf;have ne0:=S0 0 1 c2 (by omega);simp only [go_sem,seval,ne0,A0,A1];repeat' ((with_reducible apply wr)<;>try simp only [go_sem,seval,ne0,A0,A1])
  refine AC.call (c_rdok (F4 s).1 s.length w.2 _ _ 1 (by rw [A2 (by omega)];exact A0) (by omega)) ?_;rintro v H' c3 ⟨rfl,rfl⟩ hc3;cases hok:okR w.2 with
  | true =>
   rw [if_neg (by decide)];simp only [go_sem,seval,hok,ne0,A0,A1];repeat' ((with_reducible apply wr)<;>try simp only [go_sem,seval,hok,ne0,A0,A1])
   rw [E7 (v:=C4e (w.1,0,0)) rfl];exact ⟨_,GL.refl _ _⟩
  | false =>
   rw [if_pos rfl];simp only [go_sem,seval,hok,ne0,A0,A1];repeat' ((with_reducible apply wr)<;>try simp only [go_sem,seval,hok,ne0,A0,A1])
   repeat refine ⟨by and_intros<;>(repeat rw [A2 (by omega)])<;>rfl,?_⟩
   repeat' ((with_reducible apply wr)<;>try simp only [go_sem,seval,hok,ne0,A0,A1])
   rw [E7 (v:=.tup [.agg [.snil,.snil],I64 w.2.pos,I64 w.2.e]) rfl];exact C4b
 ·have hd:((F4 s).2.2 != 0)=true:=by simpa using h0
  have hM:O0 s=(Ru0,(F4 s).2.1,(F4 s).2.2):=by
   unfold O0;dsimp only;rw [if_pos h0]
  rw [hM];repeat' ((with_reducible first|apply wr|refine cpc hsc ?_|fail)<;>try simp only [go_sem,seval,hd])
  rw [E7 (v:=.tup [.agg [.snil,.snil],I64 (F4 s).2.1,I64 (F4 s).2.2]) rfl];exact C4b
open Go.Sym
abbrev x132:XT Tryz.prog 132:=mkF (by unfold B8;conv=>lhs;reduce;simp only [seval,u8n]) (fun h=>by conv=>lhs;cbv)
instance t132:FT Tryz.prog 132 x132.d:=x132.ft
abbrev x133:XT Tryz.prog 133:=mkF (by unfold B8;conv=>lhs;reduce;simp only [seval,u8n]) (fun h=>by conv=>lhs;cbv)
instance t133:FT Tryz.prog 133 x133.d:=x133.ft
abbrev x134:XT Tryz.prog 134:=mkF (by unfold B8;conv=>lhs;reduce;simp only [seval,u8n]) (fun h=>by conv=>lhs;cbv)
instance t134:FT Tryz.prog 134 x134.d:=x134.ft
abbrev x164:XT Tryz.prog 164:=mkF (by unfold B8;conv=>lhs;reduce;simp only [seval,u8n]) (fun h=>by conv=>lhs;cbv)
instance t164:FT Tryz.prog 164 x164.d:=x164.ft
abbrev x131:XT Tryz.prog 131:=mkF (by unfold B8;conv=>lhs;reduce;simp only [seval,u8n]) (fun h=>by conv=>lhs;cbv)
instance t131:FT Tryz.prog 131 x131.d:=x131.ft
abbrev x137:XT Tryz.prog 137:=mkF (by unfold B8;conv=>lhs;reduce;simp only [seval,u8n]) (fun h=>by conv=>lhs;cbv)
instance t137:FT Tryz.prog 137 x137.d:=x137.ft
abbrev x100:XT Tryz.prog 100:=mkF (by unfold B8;conv=>lhs;reduce;simp only [seval,u8n]) (fun h=>by conv=>lhs;cbv)
instance t100:FT Tryz.prog 100 x100.d:=x100.ft
abbrev x163:XT Tryz.prog 163:=mkF (by unfold B8;conv=>lhs;reduce;simp only [seval,u8n]) (fun h=>by conv=>lhs;cbv)
instance t163:FT Tryz.prog 163 x163.d:=x163.ft
abbrev x135:XT Tryz.prog 135:=mkF (by unfold B8;conv=>lhs;reduce;simp only [seval,u8n]) (fun h=>by conv=>lhs;cbv)
instance t135:FT Tryz.prog 135 x135.d:=x135.ft
abbrev x153:XT Tryz.prog 153:=mkF (by unfold B8;conv=>lhs;reduce;simp only [seval,u8n]) (fun h=>by conv=>lhs;cbv)
instance t153:FT Tryz.prog 153 x153.d:=x153.ft
abbrev x130:XT Tryz.prog 130:=mkF (by unfold B8;conv=>lhs;reduce;simp only [seval,u8n]) (fun h=>by conv=>lhs;cbv)
instance t130:FT Tryz.prog 130 x130.d:=x130.ft
abbrev x98:XT Tryz.prog 98:=mkF (by unfold B8;conv=>lhs;reduce;simp only [seval,u8n]) (fun h=>by conv=>lhs;cbv)
instance t98:FT Tryz.prog 98 x98.d:=x98.ft
abbrev x59:XT Tryz.prog 59:=mkF (by unfold B8;conv=>lhs;reduce;simp only [seval,u8n]) (fun h=>by conv=>lhs;cbv)
instance t59:FT Tryz.prog 59 x59.d:=x59.ft
abbrev x90:XT Tryz.prog 90:=mkF (by unfold B8;conv=>lhs;reduce;simp only [seval,u8n]) (fun h=>by conv=>lhs;cbv)
instance t90:FT Tryz.prog 90 x90.d:=x90.ft
abbrev x49:XT Tryz.prog 49:=mkF (by unfold B8;conv=>lhs;reduce;simp only [seval,u8n]) (fun h=>by conv=>lhs;cbv)
instance t49:FT Tryz.prog 49 x49.d:=x49.ft
abbrev x19:XT Tryz.prog 19:=mkF (by unfold B8;conv=>lhs;reduce;simp only [seval,u8n]) (fun h=>by conv=>lhs;cbv)
instance t19:FT Tryz.prog 19 x19.d:=x19.ft
abbrev x101:XT Tryz.prog 101:=mkF (by unfold B8;conv=>lhs;reduce;simp only [seval,u8n]) (fun h=>by conv=>lhs;cbv)
instance t101:FT Tryz.prog 101 x101.d:=x101.ft
abbrev x138:XT Tryz.prog 138:=mkF (by unfold B8;conv=>lhs;reduce;simp only [seval,u8n]) (fun h=>by conv=>lhs;cbv)
instance t138:FT Tryz.prog 138 x138.d:=x138.ft
abbrev x136:XT Tryz.prog 136:=mkF (by unfold B8;conv=>lhs;reduce;simp only [seval,u8n]) (fun h=>by conv=>lhs;cbv)
instance t136:FT Tryz.prog 136 x136.d:=x136.ft
abbrev x99:XT Tryz.prog 99:=mkF (i:=⟨135,.seq (.reg [oX 2 0,oX 3 1,oV 4 (.bool false)]) (.seq (.seq (.reg [oF 12 2 0,oL 13 12,oH 14 13,oF 15 3 0,oL 16 15,oH 17 16,oB 18 14 17 .neq,oM 19 18,hF 20 2 1 19,hL 21 20 19,oR 22 (.len (.t 21)) 19,hF 23 3 1 19,hL 24 23 19,oR 25 (.len (.t 24)) 19,oR 26 (.bin .neq (.t 22) (.t 25)) 19,oO 27 19 26]) (.cond (.t 27) (.seq (.reg [oV 4 (.bool false)]) .ret) .skip)) (.seq (.seq (.reg [oI 5 0]) (.blk 0 (.loop (.seq (.seq (.reg [oM 28 5,oF 29 2 0,oL 30 29,oH 31 30,oB 32 28 31 .lss]) (.cond (.t 32) .skip (.exit 0))) (.seq (.blk 1 (.seq (.drw 11 (dQ [oF 35 2 0,oL 36 35,oM 37 5,oA 38 36 37 4,oD 39 38 4,oF 40 3 0,oL 41 40,oM 42 5,oA 43 41 42 4,oD 44 43 4,oP 45 (.eqa true [0,2,0,0] (.t 39) (.t 44))] 0)) (.cond (.t 45) (.seq (.reg [oV 4 (.bool false)]) .ret) .skip))) (.reg [oM 33 5,oK 34 33 .add 1,oM 5 34])))))) (.seq (.seq (.reg [oI 6 0]) (.blk 2 (.loop (.seq (.seq (.reg [oM 46 6,oF 47 2 1,oL 48 47,oH 49 48,oB 50 46 49 .lss]) (.cond (.t 50) .skip (.exit 2))) (.seq (.blk 3 (.seq (.drw 14 ⟨[oF 53 2 1,oL 54 53,oM 55 6,oA 56 54 55 4,oD 57 56 4,oF 58 3 1,oL 59 58,oM 60 6,oA 61 59 60 4,oD 62 61 4,oW 7 (.agg #[.string ⟨#[]⟩,.int .i64 0,.slice none 0 0,.int .i64 0]),oW 8 (.agg #[.string ⟨#[]⟩,.int .i64 0,.slice none 0 0,.int .i64 0]),oS 7 57 4,oS 8 62 4],[],[(0,none),(1,none),(2,none),(3,none),(4,none),(5,none),(6,none),(7,none),(8,none),(9,none),(10,none),(11,none),(12,some [5,6,7,8,9]),(13,some [])]⟩) (.seq (.seq (.reg [oF 63 7 0,oL 64 63,oF 65 8 0,oL 66 65,oB 67 64 66 .neq,oM 68 67,hF 69 7 1 68,hL 70 69 68,hF 71 8 1 68,hL 72 71 68,oR 73 (.bin .neq (.t 70) (.t 72)) 68,oO 74 68 73,oM 75 74,hF 76 7 3 75,hL 77 76 75,hF 78 8 3 75,hL 79 78 75,oR 80 (.bin .neq (.t 77) (.t 79)) 75,oO 81 75 80,oM 82 81,hF 83 7 2 82,hL 84 83 82,oR 85 (.len (.t 84)) 82,hF 86 8 2 82,hL 87 86 82,oR 88 (.len (.t 87)) 82,oR 89 (.bin .neq (.t 85) (.t 88)) 82,oO 90 82 89]) (.cond (.t 90) (.seq (.reg [oV 4 (.bool false)]) .ret) .skip)) (.seq (.reg [oI 9 0]) (.blk 4 (.loop (.seq (.seq (.reg [oM 91 9,oF 92 7 2,oL 93 92,oH 94 93,oB 95 91 94 .lss]) (.cond (.t 95) .skip (.exit 4))) (.seq (.blk 5 (.seq (.drw 14 ⟨[oF 98 7 2,oL 99 98,oM 100 9,oA 101 99 100 4,oD 102 101 4,oF 103 8 2,oL 104 103,oM 105 9,oA 106 104 105 4,oD 107 106 4,oW 10 (.agg #[.int .i64 0,.string ⟨#[]⟩,.slice none 0 0,.int .i64 0]),oW 11 (.agg #[.int .i64 0,.string ⟨#[]⟩,.slice none 0 0,.int .i64 0]),oS 10 102 4,oS 11 107 4],[],[(0,none),(1,none),(2,none),(3,none),(4,none),(5,none),(6,none),(7,none),(8,none),(9,none),(10,none),(11,none),(12,some [5,6,7,8,9]),(13,some [])]⟩) (.seq (.reg [oF 108 10 0,oL 109 108,oF 110 11 0,oL 111 110,oB 112 109 111 .neq,oM 113 112,hF 114 10 1 113,hL 115 114 113,hF 116 11 1 113,hL 117 116 113,oR 118 (.bin .neq (.t 115) (.t 117)) 113,oO 119 113 118,oM 120 119,hF 121 10 3 120,hL 122 121 120,hF 123 11 3 120,hL 124 123 120,oR 125 (.bin .neq (.t 122) (.t 124)) 120,oO 126 120 125,oM 127 126,hF 128 10 2 127,hL 129 128 127,hF 130 11 2 127,hL 131 130 127,⟨some 132,.call 136 [.t 129,.t 131],some (127,false)⟩,oR 133 (.un .not (.t 132)) 127,oO 134 127 133]) (.cond (.t 134) (.seq (.reg [oV 4 (.bool false)]) .ret) .skip)))) (.reg [oM 96 9,oK 97 96 .add 1,oM 9 97]))))))))) (.reg [oM 51 6,oK 52 51 .add 1,oM 6 52])))))) (.seq (.reg [oV 4 (.bool true)]) .ret)))),[.tmp 4]⟩) (by unfold B8;kernel_rfl) (fun h=>by conv=>lhs;cbv)
instance t99:FT Tryz.prog 99 x99.d:=x99.ft
theorem A2m {k v p:Int} {x:List UInt8}:∃ H2,GL (nil.upd 0 ⟨4,true,[I64 k,.str x,I64 v,I64 p]⟩) [.slc 0 0 1] H2 [D9 [⟨k,x,v,p⟩]] :=
 M6 rfl rfl rfl (E2 _) ⟨[],rfl⟩
theorem A4j {o:Option Nat} {xs:List DV} {u n:Nat} (hno:o=none->xs=[]) (hl:xs.length=n) (hu:∀ x∈xs,x.cells.length=u) :
  ∃ H2,GL (C6 Sym.nil o ⟨u,true,A3 xs⟩) [B9 o n] H2 [.lst xs]:=by
 cases o with
 | none=>rw [hno rfl];exact B1p
 | some i=>exact M6 (id:=i) A0 rfl hl hu ⟨[],by simp⟩
theorem c_named (s:List UInt8) (hs:s.length<=1000000000):PC Tryz.prog 133 [.str s] (D9 (D4 s)):=by
 refine PC.ofT A9 rfl (A0B rfl) (by simp [DV.nlL,DV.nl]) (by simp [DV.nlL,DV.nl]) ?_;have h1:=c_IsNameR s hs;unfold D4;cases h:D8 s with
 | true =>
  rw [if_neg (by decide)];repeat' ((with_reducible first|apply wr|refine cpc h1 ?_|fail)<;>try simp only [go_sem,seval,h])
  exact A2m
 | false =>
  rw [if_pos rfl];repeat' ((with_reducible first|apply wr|refine cpc h1 ?_|fail)<;>try simp only [go_sem,seval,h])
  exact A2m
theorem c_number31 (n:Int):PC Tryz.prog 134 [I64 n] (D9 (T7 n)):=by
 refine PC.ofT A9 rfl (A0B rfl) (by simp [DV.nlL,DV.nl]) (by simp [DV.nlL,DV.nl]) ?_;unfold T7;by_cases h0:n<0
 ·have hd:decide (n<0)=true:=by simpa using h0
  rw [if_pos (.inl h0)];repeat' ((with_reducible apply wr)<;>try simp only [go_sem,seval,hd])
  exact A2m
 ·have hd:decide (n<0)=false:=by simpa using h0
  by_cases h1:2147483647<n
  ·have hd1:decide (n>2147483647)=true:=by simpa using h1
   rw [if_pos (.inr h1)];repeat' ((with_reducible apply wr)<;>try simp only [go_sem,seval,hd,hd1])
   exact A2m
  ·have hd1:decide (n>2147483647)=false:=by simpa using h1
   rw [if_neg (by omega)];repeat' ((with_reducible apply wr)<;>try simp only [go_sem,seval,hd,hd1])
   exact A2m
theorem c_words1 (l:List (List UInt8)) (hl:l.length<=1000000) (hx:∀ x∈l,x.length<=1000000000):PC Tryz.prog 132 [A3b l] (D9 (l.map A5)):=by
 refine PC.ofT A9 rfl (A0B rfl) (by simp [DV.nlL,DV.nl,O4]) (L0 _) ?_;repeat' ((with_reducible apply wr)<;>try simp only [go_sem,seval])
 refine C2 (fun q:Nat × Option Nat=>[(0,A3b l),(3,B9 q.2 q.1),(4,I64 q.1)]) (fun q=>C6 Sym.nil q.2 ⟨4,true,A3 (((l.take q.1).map A5).map Tok.v)⟩)
  (fun q c=>q.1<=l.length/\(q.2=none->q.1=0)/\(∀ i,q.2=some i->i<c)) (fun q=>l.length-q.1) (0,none)
  (by simp [C3,tm,Tm.upd,B9]) (Sub.nil _) ⟨A0R _,fun _=>rfl,(fun i hi=>by cases hi)⟩ ?_
 rintro ⟨k,o⟩ c ⟨hk,hno,ho⟩;dsimp only at hk hno ho ⊢;by_cases hlt:k<l.length
 ·have hd:decide ((k:Int)<(l.length:Int))=true:=by simpa using hlt
  have hg:=A0C hlt;have hx1:=hx _ (A0O hlt);have hw:=w64 (n:=(k:Int)+1) (by omega) (by omega);have e0:(l.take (k+1)).map A5=(l.take k).map A5++[A5 l[k]]:=by rw [A1B,hg,A0P];rfl
  generalize l[k]=x at hg hx1 e0;have h1:=c_IsWordR x;have h2:=c_IsNameR x (by omega);have ne0:=M8 c (c+1) (by omega);have hln:(A3 (((l.take k).map A5).map Tok.v)).length=k * 4:=(B3 (u:=4) (E2 _)).trans (by rw [A0D,A0D,A1A,Nat.min_eq_left hk]);cases hw1:G6 x with
  | true =>
   repeat' ((with_reducible first|apply wr|refine cpc h1 ?_|refine cpc h2 ?_|fail)<;>try simp only [go_sem,seval,hd,hg,hw,hw1,ne0,A0,A1])
   refine F6 (F1 (cs:=A3 (((l.take k).map A5).map Tok.v)) (fun e=>by have:=hno e;subst this;exact ⟨rfl,rfl⟩) (fun i hi=>by have:=ho i hi;rw [A2 (by omega),A2 (by omega)];exact A1r hi) hln (by omega) (by omega) (by omega)) ?_;simp only [go_sem,seval,ne0];repeat' ((with_reducible apply wr)<;>try simp only [go_sem,seval,hd,hw,ne0])
   refine ⟨(k+1,some (c+1+1)),by simp [C3,tm,Tm.upd,B9],?_,inv ⟨by omega,(fun h=>by cases h),(fun i hi=>by cases hi;omega)⟩,by simp only;omega⟩;dsimp only [C6];rw [e0,A0P,B6];refine A0l ?_;unfold A5;simp only [hw1,if_true,if_false,A1O];rfl
  | false =>
   cases hn1:D8 x with
   | true =>
    repeat' ((with_reducible first|apply wr|refine cpc h1 ?_|refine cpc h2 ?_|fail)<;>try simp only [go_sem,seval,hd,hg,hw,hw1,hn1,ne0,A0,A1])
    refine F6 (F1 (cs:=A3 (((l.take k).map A5).map Tok.v)) (fun e=>by have:=hno e;subst this;exact ⟨rfl,rfl⟩) (fun i hi=>by have:=ho i hi;rw [A2 (by omega),A2 (by omega)];exact A1r hi) hln (by omega) (by omega) (by omega)) ?_;simp only [go_sem,seval,ne0];repeat' ((with_reducible apply wr)<;>try simp only [go_sem,seval,hd,hw,ne0])
    refine ⟨(k+1,some (c+1+1)),by simp [C3,tm,Tm.upd,B9],?_,inv ⟨by omega,(fun h=>by cases h),(fun i hi=>by cases hi;omega)⟩,by simp only;omega⟩;dsimp only [C6];rw [e0,A0P,B6];refine A0l ?_;unfold A5;simp only [hw1,hn1,if_true,if_false,A1O];rfl
   | false =>
    repeat' ((with_reducible first|apply wr|refine cpc h1 ?_|refine cpc h2 ?_|fail)<;>try simp only [go_sem,seval,hd,hg,hw,hw1,hn1,ne0,A0,A1])
    refine F6 (F1 (cs:=A3 (((l.take k).map A5).map Tok.v)) (fun e=>by have:=hno e;subst this;exact ⟨rfl,rfl⟩) (fun i hi=>by have:=ho i hi;rw [A2 (by omega),A2 (by omega)];exact A1r hi) hln (by omega) (by omega) (by omega)) ?_;simp only [go_sem,seval,ne0];repeat' ((with_reducible apply wr)<;>try simp only [go_sem,seval,hd,hw,ne0])
    refine ⟨(k+1,some (c+1+1)),by simp [C3,tm,Tm.upd,B9],?_,inv ⟨by omega,(fun h=>by cases h),(fun i hi=>by cases hi;omega)⟩,by simp only;omega⟩;dsimp only [C6];rw [e0,A0P,B6];refine A0l ?_;unfold A5;simp only [hw1,hn1,if_true,if_false,A1O];rfl
 ·have hd:decide ((k:Int)<(l.length:Int))=false:=by simpa using hlt
  repeat' ((with_reducible apply wr)<;>try simp only [go_sem,seval,hd])
  rw [A0J (by omega)];exact A4j (fun e=>by rw [A1V (l:=l) (by have:=hno e;omega)];rfl) (by simp;omega) (E2 _)
theorem c_join1 (l:List (List Tok)) (hl:l.length<=1000) (hx:∀ x∈l,1<=x.length/\x.length<=1000000000):PC Tryz.prog 131 [.lst (l.map D9)] (D9 l.flatten):=by
 refine PC.ofT A9 rfl (A0B rfl) (by simp only [DV.nlL,DV.nl,L7 (f:=D9) (fun a=>L0 a),A2G]) (L0 _) ?_;repeat' ((with_reducible apply wr)<;>try simp only [go_sem,seval])
 refine C2 (fun q:Nat × Option Nat=>[(0,.lst (l.map D9)),(3,B9 q.2 (l.take q.1).flatten.length),(4,I64 q.1)]) (fun q=>C6 Sym.nil q.2 ⟨4,true,A3 ((l.take q.1).flatten.map Tok.v)⟩)
  (fun q c=>q.1<=l.length/\(q.2=none->q.1=0)/\(∀ i,q.2=some i->i<c)/\(l.take q.1).flatten.length<=1000000000 * q.1) (fun q=>l.length-q.1) (0,none)
  (by simp [C3,tm,Tm.upd,B9]) (Sub.nil _) ⟨A0R _,fun _=>rfl,(fun i hi=>by cases hi),by simp⟩ ?_
 rintro ⟨k,o⟩ c ⟨hk,hno,ho,hlen⟩;dsimp only at hk hno ho hlen ⊢;by_cases hlt:k<l.length
 ·have hd:decide ((k:Int)<(l.length:Int))=true:=by simpa using hlt
  have hg:=A0C hlt;obtain ⟨hx1,hx2⟩:=hx _ (A0O hlt);have hw:=w64 (n:=(k:Int)+1) (by omega) (by omega);have e0:(l.take (k+1)).flatten=(l.take k).flatten++l[k]:=by rw [A1B,hg,A4J];simp
  generalize l[k]=x at hg hx1 hx2 e0;generalize hy:(l.take k).flatten=y at hlen e0 ⊢;have hun:unit 4 (x.map Tok.v)=true:=by unfold unit;rw [A0U];intro d hd;simp [E2 x d hd]
  have hny:o=none->y=[]:=fun e=>by rw [<- hy,hno e];rfl
  have hln:(A3 (y.map Tok.v)).length=y.length * 4:=(B3 (u:=4) (E2 _)).trans (by simp);repeat' ((with_reducible apply wr)<;>try simp only [go_sem,seval,hd,hg,hw,N9 hun])
  refine F6 (F1 (cs:=A3 (y.map Tok.v)) (fun e=>by rw [hny e];exact ⟨rfl,rfl⟩) (fun i hi=>A1r hi) hln (by omega) (by omega) (by omega)) ?_;simp only [go_sem,seval];repeat' ((with_reducible apply wr)<;>try simp only [go_sem,seval,hd,hw])
  refine ⟨(k+1,some c),by simp [C3,tm,Tm.upd,B9,e0],?_,inv ⟨by omega,(fun h=>by cases h),(fun i hi=>by cases hi;omega),by simp only;rw [e0,A0A];omega⟩,by simp only;omega⟩;dsimp only [C6];rw [e0,A0P,B6];exact A0l rfl
 ·have hd:decide ((k:Int)<(l.length:Int))=false:=by simpa using hlt
  repeat' ((with_reducible apply wr)<;>try simp only [go_sem,seval,hd])
  rw [A0J (by omega)];exact A4j (fun e=>by rw [A1V (l:=l) (by have:=hno e;omega)];rfl) (by rw [A0D]) (E2 _)
end Go.Proofs.YtnmkkggfgdfmeaaGreatDoor
namespace Go.Pb
variable [Go.Sym.Tab]
open Go.Sym
mutual
def Ex.sz:Ex->Nat
 | .mk k v n a p=>1+n.length+Ex.szs a
def Ex.szs:List Ex->Nat
 | []=>0
 | e :: l=>e.sz+Ex.szs l
end
mutual
def St.sz:St->Nat
 | .mk k n t a x y p=>1+n.length+t.length+Ex.szs a+St.szs x+St.szs y
def St.szs:List St->Nat
 | []=>0
 | e :: l=>e.sz+St.szs l
end
def Dc.sz (d:Dc):Nat:=1+d.name.length
def Hd.sz (h:Hd):Nat:=1+h.name.length+St.szs h.body
def Md.sz (m:Md):Nat:=1+m.name.length+(m.hds.map Hd.sz).sum
def Ru.sz (r:Ru):Nat:=(r.decls.map Dc.sz).sum+(r.modes.map Md.sz).sum
theorem Ex.szs_map:∀ l:List Ex,Ex.szs l=(l.map Ex.sz).sum
 | []=>rfl
 | e :: l=>by rw [Ex.szs,Ex.szs_map l];rfl
theorem St.szs_map:∀ l:List St,St.szs l=(l.map St.sz).sum
 | []=>rfl
 | e :: l=>by rw [St.szs,St.szs_map l];rfl
theorem J2 {α : Type} {f : α -> Nat} {x : α}:∀ {l:List α},x∈l->f x<=(l.map f).sum
 | a :: l,h=>by
  rw [A0T,A3F];rcases A1D.1 h with rfl|h
  ·omega
  ·have:=J2 (f:=f) h;omega
theorem H5 {α : Type} {f : α -> Nat}:∀ {l:List α},(∀ x∈l,1<=f x)->l.length<=(l.map f).sum
 | [],h=>A0R _
 | a :: l,h=>by
  have:=H5 (f:=f) (l:=l) fun x hx=>h x (A0M _ hx);have:=h a A0N;rw [A0T,A3F,A0E];omega
theorem Ex.sz_pos (e:Ex):1<=e.sz:=by cases e with|mk k v n a p=>rw [Ex.sz];omega
theorem St.sz_pos (e:St):1<=e.sz:=by cases e with|mk k n t a x y p=>rw [St.sz];omega
theorem Ex.sz_arg {e x:Ex} (h:x∈e.args):x.sz<e.sz:=by
 cases e with|mk k v n a p =>
 have:=J2 (f:=Ex.sz) h;rw [Ex.sz,Ex.szs_map];have h':(Ex.mk k v n a p).args=a:=rfl;rw [h'] at this;omega
theorem Ex.sz_name (e:Ex):e.name.length<e.sz:=by
 cases e with|mk k v n a p=>rw [Ex.sz];show n.length<_;omega
theorem Ex.sz_args (e:Ex):e.args.length<e.sz:=by
 cases e with|mk k v n a p =>
 have:=H5 (f:=Ex.sz) (l:=a) fun x _=>x.sz_pos;rw [Ex.sz,Ex.szs_map];show a.length<_;omega
theorem St.sz_name (e:St):e.name.length<e.sz:=by
 cases e with|mk k n t a x y p=>rw [St.sz];show n.length<_;omega
theorem St.sz_text (e:St):e.text.length<e.sz:=by
 cases e with|mk k n t a x y p=>rw [St.sz];show t.length<_;omega
theorem St.sz_arg {e:St} {x:Ex} (h:x∈e.args):x.sz<e.sz:=by
 cases e with|mk k n t a u w p =>
 have:=J2 (f:=Ex.sz) h;have h':(St.mk k n t a u w p).args=a:=rfl;rw [h'] at this;rw [St.sz,Ex.szs_map];omega
theorem St.sz_args (e:St):e.args.length<e.sz:=by
 cases e with|mk k n t a u w p =>
 have:=H5 (f:=Ex.sz) (l:=a) fun x _=>x.sz_pos;rw [St.sz,Ex.szs_map];show a.length<_;omega
theorem St.sz_thn (e:St):St.szs e.thn<e.sz:=by
 cases e with|mk k n t a u w p=>rw [St.sz];show St.szs u<_;omega
theorem St.sz_els (e:St):St.szs e.els<e.sz:=by
 cases e with|mk k n t a u w p=>rw [St.sz];show St.szs w<_;omega
theorem St.szs_len (l:List St):l.length<=St.szs l:=by rw [St.szs_map];exact H5 fun x _=>x.sz_pos
theorem St.szs_mem {l:List St} {x:St} (h:x∈l):x.sz<=St.szs l:=by rw [St.szs_map];exact J2 h
theorem Ex.szs_mem {l:List Ex} {x:Ex} (h:x∈l):x.sz<=Ex.szs l:=by rw [Ex.szs_map];exact J2 h
theorem Ex.szs_len (l:List Ex):l.length<=Ex.szs l:=by rw [Ex.szs_map];exact H5 fun x _=>x.sz_pos
theorem A4 (s:List UInt8):(D4 s).length=1:=by unfold D4;split<;>rfl
theorem B0 (n:Int):(T7 n).length=1:=by unfold T7;split<;>rfl
theorem A8 (s:List UInt8):(A1a s).length=1:=by unfold A1a;split<;>rfl
theorem A2n (q:Int × List Tok) (n:Int):q.2.length<=(E3 q n).length/\(E3 q n).length<=q.2.length+2:=by
 unfold E3;split
 ·simp only [A0A,A0I];omega
 ·omega
theorem A4w:∀ l:List Ex,A6q l=l.map fun e=>(e.kind,exT e)
 | []=>rfl
 | e :: l=>by rw [A6q,A4w l];rfl
set_option maxHeartbeats 2000000 in
theorem B7i {k v:Int} {n:List UInt8} {as1:List (Int × List Tok)}:1<=(K3 k v n as1).length/\(K3 k v n as1).length<=5+(as1.map fun q=>q.2.length).sum:=by
 unfold K3
 match as1 with
 | [] =>
  dsimp only;repeat' split
  all_goals simp only [A0A,A0I,A4,B0]
  all_goals omega
 | [q] =>
  have:=A2n q 6;dsimp only;repeat' split
  all_goals simp only [A0A,A0I,A4,B0,A0T,List.map_nil,A3F,List.sum_nil]
  all_goals omega
 | [q,r] =>
  have h1:=A2n q (if B4 k=3 then 4 else B4 k);have h2:=A2n r (B4 k+1);dsimp only;generalize E3 q (if B4 k=3 then 4 else B4 k)=A at h1 ⊢;generalize E3 r (B4 k+1)=B at h2 ⊢;generalize A5 (C5.getD (k-12).toNat [])=W;generalize B4 k=lv;repeat' split
  all_goals simp only [A0A,A0I,A4,B0,A0T,List.map_nil,A3F,List.sum_nil]
  all_goals omega
 | q :: r :: w :: l =>
  dsimp only;repeat' split
  all_goals simp only [A0A,A0I,A4,B0]
  all_goals omega
theorem A2s:∀ e:Ex,1<=(exT e).length/\(exT e).length<=5 * e.sz
 | .mk k v n a p=>by
  have ih:∀ x∈a,(exT x).length<=5 * x.sz:=fun x hx=>(A2s x).2;have h:=B7i (k:=k) (v:=v) (n:=n) (as1:=A6q a);rw [exT];refine ⟨h.1,?_⟩;have h2:((A6q a).map fun q=>q.2.length).sum<=5 * Ex.szs a:=by
   rw [A4w,A2X,Ex.szs_map];clear h
   induction a with
   | nil=>simp
   | cons x l ihl =>
    have h1:=ih x A0N;have h2:=ihl fun y hy=>ih y (A0M _ hy);simp only [A0T,A3F,Function.comp] at h2 ⊢;omega
  rw [Ex.sz];omega
theorem C7l (l:List Ex) (i:Nat):1<=(agT l i).length/\(agT l i).length<=1+5 * Ex.szs l:=by
 unfold agT;cases h:l[i]? with
 | none=>exact ⟨A0H _,by show 1<=_;omega⟩
 | some e =>
  have h1:=A2s e;have h2:=Ex.szs_mem (A0W h);dsimp only;omega
mutual
theorem A7c:∀ s:St,1<=(stT s).length/\(stT s).length<=11 * s.sz
 | .mk k n t a x y p=>by
  have h0:=C7l a 0;have h1:=C7l a 1;have hx:=A4c x;have hy:∀ l,l=y->(O8 l).length<=11 * St.szs l:=fun l h=>by subst h;exact A4c l
  have hq:∀ q,y=[q]->(stT q).length<=11 * q.sz:=fun q h=>by subst h;exact (A7c q).2
  rw [St.sz];unfold stT;dsimp only;generalize agT a 0=A at h0 ⊢;generalize agT a 1=B at h1 ⊢;generalize O8 x=X at hx ⊢;generalize A5 (C0.getD (k-2).toNat [])=W
  match y,hy,hq with
  | [],hy,hq =>
   dsimp only;rw [St.szs];repeat' split
   all_goals simp only [A0A,A0I,A4,A8]
   all_goals omega
  | [q],hy,hq =>
   have hq:=hq q rfl;dsimp only;rw [St.szs,St.szs];generalize stT q=Q at hq ⊢;repeat' split
   all_goals simp only [A0A,A0I,A4,A8]
   all_goals omega
  | q :: q2 :: r,hy,hq =>
   have hy:=hy _ rfl;dsimp only;generalize O8 (q :: q2 :: r)=Y at hy ⊢;generalize St.szs (q :: q2 :: r)=z at hy ⊢;repeat' split
   all_goals simp only [A0A,A0I,A4,A8]
   all_goals omega
theorem A4c:∀ l:List St,(O8 l).length<=11 * St.szs l
 | []=>A0R _
 | s :: l=>by
  have h1:=A7c s;have h2:=A4c l;rw [O8,St.szs,A0A];omega
end
theorem A7q (l:List St):1<=(blT l).length/\(blT l).length<=11 * St.szs l+2:=by
 have:=A4c l;unfold blT;simp only [A0A,A0I];omega
theorem B9l (d:Dc):1<=(dcT d).length/\(dcT d).length<=6:=by
 unfold dcT;dsimp only;generalize A5 (D2.getD (d.kind-1).toNat [])=W;repeat' split
 all_goals simp only [A0A,A0I,A4,B0]
 all_goals (first|omega|simp)
theorem D0l (h:Hd):1<=(hdT h).length/\(hdT h).length<=11 * h.sz:=by
 have:=A7q h.body;unfold hdT Hd.sz;generalize A5 (E1.getD (h.trig-1).toNat [])=W;split
 ·simp only [A0A,A0E,A0F,A4];omega
 ·simp only [A0A,A0E,A0F];omega
theorem A7m {α : Type} {f : α -> List Tok} {g : α -> Nat} {c:Nat}:∀ {l:List α},(∀ x∈l,(f x).length<=c * g x)->(l.flatMap f).length<=c * (l.map g).sum
 | [],_=>by simp
 | a :: l,h=>by
  have h1:=h a A0N;have h2:=A7m (l:=l) fun x hx=>h x (A0M _ hx);rw [A2K,A0A,A0T,A3F,Nat.mul_add];omega
theorem C9p (m:Md):1<=(mdT m).length/\(mdT m).length<=11 * m.sz:=by
 have:=A7m (l:=m.hds) (f:=hdT) (g:=Hd.sz) (c:=11) fun x _=>(D0l x).2;unfold mdT Md.sz;simp only [A0A,A0I,A4,B0];omega
theorem C8m (r:Ru):(ruT r).length<=11 * r.sz+1/\(r.decls.flatMap dcT++r.modes.flatMap mdT).length<=11 * r.sz:=by
 have h1:=A7m (l:=r.decls) (f:=dcT) (g:=Dc.sz) (c:=11) fun x _=>by have:=B9l x;unfold Dc.sz;omega
 have h2:=A7m (l:=r.modes) (f:=mdT) (g:=Md.sz) (c:=11) fun x _=>(C9p x).2;have h3:(r.decls.flatMap dcT++r.modes.flatMap mdT).length<=11 * r.sz:=by
  unfold Ru.sz;rw [A0A];omega
 refine ⟨?_,h3⟩;unfold ruT;split
 ·show 1<=_;omega
 ·omega
end Go.Pb
namespace Go.Proofs.YtnmkkggfgdfmeaaGreatDoor
open Go.Eng (IC IOper DReg IFn B8)
open Go.Sym Go.Pb
theorem S9 {H:Hp} {i j:Nat}:I6 H (some i) j=if j=i then none else H j:=_root_.id rfl
theorem C6t {H:Hp} {i:Nat} {b:Blk}:I6 (H.upd i b) (some i)=I6 H (some i):=by
 funext j;rw [S9,S9];split
 ·rfl
 ·rename_i h;rw [A2 h]
theorem D0r {H:Hp} {i k:Nat} {b:Blk} (h:¬ k=i):I6 (H.upd k b) (some i)=(I6 H (some i)).upd k b:=by
 funext j;rw [S9]
 by_cases e:j=k
 ·subst e;rw [A0,if_neg h,A0]
 ·rw [A2 e,A2 e,S9]
theorem D0s {i:Nat}:I6 nil (some i)=nil:=by
 funext j;rw [S9];split<;>rfl
theorem D5g {ks:List Nat} {H:Hp} {i:Nat} (h:ks.all (fun k=>k != i)=true):I5 ks H (I6 (M1 H ks) (some i))=I6 H (some i):=by
 have hi:i ∉ ks:=fun hm=>by simpa using A0U.1 h i hm
 funext j
 simp only [I5,S9,M1];by_cases e:j=i
 ·subst e;rw [if_neg hi,if_pos rfl,if_pos rfl]
 ·by_cases e2:j∈ks
  ·rw [if_pos e2,if_neg e]
  ·rw [if_neg e2,if_neg e,if_neg e,if_neg e2]
attribute [go_sem] C6t D0r D0s
theorem C9n {k i:Nat} {H:Hp} (h:¬ k=i):I5 [k] H (I6 (M1 H [k]) (some i))=I6 H (some i):=D5g (by simpa using h)
attribute [go_sem] C9n
theorem Z7 {f:Nat} {xs:List DV} {r:DV} {u id n cc:Nat} {H:Hp} {cs:List DV} (h:PC Tryz.prog f [.lst xs] r) (hb:H id=some ⟨u,true,cs⟩) (hcs:cs=A3 xs) (hl:xs.length=n) (hu:∀ x∈xs,x.cells.length=u) :
  AC Tryz.prog f [.slc id 0 n] H cc (fun v H' c'=>v=r/\H'=I6 H (some id)/\c'=cc) :=
 AC.ghost (GL.frzS (id:=id) hb rfl (fun j=>by
  by_cases e:j=id
  ·subst e;exact .inl (by rw [S9,if_pos rfl])
  ·exact .inr ⟨e,by rw [S9,if_neg e]⟩) (.cons _ _ _ _ (Q5 hl hu ⟨[],by rw [hcs];simp⟩) .nil)) (h.at _ cc)
def wT (x:List UInt8):List Tok:=[A5 x]
theorem A0g (x:List UInt8):1<=(wT x).length/\(wT x).length<=1000000000:=⟨A0H _,by show 1<=_;omega⟩
theorem wd1 {x:List UInt8} {id cc:Nat} {H:Hp} (hb:H id=some ⟨1,true,[.str x]⟩) (hx:x.length<=1000000000) :
  AC Tryz.prog 132 [.slc id 0 1] H cc (fun v H' c'=>v=D9 (wT x)/\H'=I6 H (some id)/\c'=cc) :=
 Z7 (xs:=[.str x]) (c_words1 [x] (by simp) (by simpa using hx)) hb rfl rfl (J9 [x])
theorem wd2 {x y:List UInt8} {id cc:Nat} {H:Hp} (hb:H id=some ⟨1,true,[.str x,.str y]⟩) (hx:x.length<=1000000000) (hy:y.length<=1000000000) :
  AC Tryz.prog 132 [.slc id 0 2] H cc (fun v H' c'=>v=D9 [A5 x,A5 y]/\H'=I6 H (some id)/\c'=cc) :=
 Z7 (xs:=[.str x,.str y]) (c_words1 [x,y] (by simp) (by simp [hx,hy])) hb rfl rfl (J9 [x,y])
theorem A4a (l:List (List Tok)):∀ x∈l.map D9,x.cells.length=1:=fun x hx=>by obtain ⟨y, -,rfl⟩:=A1L.1 hx;rfl
theorem jn2 {a b:List Tok} {id cc:Nat} {H:Hp} (hH:H id=some ⟨1,true,[D9 a,D9 b]⟩) (ha:1<=a.length/\a.length<=1000000000) (hb:1<=b.length/\b.length<=1000000000) :
  AC Tryz.prog 131 [.slc id 0 2] H cc (fun v H' c'=>v=D9 (a++b)/\H'=I6 H (some id)/\c'=cc):=by
 have:=Z7 (id:=id) (cc:=cc) (H:=H) (u:=1) (n:=2) (c_join1 [a,b] (by simp) (by simp [ha,hb])) hH rfl rfl (A4a [a,b])
 rwa [A1H,A1H,A4C,A1E] at this
theorem jn3 {a b c:List Tok} {id cc:Nat} {H:Hp} (hH:H id=some ⟨1,true,[D9 a,D9 b,D9 c]⟩) (ha:1<=a.length/\a.length<=1000000000) (hb:1<=b.length/\b.length<=1000000000) (hc:1<=c.length/\c.length<=1000000000) :
  AC Tryz.prog 131 [.slc id 0 3] H cc (fun v H' c'=>v=D9 (a++b++c)/\H'=I6 H (some id)/\c'=cc):=by
 have:=Z7 (id:=id) (cc:=cc) (H:=H) (u:=1) (n:=3) (c_join1 [a,b,c] (by simp) (by simp [ha,hb,hc])) hH rfl rfl (A4a [a,b,c])
 rwa [A1H,A1H,A1H,A4C,A1E, <- A0S] at this
theorem B6k (x:List UInt8):1<=(D4 x).length/\(D4 x).length<=1000000000:=by rw [A4];omega
theorem c_operand (e:Ex) (n:Int) (hT:(exT e).length<=100000000) (h:PC Tryz.prog 100 [e.v] (D9 (exT e))):PC Tryz.prog 137 [e.v,I64 n] (D9 (E3 (e.kind,exT e) n)):=by
 refine PC.ofT A9 rfl (A0B rfl) (by simp [DV.nlL,DV.nl,Ex.nl]) (L0 _) ?_;rw [Ex.v_w] at h ⊢;have hlv:=c_level e.kind;obtain ⟨hl1, -⟩:=A2s e;obtain ⟨R,hR⟩:∃ R,R=D9 (E3 (e.kind,exT e) n):=⟨_,rfl⟩;rw [<- hR];unfold E3 at hR;dsimp only at hR;generalize exT e=T at h hT hl1 hR;by_cases hlt:B4 e.kind<n
 ·have hd:decide (B4 e.kind<n)=true:=by simpa using hlt
  rw [if_pos hlt] at hR;repeat' ((first|(with_reducible first|refine wr ?_|refine cpc hlv ?_|refine cpc h ?_)|(refine AC.call (wd1 rfl (by decide)) ?_<;>rintro _ _ _ ⟨rfl,rfl,rfl⟩ -)|(refine AC.call (jn3 rfl (A0g _) ⟨hl1,by omega⟩ (A0g _)) ?_<;>rintro _ _ _ ⟨rfl,rfl,rfl⟩ -)|fail)<;>try simp only [go_sem,seval,hd])
  exact ⟨_,by rw [hR];exact GL.refl _ _⟩
 ·have hd:decide (B4 e.kind<n)=false:=by simpa using hlt
  rw [if_neg hlt] at hR;repeat' ((with_reducible first|apply wr|refine cpc hlv ?_|refine cpc h ?_|fail)<;>try simp only [go_sem,seval,hd])
  exact ⟨_,by rw [hR];exact GL.refl _ _⟩
theorem C3q {sz:Nat} {xs:List DV} {k:IntKind}:I1 sz (.lst xs) (.int k 1)=B6x sz xs[1]? := B6c (l:=1)
theorem c_exprT:∀ (m:Nat) (e:Ex),e.sz<m->e.sz<=10000000->PC Tryz.prog 100 [e.v] (D9 (exT e)):=by
 intro m
 induction m with
 | zero=>intro e h;omega
 | succ m ih =>
 intro e hm hB;have ihx:∀ x∈e.args,PC Tryz.prog 100 [x.v] (D9 (exT x)):=fun x hx=>ih x (by have:=Ex.sz_arg hx;omega) (by have:=Ex.sz_arg hx;omega);have hop:∀ x∈e.args, ∀ n,PC Tryz.prog 137 [x.v,I64 n] (D9 (E3 (x.kind,exT x) n)):=fun x hx n=>c_operand x n (by have:=(A2s x).2;have:=Ex.sz_arg hx;omega) (ihx x hx);have hle:∀ x∈e.args, ∀ n,1<=(E3 (x.kind,exT x) n).length/\(E3 (x.kind,exT x) n).length<=1000000000:=fun x hx n=>by
  have h1:=A2s x;have h2:=Ex.sz_arg hx;have h3:=A2n (x.kind,exT x) n;dsimp only at h3;omega
 clear ih ihx;obtain ⟨R,hR⟩:∃ R,R=D9 (exT e):=⟨_,rfl⟩;have hnm:=e.sz_name;refine PC.ofT A9 rfl (A0B rfl) (by simp [DV.nlL,DV.nl,Ex.nl]) (L0 _) ?_;rw [Ex.v_w, <- hR];cases e with|mk k v n a p =>
 rw [exT,A4w] at hR;dsimp only [Ex.w,Ex.kind,Ex.value,Ex.name,Ex.args,Ex.pos] at hop hle hnm ⊢;unfold K3 at hR;dsimp only at hR;have hlv:=c_level k;have hnu:=c_number31 v;have hna:=c_named n (by omega);by_cases h1:k=1
 ·subst h1;rw [if_pos rfl] at hR;repeat' ((with_reducible first|apply wr|refine cpc hlv ?_|refine cpc hnu ?_|fail)<;>try simp only [go_sem,seval])
  exact ⟨_,by rw [hR];exact GL.refl _ _⟩
 have d1:(k == 1)=false:=by simpa using h1
 rw [if_neg h1] at hR;by_cases h2:k=2
 ·subst h2;rw [if_pos rfl] at hR;repeat' ((with_reducible first|apply wr|refine cpc hlv ?_|refine cpc hna ?_|fail)<;>try simp only [go_sem,seval])
  exact ⟨_,by rw [hR];exact GL.refl _ _⟩
 have d2:(k == 2)=false:=by simpa using h2
 rw [if_neg h2] at hR;by_cases h3:k=3
 ·subst h3;rw [if_pos rfl] at hR;repeat' ((first|(with_reducible first|refine wr ?_|refine cpc hlv ?_)|(refine AC.call (wd1 rfl (by decide)) ?_<;>rintro _ _ _ ⟨rfl,rfl,rfl⟩ -)|fail)<;>try simp only [go_sem,seval])
  exact ⟨_,by rw [hR];exact GL.refl _ _⟩
 have d3:(k == 3)=false:=by simpa using h3
 rw [if_neg h3] at hR;by_cases h4:k=4
 ·subst h4;rw [if_pos rfl] at hR;repeat' ((first|(with_reducible first|refine wr ?_|refine cpc hlv ?_)|(refine AC.call (wd1 rfl (by decide)) ?_<;>rintro _ _ _ ⟨rfl,rfl,rfl⟩ -)|fail)<;>try simp only [go_sem,seval])
  exact ⟨_,by rw [hR];exact GL.refl _ _⟩
 have d4:(k == 4)=false:=by simpa using h4
 rw [if_neg h4] at hR;by_cases h8:k=8
 ·subst h8;rw [if_pos rfl] at hR;repeat' ((first|(with_reducible first|refine wr ?_|refine cpc hlv ?_)|(refine AC.call (wd1 rfl (by decide)) ?_<;>rintro _ _ _ ⟨rfl,rfl,rfl⟩ -)|fail)<;>try simp only [go_sem,seval])
  exact ⟨_,by rw [hR];exact GL.refl _ _⟩
 have d8:(k == 8)=false:=by simpa using h8
 rw [if_neg h8] at hR;by_cases h9:k=9
 ·subst h9;rw [if_pos rfl] at hR;repeat' ((first|(with_reducible first|refine wr ?_|refine cpc hlv ?_)|(refine AC.call (wd1 rfl (by decide)) ?_<;>rintro _ _ _ ⟨rfl,rfl,rfl⟩ -)|fail)<;>try simp only [go_sem,seval])
  exact ⟨_,by rw [hR];exact GL.refl _ _⟩
 have d9:(k == 9)=false:=by simpa using h9
 rw [if_neg h9] at hR;by_cases h5:k=5
 ·subst h5;rw [if_pos rfl] at hR;repeat' ((first|(with_reducible first|refine wr ?_|refine cpc hlv ?_|refine cpc hna ?_)|(refine AC.call (wd1 rfl (by decide)) ?_<;>rintro _ _ _ ⟨rfl,rfl,rfl⟩ -)|(refine AC.call (jn2 rfl (A0g _) (B6k _)) ?_<;>rintro _ _ _ ⟨rfl,rfl,rfl⟩ -)|fail)<;>try simp only [go_sem,seval])
  exact ⟨_,by rw [hR];exact GL.refl _ _⟩
 have d5:(k == 5)=false:=by simpa using h5
 rw [if_neg h5] at hR;by_cases h6:k=6
 ·subst h6;rw [if_pos rfl] at hR;repeat' ((first|(with_reducible first|refine wr ?_|refine cpc hlv ?_|refine cpc hna ?_)|(refine AC.call (wd1 rfl (by decide)) ?_<;>rintro _ _ _ ⟨rfl,rfl,rfl⟩ -)|(refine AC.call (jn2 rfl (A0g _) (B6k _)) ?_<;>rintro _ _ _ ⟨rfl,rfl,rfl⟩ -)|fail)<;>try simp only [go_sem,seval])
  exact ⟨_,by rw [hR];exact GL.refl _ _⟩
 have d6:(k == 6)=false:=by simpa using h6
 rw [if_neg h6] at hR;by_cases h7:k=7
 ·subst h7;rw [if_pos rfl] at hR;repeat' ((first|(with_reducible first|refine wr ?_|refine cpc hlv ?_|refine cpc hna ?_)|(refine AC.call (wd1 rfl (by decide)) ?_<;>rintro _ _ _ ⟨rfl,rfl,rfl⟩ -)|(refine AC.call (jn2 rfl (A0g _) (B6k _)) ?_<;>rintro _ _ _ ⟨rfl,rfl,rfl⟩ -)|fail)<;>try simp only [go_sem,seval])
  exact ⟨_,by rw [hR];exact GL.refl _ _⟩
 have d7:(k == 7)=false:=by simpa using h7
 rw [if_neg h7] at hR;have hbad:∀ q:List Tok,R=D9 q->q=[R7]->∃ H2,GL ((nil.upd 0 ⟨0,true,[I64 k,I64 v,.str n,I3 a,I64 p]⟩).upd 1 ⟨4,true,[I64 0,.str [],I64 0,I64 0]⟩) [.slc 1 0 1] H2 [R]:=fun q h1 h2=>by
  rw [h1,h2];exact M6 (id:=1) A0 rfl rfl (E2 [R7]) ⟨[],rfl⟩
 have w0:IntKind.i64.wrap 0=0:=by decide
 have w1:IntKind.i64.wrap 1=1:=by decide
 match a with
 | [] =>
  have e1:((0:Int) == 1)=false:=rfl;have e2:((0:Int) == 2)=false:=rfl;try dsimp only [List.map_nil] at hR
  by_cases l6:B4 k=6
  ·have m6:(B4 k == 6)=true:=by simpa using l6
   have m5:decide (B4 k<6)=false:=by simp;omega
   repeat' ((with_reducible first|apply wr|refine cpc hlv ?_|fail)<;>try simp only [go_sem,seval,d1,d2,d3,d4,d8,d9,d5,d6,d7,m6,m5,A0F,List.map_nil,A0D])
   exact hbad _ hR rfl
  ·have m6:(B4 k == 6)=false:=by simpa using l6
   by_cases l5:B4 k<6
   ·have m5:decide (B4 k<6)=true:=by simpa using l5
    repeat' ((with_reducible first|apply wr|refine cpc hlv ?_|fail)<;>try simp only [go_sem,seval,d1,d2,d3,d4,d8,d9,d5,d6,d7,m6,m5,A0F,List.map_nil,A0D])
    exact hbad _ hR rfl
   ·have m5:decide (B4 k<6)=false:=by simpa using l5
    repeat' ((with_reducible first|apply wr|refine cpc hlv ?_|fail)<;>try simp only [go_sem,seval,d1,d2,d3,d4,d8,d9,d5,d6,d7,m6,m5,A0F,List.map_nil,A0D])
    exact hbad _ hR rfl
 | [x] =>
  have hx:=fun n=>by have:=hop x A0N n;rwa [Ex.v_w] at this
  have hxl:=hle x A0N;simp only [A0T,List.map_nil] at hR;by_cases l6:B4 k=6
  ·have m6:(B4 k == 6)=true:=by simpa using l6
   rw [if_pos l6] at hR;have hk:k=10\/k=11:=by
    unfold B4 at l6;repeat' split at l6
    all_goals omega
   rcases hk with rfl|rfl
   ·rw [if_pos rfl] at hR;repeat' ((first|(with_reducible first|refine wr ?_|refine cpc hlv ?_|refine cpc (hx 6) ?_)|(refine AC.call (wd1 rfl (by decide)) ?_<;>rintro _ _ _ ⟨rfl,rfl,rfl⟩ -)|(refine AC.call (jn2 rfl (A0g _) (hxl 6)) ?_<;>rintro _ _ _ ⟨rfl,rfl,rfl⟩ -)|fail)<;>try simp only [go_sem,seval,d1,d2,d3,d4,d8,d9,d5,d6,d7,m6,w0,w1,Ex.v_w])
    exact ⟨_,by rw [hR];exact GL.refl _ _⟩
   ·rw [if_neg (by decide)] at hR;repeat' ((first|(with_reducible first|refine wr ?_|refine cpc hlv ?_|refine cpc (hx 6) ?_)|(refine AC.call (wd1 rfl (by decide)) ?_<;>rintro _ _ _ ⟨rfl,rfl,rfl⟩ -)|(refine AC.call (jn2 rfl (A0g _) (hxl 6)) ?_<;>rintro _ _ _ ⟨rfl,rfl,rfl⟩ -)|fail)<;>try simp only [go_sem,seval,d1,d2,d3,d4,d8,d9,d5,d6,d7,m6,w0,w1,Ex.v_w])
    exact ⟨_,by rw [hR];exact GL.refl _ _⟩
  ·have m6:(B4 k == 6)=false:=by simpa using l6
   rw [if_neg l6] at hR;by_cases l5:B4 k<6
   ·have m5:decide (B4 k<6)=true:=by simpa using l5
    repeat' ((with_reducible first|apply wr|refine cpc hlv ?_|fail)<;>try simp only [go_sem,seval,d1,d2,d3,d4,d8,d9,d5,d6,d7,m6,m5])
    exact hbad _ hR rfl
   ·have m5:decide (B4 k<6)=false:=by simpa using l5
    repeat' ((with_reducible first|apply wr|refine cpc hlv ?_|fail)<;>try simp only [go_sem,seval,d1,d2,d3,d4,d8,d9,d5,d6,d7,m6,m5])
    exact hbad _ hR rfl
 | [x,y] =>
  have hx:=fun n=>by have:=hop x A0N n;rwa [Ex.v_w] at this
  have hxl:=hle x A0N;have hy:=fun n=>by have:=hop y (A0M _ A0N) n;rwa [Ex.v_w] at this
  have hyl:=hle y (A0M _ A0N);simp only [A0T,List.map_nil] at hR;by_cases l5:B4 k<6
  ·have m5:decide (B4 k<6)=true:=by simpa using l5
   have m6:(B4 k == 6)=false:=by simp;omega
   rw [if_pos l5] at hR;obtain ⟨k1,k2⟩:=B2f (k:=k) (by omega);have k3:12<=k:=by
    apply Classical.byContradiction;intro hc;have:k=10\/k=11:=by omega
    rw [A4r this] at l5;omega
   obtain ⟨j,hj⟩:∃ j:Nat,k=12+(j:Int):=⟨(k-12).toNat,by omega⟩;have hjw:IntKind.i64.wrap (k-12)=(j:Int):=by rw [w64 (by omega) (by omega)];omega
   have hjn:(k-12).toNat=j:=by omega
   rw [hjn] at hR;have hj13:j<13:=by omega
   have hgj:C5[j]? = some (C5.getD j []):=by
    rw [A0X,A0C (show j<C5.length from hj13)];rfl
   have hsl:(C5.getD j []).length<=1000000000:=by
    have:∀ i:Nat,i<13->(C5.getD i []).length<=1000000000:=by decide
    exact this j hj13
   generalize C5.getD j []=S at hR hgj hsl;have hw1:IntKind.i64.wrap (B4 k+1)=B4 k+1:=w64 (by have:=V8 k;omega) (by have:=V8 k;omega);by_cases l3:B4 k=3
   ·have m3:(B4 k == 3)=true:=by simpa using l3
    rw [if_pos l3] at hR;repeat' ((first|(with_reducible first|refine wr ?_|refine cpc hlv ?_|refine cpc (hx 4) ?_|refine cpc c_signs31 ?_|refine cpc (hy (B4 k+1)) ?_)|(refine AC.call (wd1 rfl hsl) ?_<;>rintro _ _ _ ⟨rfl,rfl,rfl⟩ -)|(refine AC.call (jn3 rfl (hxl 4) (A0g _) (hyl (B4 k+1))) ?_<;>rintro _ _ _ ⟨rfl,rfl,rfl⟩ -)|fail)<;>try simp only [go_sem,seval,d1,d2,d3,d4,d8,d9,d5,d6,d7,m6,m5,m3,hjw,hgj,hw1,Ex.v_w,C3q,A2R,A2Q])
    exact ⟨_,by rw [hR];exact GL.refl _ _⟩
   ·have m3:(B4 k == 3)=false:=by simpa using l3
    rw [if_neg l3] at hR;repeat' ((first|(with_reducible first|refine wr ?_|refine cpc hlv ?_|refine cpc (hx (B4 k)) ?_|refine cpc c_signs31 ?_|refine cpc (hy (B4 k+1)) ?_)|(refine AC.call (wd1 rfl hsl) ?_<;>rintro _ _ _ ⟨rfl,rfl,rfl⟩ -)|(refine AC.call (jn3 rfl (hxl (B4 k)) (A0g _) (hyl (B4 k+1))) ?_<;>rintro _ _ _ ⟨rfl,rfl,rfl⟩ -)|fail)<;>try simp only [go_sem,seval,d1,d2,d3,d4,d8,d9,d5,d6,d7,m6,m5,m3,hjw,hgj,hw1,Ex.v_w,C3q,A2R,A2Q])
    exact ⟨_,by rw [hR];exact GL.refl _ _⟩
  ·have m5:decide (B4 k<6)=false:=by simpa using l5
   rw [if_neg l5] at hR;by_cases l6:B4 k=6
   ·have m6:(B4 k == 6)=true:=by simpa using l6
    repeat' ((with_reducible first|apply wr|refine cpc hlv ?_|fail)<;>try simp only [go_sem,seval,d1,d2,d3,d4,d8,d9,d5,d6,d7,m6,m5])
    exact hbad _ hR rfl
   ·have m6:(B4 k == 6)=false:=by simpa using l6
    repeat' ((with_reducible first|apply wr|refine cpc hlv ?_|fail)<;>try simp only [go_sem,seval,d1,d2,d3,d4,d8,d9,d5,d6,d7,m6,m5])
    exact hbad _ hR rfl
 | x :: y :: z :: l =>
  simp only [A0T] at hR;obtain ⟨A,hA⟩:∃ A,A=(x :: y :: z :: l).map Ex.v:=⟨_,rfl⟩;have n1:((A.length:Int) == 1)=false:=by rw [hA];simp;omega
  have n2:((A.length:Int) == 2)=false:=by rw [hA];simp;omega
  have hex:I3 (x :: y :: z :: l)=.lst A:=by rw [hA]
  rw [hex] at hbad ⊢;by_cases l6:B4 k=6
  ·have m6:(B4 k == 6)=true:=by simpa using l6
   have m5:decide (B4 k<6)=false:=by simp;omega
   repeat' ((with_reducible first|apply wr|refine cpc hlv ?_|fail)<;>try simp only [go_sem,seval,d1,d2,d3,d4,d8,d9,d5,d6,d7,m6,m5,n1,n2])
   exact hbad _ hR rfl
  ·have m6:(B4 k == 6)=false:=by simpa using l6
   by_cases l5:B4 k<6
   ·have m5:decide (B4 k<6)=true:=by simpa using l5
    repeat' ((with_reducible first|apply wr|refine cpc hlv ?_|fail)<;>try simp only [go_sem,seval,d1,d2,d3,d4,d8,d9,d5,d6,d7,m6,m5,n1,n2])
    exact hbad _ hR rfl
   ·have m5:decide (B4 k<6)=false:=by simpa using l5
    repeat' ((with_reducible first|apply wr|refine cpc hlv ?_|fail)<;>try simp only [go_sem,seval,d1,d2,d3,d4,d8,d9,d5,d6,d7,m6,m5,n1,n2])
    exact hbad _ hR rfl
end Go.Proofs.YtnmkkggfgdfmeaaGreatDoor
set_option maxHeartbeats 8000000
namespace Go.Proofs.YtnmkkggfgdfmeaaGreatDoor
open Go.Eng (IC IOper DReg IFn B8)
open Go.Sym Go.Pb
theorem lw (x:List UInt8):(wT x).length=1:=rfl
theorem jn4 {a b c d:List Tok} {id cc:Nat} {H:Hp} (hH:H id=some ⟨1,true,[D9 a,D9 b,D9 c,D9 d]⟩) (ha:1<=a.length/\a.length<=1000000000) (hb:1<=b.length/\b.length<=1000000000) (hc:1<=c.length/\c.length<=1000000000) (hd:1<=d.length/\d.length<=1000000000) :
  AC Tryz.prog 131 [.slc id 0 4] H cc (fun v H' c'=>v=D9 (a++b++c++d)/\H'=I6 H (some id)/\c'=cc):=by
 have:=Z7 (id:=id) (cc:=cc) (H:=H) (u:=1) (n:=4) (c_join1 [a,b,c,d] (by simp) (by simp [ha,hb,hc,hd])) hH rfl rfl (A4a [a,b,c,d])
 rwa [A1H,A1H,A1H,A1H,A4C,A1E, <- A0S, <- A0S] at this
theorem jn5 {a b c d e:List Tok} {id cc:Nat} {H:Hp} (hH:H id=some ⟨1,true,[D9 a,D9 b,D9 c,D9 d,D9 e]⟩) (ha:1<=a.length/\a.length<=1000000000) (hb:1<=b.length/\b.length<=1000000000) (hc:1<=c.length/\c.length<=1000000000) (hd:1<=d.length/\d.length<=1000000000) (he:1<=e.length/\e.length<=1000000000) :
  AC Tryz.prog 131 [.slc id 0 5] H cc (fun v H' c'=>v=D9 (a++b++c++d++e)/\H'=I6 H (some id)/\c'=cc):=by
 have:=Z7 (id:=id) (cc:=cc) (H:=H) (u:=1) (n:=5) (c_join1 [a,b,c,d,e] (by simp) (by simp [ha,hb,hc,hd,he])) hH rfl rfl (A4a [a,b,c,d,e])
 rwa [A1H,A1H,A1H,A1H,A1H,A4C,A1E, <- A0S, <- A0S, <- A0S] at this
theorem B9s (l:List Ex) (i:Nat) (hl:Ex.szs l<=10000000):1<=(agT l i).length/\(agT l i).length<=100000000:=by
 unfold agT;cases h:l[i]? with
 | none=>exact ⟨A0H _,by decide⟩
 | some e =>
  have h1:=A2s e;have h2:=Ex.szs_mem (A0W h);dsimp only;omega
theorem c_arg (l:List Ex) (i:Nat) (hi:i<=5) (hl:Ex.szs l<=10000000):PC Tryz.prog 163 [I3 l,I64 i] (D9 (agT l i)):=by
 refine PC.ofT A9 rfl (A0B rfl) (by simp [DV.nlL,DV.nl,Y1]) (L0 _) ?_;unfold agT;cases h:l[i]? with
 | none =>
  have hlt:l.length<=i:=List.getElem?_eq_none_iff.1 h;have hd:decide ((i:Int)≥(l.length:Int))=true:=by simp;omega
  repeat' ((with_reducible apply wr)<;>try simp only [go_sem,seval,hd,A0D])
  exact A2m
 | some e =>
  have hlt:=(A0K.1 h).1;have hd:decide ((i:Int)≥(l.length:Int))=false:=by simp;omega
  have he:=c_exprT (e.sz+1) e (by omega) (by have:=Ex.szs_mem (A0W h);omega);rw [Ex.v_w] at he;repeat' ((with_reducible first|apply wr|refine cpc he ?_|fail)<;>try simp only [go_sem,seval,hd,h,Ex.v_w,A0D])
  exact ⟨_,GL.refl _ _⟩
theorem B1o {c:Nat} {k v p:Int} {x:List UInt8}:∃ H2,GL (nil.upd c ⟨4,true,[I64 k,.str x,I64 v,I64 p]⟩) [.slc c 0 1] H2 [D9 [⟨k,x,v,p⟩]] :=
 M6 A0 rfl rfl (E2 _) ⟨[],rfl⟩
theorem c_text31 (s:List UInt8) (hs:s.length<=1000000000):PC Tryz.prog 164 [.str s] (D9 (A1a s)):=by
 refine PC.ofT A9 rfl (A0B rfl) rfl (L0 _) ?_;unfold A1a;repeat' ((with_reducible apply wr)<;>try simp only [go_sem,seval])
 refine C2 (fun k:Nat=>[(0,.str s),(3,I64 k)]) (fun _=>Sym.nil) (fun k c=>k<=s.length/\(s.take k).all txB=true) (fun k=>s.length-k) 0 (by simp [C3,tm,Tm.upd]) (Sub.nil _) ⟨A0R _,rfl⟩ ?_;rintro k c ⟨hk,ha⟩;by_cases hlt:k<s.length
 ·have hd:decide ((k:Int)<(s.length:Int))=true:=by simpa using hlt
  have hg:=A0C hlt;have hw:=w64 (n:=(k:Int)+1) (by omega) (by omega);have e0:(s.take (k+1)).all txB=((s.take k).all txB && txB s[k]):=by rw [A1B,hg,A3U];simp
  have e1:txB s[k]=false->s.all txB=false:=fun h=>by
   cases hz:s.all txB with
   | false=>rfl
   | true=>rw [A0U] at hz;rw [hz _ (A0O hlt)] at h;cases h
  generalize s[k]=x at hg e0 e1;by_cases h1:x.toNat<32
  ·have hd1:decide ((x.toNat:Int)<32)=true:=by simp;omega
   rw [if_pos (.inl (e1 (by simp [txB];omega)))];repeat' ((with_reducible apply wr)<;>try simp only [go_sem,seval,hd,hg,hw,hd1])
   exact B1o
  ·have hd1:decide ((x.toNat:Int)<32)=false:=by simp;omega
   by_cases h2:126<x.toNat
   ·have hd2:decide ((x.toNat:Int)>126)=true:=by simp;omega
    rw [if_pos (.inl (e1 (by simp [txB];omega)))];repeat' ((with_reducible apply wr)<;>try simp only [go_sem,seval,hd,hg,hw,hd1,hd2])
    exact B1o
   ·have hd2:decide ((x.toNat:Int)>126)=false:=by simp;omega
    have e2:txB x=true:=by simp [txB];omega
    repeat' ((with_reducible apply wr)<;>try simp only [go_sem,seval,hd,hg,hw,hd1,hd2])
    exact ⟨k+1,by simp [C3,tm,Tm.upd],Sub.nil _,inv ⟨by omega,by rw [e0,ha,e2];rfl⟩,by omega⟩
 ·have hd:decide ((k:Int)<(s.length:Int))=false:=by simpa using hlt
  rw [A0J (by omega)] at ha;by_cases h3:32<s.length
  ·have hd3:decide ((s.length:Int)>32)=true:=by simp;omega
   rw [if_pos (.inr h3)];repeat' ((with_reducible apply wr)<;>try simp only [go_sem,seval,hd,hd3])
   exact B1o
  ·have hd3:decide ((s.length:Int)>32)=false:=by simp;omega
   rw [if_neg (by rw [ha];simp;omega)];repeat' ((with_reducible apply wr)<;>try simp only [go_sem,seval,hd,hd3])
   exact B1o
theorem C8b (x:Pb.St):Pb.St.szs [x]=x.sz:=by rw [Pb.St.szs,Pb.St.szs];omega
theorem c_stmtT (m:Nat) (ihs:∀ x:Pb.St,x.sz<m->PC Tryz.prog 153 [x.v] (D9 (stT x))) (ihb:∀ l:List Pb.St,Pb.St.szs l<m->PC Tryz.prog 135 [F3 l] (D9 (blT l)))
  (hlb:∀ l:List Pb.St,Pb.St.szs l<m->1<=(blT l).length/\(blT l).length<=100000000) (hls:∀ x:Pb.St,x.sz<m->1<=(stT x).length/\(stT x).length<=100000000)
  (s:Pb.St) (hm:s.sz<=m) (hB:s.sz<=10000000):PC Tryz.prog 153 [s.v] (D9 (stT s)):=by
 obtain ⟨R,hR⟩:∃ R,R=D9 (stT s):=⟨_,rfl⟩;have hnm:=s.sz_name;have htx:=s.sz_text;have hax:Ex.szs s.args<=10000000:=by cases s with|mk k n t a x y p=>rw [Pb.St.sz] at hB;show Ex.szs a<=_;omega
 have hxx:=s.sz_thn;have hyy:=s.sz_els;refine PC.ofT A9 rfl (A0B rfl) (by simp [DV.nlL,DV.nl,Pb.St.nl]) (L0 _) ?_;rw [Pb.St.v_w, <- hR];cases s with|mk k n t a x y p =>
 unfold stT at hR;dsimp only [Pb.St.w,Pb.St.kind,Pb.St.name,Pb.St.text,Pb.St.args,Pb.St.thn,Pb.St.els,Pb.St.pos] at hnm htx hax hxx hyy ⊢;have hna:=c_named n (by omega);have hte:=c_text31 t (by omega);have ha0:=c_arg a 0 (by decide) hax;have ha1:=c_arg a 1 (by decide) hax;have la0:=B9s a 0 hax;have la1:=B9s a 1 hax;rw [show ((0:Nat):Int)=0 from rfl] at ha0;rw [show ((1:Nat):Int)=1 from rfl] at ha1;have hbx:=ihb x (by omega);have hby:=ihb y (by omega);have lbx:=hlb x (by omega);have lby:=hlb y (by omega);by_cases h1:k=1
 ·subst h1;rw [if_pos rfl] at hR;repeat' ((first|(with_reducible first|refine wr ?_|refine cpc hna ?_|refine cpc ha0 ?_)|(refine AC.call (wd1 rfl (by first|assumption|decide)) ?_<;>rintro _ _ _ ⟨rfl,rfl,rfl⟩ -)|(refine AC.call (jn2 rfl ?_ ?_) ?_<;>first|(constructor<;>(try simp only [A0A,lw,A4,B0,A8])<;>omega)|rintro _ _ _ ⟨rfl,rfl,rfl⟩ -)|(refine AC.call (jn3 rfl ?_ ?_ ?_) ?_<;>first|(constructor<;>(try simp only [A0A,lw,A4,B0,A8])<;>omega)|rintro _ _ _ ⟨rfl,rfl,rfl⟩ -)|(refine AC.call (jn4 rfl ?_ ?_ ?_ ?_) ?_<;>first|(constructor<;>(try simp only [A0A,lw,A4,B0,A8])<;>omega)|rintro _ _ _ ⟨rfl,rfl,rfl⟩ -)|(refine AC.call (jn5 rfl ?_ ?_ ?_ ?_ ?_) ?_<;>first|(constructor<;>(try simp only [A0A,lw,A4,B0,A8])<;>omega)|rintro _ _ _ ⟨rfl,rfl,rfl⟩ -)|fail)<;>try simp only [go_sem,seval])
  exact ⟨_,by rw [hR];exact GL.refl _ _⟩
 rw [if_neg h1] at hR;have d1:(k == 1)=false:=by simpa using h1
 by_cases hbk:k<2\/19<k
 ·rw [if_pos hbk] at hR;by_cases h2:k<2
  ·have d2:decide (k<2)=true:=by simpa using h2
   repeat' ((with_reducible apply wr)<;>try simp only [go_sem,seval,d1,d2])
   rw [hR];exact M6 (id:=1) A0 rfl rfl (E2 [R7]) ⟨[],rfl⟩
  ·have d2:decide (k<2)=false:=by simpa using h2
   have d3:decide (k>19)=true:=by simp;omega
   repeat' ((with_reducible apply wr)<;>try simp only [go_sem,seval,d1,d2,d3])
   rw [hR];exact M6 (id:=1) A0 rfl rfl (E2 [R7]) ⟨[],rfl⟩
 rw [if_neg hbk] at hR;have e2:decide (k<2)=false:=by simp;omega
 have e3:decide (k>19)=false:=by simp;omega
 dsimp only at hR;obtain ⟨j,hj⟩:∃ j:Nat,k=2+(j:Int):=⟨(k-2).toNat,by omega⟩;have hjw:IntKind.i64.wrap (k-2)=(j:Int):=by rw [w64 (by omega) (by omega)];omega
 have hjn:(k-2).toNat=j:=by omega
 rw [hjn] at hR;have hj18:j<18:=by omega
 have hgj:C0[j]? = some (C0.getD j []):=by
  rw [A0X,A0C (show j<C0.length from hj18)];rfl
 have hsl:(C0.getD j []).length<=1000000000:=by
  have:∀ i:Nat,i<18->(C0.getD i []).length<=1000000000:=by decide
  exact this j hj18
 generalize C0.getD j []=S at hR hgj hsl;have dk:∀ q:Int,¬ k=q->(k == q)=false:=fun q h=>by simpa using h
 repeat' ((first|(with_reducible first|refine G8 (p:=IW _ _ (pz Tryz.prog 153 (.i (.o (.i (.o .h))))) _ _) ?_|refine wr ?_|refine cpc c_stmts31 ?_)|(refine AC.call (wd1 rfl (by first|assumption|decide)) ?_<;>rintro _ _ _ ⟨rfl,rfl,rfl⟩ -)|fail)<;>try simp only [go_sem,seval,d1,e2,e3,hjw,hgj])
 unfold A2z;by_cases h2:k=2\/k=3
 ·rw [if_pos h2] at hR;have dd:(k == 2)=true\/(k == 2)=false/\(k == 3)=true:=by
   rcases h2 with rfl|rfl
   ·exact .inl rfl
   ·exact .inr ⟨rfl,rfl⟩
  clear h2 hj hjn h1 hbk
  match y with
  | [] =>
   dsimp only at hR;rcases dd with d2|⟨d2,d3⟩
   ·repeat' ((first|(with_reducible first|refine wr ?_|refine cpc ha0 ?_|refine cpc hbx ?_)|(refine AC.call (wd1 rfl (by first|assumption|decide)) ?_<;>rintro _ _ _ ⟨rfl,rfl,rfl⟩ -)|(refine AC.call (jn2 rfl ?_ ?_) ?_<;>first|(constructor<;>(try simp only [A0A,lw,A4,B0,A8])<;>omega)|rintro _ _ _ ⟨rfl,rfl,rfl⟩ -)|(refine AC.call (jn3 rfl ?_ ?_ ?_) ?_<;>first|(constructor<;>(try simp only [A0A,lw,A4,B0,A8])<;>omega)|rintro _ _ _ ⟨rfl,rfl,rfl⟩ -)|(refine AC.call (jn4 rfl ?_ ?_ ?_ ?_) ?_<;>first|(constructor<;>(try simp only [A0A,lw,A4,B0,A8])<;>omega)|rintro _ _ _ ⟨rfl,rfl,rfl⟩ -)|(refine AC.call (jn5 rfl ?_ ?_ ?_ ?_ ?_) ?_<;>first|(constructor<;>(try simp only [A0A,lw,A4,B0,A8])<;>omega)|rintro _ _ _ ⟨rfl,rfl,rfl⟩ -)|fail)<;>try simp only [go_sem,seval,d2,List.map_nil,A0F])
    exact ⟨_,by rw [hR];exact GL.refl _ _⟩
   ·repeat' ((first|(with_reducible first|refine wr ?_|refine cpc ha0 ?_|refine cpc hbx ?_)|(refine AC.call (wd1 rfl (by first|assumption|decide)) ?_<;>rintro _ _ _ ⟨rfl,rfl,rfl⟩ -)|(refine AC.call (jn2 rfl ?_ ?_) ?_<;>first|(constructor<;>(try simp only [A0A,lw,A4,B0,A8])<;>omega)|rintro _ _ _ ⟨rfl,rfl,rfl⟩ -)|(refine AC.call (jn3 rfl ?_ ?_ ?_) ?_<;>first|(constructor<;>(try simp only [A0A,lw,A4,B0,A8])<;>omega)|rintro _ _ _ ⟨rfl,rfl,rfl⟩ -)|(refine AC.call (jn4 rfl ?_ ?_ ?_ ?_) ?_<;>first|(constructor<;>(try simp only [A0A,lw,A4,B0,A8])<;>omega)|rintro _ _ _ ⟨rfl,rfl,rfl⟩ -)|(refine AC.call (jn5 rfl ?_ ?_ ?_ ?_ ?_) ?_<;>first|(constructor<;>(try simp only [A0A,lw,A4,B0,A8])<;>omega)|rintro _ _ _ ⟨rfl,rfl,rfl⟩ -)|fail)<;>try simp only [go_sem,seval,d2,d3,List.map_nil,A0F])
    exact ⟨_,by rw [hR];exact GL.refl _ _⟩
  | [q] =>
   rw [C8b] at hyy;have hq:=ihs q (by omega);have lq:=hls q (by omega);rw [Pb.St.v_w] at hq;dsimp only at hR;have hone:blT [q]=wT [123]++stT q++wT [125]:=by unfold blT;rw [O8,O8,A1E];rfl
   have hby':=hby;rw [hone] at hby lby;by_cases hk2:q.kind=2
   ·rw [if_pos hk2] at hR;have m2:(q.kind == 2)=true:=by simpa using hk2
    rcases dd with d2|⟨d2,d3⟩
    ·repeat' ((first|(with_reducible first|refine wr ?_|refine cpc ha0 ?_|refine cpc hbx ?_|refine cpc hq ?_)|(refine AC.call (wd1 rfl (by first|assumption|decide)) ?_<;>rintro _ _ _ ⟨rfl,rfl,rfl⟩ -)|(refine AC.call (jn2 rfl ?_ ?_) ?_<;>first|(constructor<;>(try simp only [A0A,lw,A4,B0,A8])<;>omega)|rintro _ _ _ ⟨rfl,rfl,rfl⟩ -)|(refine AC.call (jn3 rfl ?_ ?_ ?_) ?_<;>first|(constructor<;>(try simp only [A0A,lw,A4,B0,A8])<;>omega)|rintro _ _ _ ⟨rfl,rfl,rfl⟩ -)|(refine AC.call (jn4 rfl ?_ ?_ ?_ ?_) ?_<;>first|(constructor<;>(try simp only [A0A,lw,A4,B0,A8])<;>omega)|rintro _ _ _ ⟨rfl,rfl,rfl⟩ -)|(refine AC.call (jn5 rfl ?_ ?_ ?_ ?_ ?_) ?_<;>first|(constructor<;>(try simp only [A0A,lw,A4,B0,A8])<;>omega)|rintro _ _ _ ⟨rfl,rfl,rfl⟩ -)|fail)<;>try simp only [go_sem,seval,d2,m2,Pb.St.v_w])
     exact ⟨_,by rw [hR];exact GL.refl _ _⟩
    ·repeat' ((first|(with_reducible first|refine wr ?_|refine cpc ha0 ?_|refine cpc hbx ?_|refine cpc hq ?_)|(refine AC.call (wd1 rfl (by first|assumption|decide)) ?_<;>rintro _ _ _ ⟨rfl,rfl,rfl⟩ -)|(refine AC.call (jn2 rfl ?_ ?_) ?_<;>first|(constructor<;>(try simp only [A0A,lw,A4,B0,A8])<;>omega)|rintro _ _ _ ⟨rfl,rfl,rfl⟩ -)|(refine AC.call (jn3 rfl ?_ ?_ ?_) ?_<;>first|(constructor<;>(try simp only [A0A,lw,A4,B0,A8])<;>omega)|rintro _ _ _ ⟨rfl,rfl,rfl⟩ -)|(refine AC.call (jn4 rfl ?_ ?_ ?_ ?_) ?_<;>first|(constructor<;>(try simp only [A0A,lw,A4,B0,A8])<;>omega)|rintro _ _ _ ⟨rfl,rfl,rfl⟩ -)|(refine AC.call (jn5 rfl ?_ ?_ ?_ ?_ ?_) ?_<;>first|(constructor<;>(try simp only [A0A,lw,A4,B0,A8])<;>omega)|rintro _ _ _ ⟨rfl,rfl,rfl⟩ -)|fail)<;>try simp only [go_sem,seval,d2,d3,m2,Pb.St.v_w])
     exact ⟨_,by rw [hR];exact GL.refl _ _⟩
   ·rw [if_neg hk2] at hR;have m2:(q.kind == 2)=false:=by simpa using hk2
    rcases dd with d2|⟨d2,d3⟩
    ·repeat' ((first|(with_reducible first|refine wr ?_|refine cpc ha0 ?_|refine cpc hbx ?_|refine cpc hby ?_)|(refine AC.call (wd1 rfl (by first|assumption|decide)) ?_<;>rintro _ _ _ ⟨rfl,rfl,rfl⟩ -)|(refine AC.call (jn2 rfl ?_ ?_) ?_<;>first|(constructor<;>(try simp only [A0A,lw,A4,B0,A8])<;>omega)|rintro _ _ _ ⟨rfl,rfl,rfl⟩ -)|(refine AC.call (jn3 rfl ?_ ?_ ?_) ?_<;>first|(constructor<;>(try simp only [A0A,lw,A4,B0,A8])<;>omega)|rintro _ _ _ ⟨rfl,rfl,rfl⟩ -)|(refine AC.call (jn4 rfl ?_ ?_ ?_ ?_) ?_<;>first|(constructor<;>(try simp only [A0A,lw,A4,B0,A8])<;>omega)|rintro _ _ _ ⟨rfl,rfl,rfl⟩ -)|(refine AC.call (jn5 rfl ?_ ?_ ?_ ?_ ?_) ?_<;>first|(constructor<;>(try simp only [A0A,lw,A4,B0,A8])<;>omega)|rintro _ _ _ ⟨rfl,rfl,rfl⟩ -)|fail)<;>try simp only [go_sem,seval,d2,m2,Pb.St.v_w])
     exact ⟨_,by rw [hR];exact GL.refl _ _⟩
    ·repeat' ((first|(with_reducible first|refine wr ?_|refine cpc ha0 ?_|refine cpc hbx ?_|refine cpc hby ?_)|(refine AC.call (wd1 rfl (by first|assumption|decide)) ?_<;>rintro _ _ _ ⟨rfl,rfl,rfl⟩ -)|(refine AC.call (jn2 rfl ?_ ?_) ?_<;>first|(constructor<;>(try simp only [A0A,lw,A4,B0,A8])<;>omega)|rintro _ _ _ ⟨rfl,rfl,rfl⟩ -)|(refine AC.call (jn3 rfl ?_ ?_ ?_) ?_<;>first|(constructor<;>(try simp only [A0A,lw,A4,B0,A8])<;>omega)|rintro _ _ _ ⟨rfl,rfl,rfl⟩ -)|(refine AC.call (jn4 rfl ?_ ?_ ?_ ?_) ?_<;>first|(constructor<;>(try simp only [A0A,lw,A4,B0,A8])<;>omega)|rintro _ _ _ ⟨rfl,rfl,rfl⟩ -)|(refine AC.call (jn5 rfl ?_ ?_ ?_ ?_ ?_) ?_<;>first|(constructor<;>(try simp only [A0A,lw,A4,B0,A8])<;>omega)|rintro _ _ _ ⟨rfl,rfl,rfl⟩ -)|fail)<;>try simp only [go_sem,seval,d2,d3,m2,Pb.St.v_w])
     exact ⟨_,by rw [hR];exact GL.refl _ _⟩
  | q :: q2 :: l =>
   dsimp only at hR;obtain ⟨A,hA⟩:∃ A,A=(q :: q2 :: l).map Pb.St.v:=⟨_,rfl⟩;have n1:((A.length:Int) == 1)=false:=by rw [hA];simp;omega
   have n2:decide ((A.length:Int)>0)=true:=by rw [hA];simp;omega
   have hex:F3 (q :: q2 :: l)=.lst A:=by rw [hA]
   rw [hex] at hby ⊢;rcases dd with d2|⟨d2,d3⟩
   ·repeat' ((first|(with_reducible first|refine wr ?_|refine cpc ha0 ?_|refine cpc hbx ?_|refine cpc hby ?_)|(refine AC.call (wd1 rfl (by first|assumption|decide)) ?_<;>rintro _ _ _ ⟨rfl,rfl,rfl⟩ -)|(refine AC.call (jn2 rfl ?_ ?_) ?_<;>first|(constructor<;>(try simp only [A0A,lw,A4,B0,A8])<;>omega)|rintro _ _ _ ⟨rfl,rfl,rfl⟩ -)|(refine AC.call (jn3 rfl ?_ ?_ ?_) ?_<;>first|(constructor<;>(try simp only [A0A,lw,A4,B0,A8])<;>omega)|rintro _ _ _ ⟨rfl,rfl,rfl⟩ -)|(refine AC.call (jn4 rfl ?_ ?_ ?_ ?_) ?_<;>first|(constructor<;>(try simp only [A0A,lw,A4,B0,A8])<;>omega)|rintro _ _ _ ⟨rfl,rfl,rfl⟩ -)|(refine AC.call (jn5 rfl ?_ ?_ ?_ ?_ ?_) ?_<;>first|(constructor<;>(try simp only [A0A,lw,A4,B0,A8])<;>omega)|rintro _ _ _ ⟨rfl,rfl,rfl⟩ -)|fail)<;>try simp only [go_sem,seval,d2,n1,n2])
    exact ⟨_,by rw [hR];exact GL.refl _ _⟩
   ·repeat' ((first|(with_reducible first|refine wr ?_|refine cpc ha0 ?_|refine cpc hbx ?_|refine cpc hby ?_)|(refine AC.call (wd1 rfl (by first|assumption|decide)) ?_<;>rintro _ _ _ ⟨rfl,rfl,rfl⟩ -)|(refine AC.call (jn2 rfl ?_ ?_) ?_<;>first|(constructor<;>(try simp only [A0A,lw,A4,B0,A8])<;>omega)|rintro _ _ _ ⟨rfl,rfl,rfl⟩ -)|(refine AC.call (jn3 rfl ?_ ?_ ?_) ?_<;>first|(constructor<;>(try simp only [A0A,lw,A4,B0,A8])<;>omega)|rintro _ _ _ ⟨rfl,rfl,rfl⟩ -)|(refine AC.call (jn4 rfl ?_ ?_ ?_ ?_) ?_<;>first|(constructor<;>(try simp only [A0A,lw,A4,B0,A8])<;>omega)|rintro _ _ _ ⟨rfl,rfl,rfl⟩ -)|(refine AC.call (jn5 rfl ?_ ?_ ?_ ?_ ?_) ?_<;>first|(constructor<;>(try simp only [A0A,lw,A4,B0,A8])<;>omega)|rintro _ _ _ ⟨rfl,rfl,rfl⟩ -)|fail)<;>try simp only [go_sem,seval,d2,d3,n1,n2])
    exact ⟨_,by rw [hR];exact GL.refl _ _⟩
 rw [if_neg h2] at hR;have d2:=dk 2 (fun h=>h2 (.inl h));have d3:=dk 3 (fun h=>h2 (.inr h));by_cases h4:k=4
 ·subst h4;rw [if_pos rfl] at hR;repeat' ((first|(with_reducible first|refine wr ?_|refine cpc ha0 ?_)|(refine AC.call (wd1 rfl (by first|assumption|decide)) ?_<;>rintro _ _ _ ⟨rfl,rfl,rfl⟩ -)|(refine AC.call (jn2 rfl ?_ ?_) ?_<;>first|(constructor<;>(try simp only [A0A,lw,A4,B0,A8])<;>omega)|rintro _ _ _ ⟨rfl,rfl,rfl⟩ -)|(refine AC.call (jn3 rfl ?_ ?_ ?_) ?_<;>first|(constructor<;>(try simp only [A0A,lw,A4,B0,A8])<;>omega)|rintro _ _ _ ⟨rfl,rfl,rfl⟩ -)|(refine AC.call (jn4 rfl ?_ ?_ ?_ ?_) ?_<;>first|(constructor<;>(try simp only [A0A,lw,A4,B0,A8])<;>omega)|rintro _ _ _ ⟨rfl,rfl,rfl⟩ -)|(refine AC.call (jn5 rfl ?_ ?_ ?_ ?_ ?_) ?_<;>first|(constructor<;>(try simp only [A0A,lw,A4,B0,A8])<;>omega)|rintro _ _ _ ⟨rfl,rfl,rfl⟩ -)|fail)<;>try simp only [go_sem,seval,d2,d3])
  exact ⟨_,by rw [hR];exact GL.refl _ _⟩
 rw [if_neg h4] at hR;have d4:=dk 4 h4;by_cases h18:k=18
 ·subst h18;rw [if_pos rfl] at hR;repeat' ((first|(with_reducible first|refine wr ?_|refine cpc ha0 ?_|refine cpc hte ?_)|(refine AC.call (wd1 rfl (by first|assumption|decide)) ?_<;>rintro _ _ _ ⟨rfl,rfl,rfl⟩ -)|(refine AC.call (jn2 rfl ?_ ?_) ?_<;>first|(constructor<;>(try simp only [A0A,lw,A4,B0,A8])<;>omega)|rintro _ _ _ ⟨rfl,rfl,rfl⟩ -)|(refine AC.call (jn3 rfl ?_ ?_ ?_) ?_<;>first|(constructor<;>(try simp only [A0A,lw,A4,B0,A8])<;>omega)|rintro _ _ _ ⟨rfl,rfl,rfl⟩ -)|(refine AC.call (jn4 rfl ?_ ?_ ?_ ?_) ?_<;>first|(constructor<;>(try simp only [A0A,lw,A4,B0,A8])<;>omega)|rintro _ _ _ ⟨rfl,rfl,rfl⟩ -)|(refine AC.call (jn5 rfl ?_ ?_ ?_ ?_ ?_) ?_<;>first|(constructor<;>(try simp only [A0A,lw,A4,B0,A8])<;>omega)|rintro _ _ _ ⟨rfl,rfl,rfl⟩ -)|fail)<;>try simp only [go_sem,seval,d2,d3,d4])
  exact ⟨_,by rw [hR];exact GL.refl _ _⟩
 rw [if_neg h18] at hR;have d18:=dk 18 h18;by_cases h8:k=8\/k=10
 ·rw [if_pos h8] at hR;rcases h8 with rfl|rfl
  ·repeat' ((first|(with_reducible first|refine wr ?_|refine cpc ha0 ?_|refine cpc hna ?_)|(refine AC.call (wd1 rfl (by first|assumption|decide)) ?_<;>rintro _ _ _ ⟨rfl,rfl,rfl⟩ -)|(refine AC.call (jn2 rfl ?_ ?_) ?_<;>first|(constructor<;>(try simp only [A0A,lw,A4,B0,A8])<;>omega)|rintro _ _ _ ⟨rfl,rfl,rfl⟩ -)|(refine AC.call (jn3 rfl ?_ ?_ ?_) ?_<;>first|(constructor<;>(try simp only [A0A,lw,A4,B0,A8])<;>omega)|rintro _ _ _ ⟨rfl,rfl,rfl⟩ -)|(refine AC.call (jn4 rfl ?_ ?_ ?_ ?_) ?_<;>first|(constructor<;>(try simp only [A0A,lw,A4,B0,A8])<;>omega)|rintro _ _ _ ⟨rfl,rfl,rfl⟩ -)|(refine AC.call (jn5 rfl ?_ ?_ ?_ ?_ ?_) ?_<;>first|(constructor<;>(try simp only [A0A,lw,A4,B0,A8])<;>omega)|rintro _ _ _ ⟨rfl,rfl,rfl⟩ -)|fail)<;>try simp only [go_sem,seval,d2,d3,d4,d18])
   exact ⟨_,by rw [hR];exact GL.refl _ _⟩
  ·repeat' ((first|(with_reducible first|refine wr ?_|refine cpc ha0 ?_|refine cpc hna ?_)|(refine AC.call (wd1 rfl (by first|assumption|decide)) ?_<;>rintro _ _ _ ⟨rfl,rfl,rfl⟩ -)|(refine AC.call (jn2 rfl ?_ ?_) ?_<;>first|(constructor<;>(try simp only [A0A,lw,A4,B0,A8])<;>omega)|rintro _ _ _ ⟨rfl,rfl,rfl⟩ -)|(refine AC.call (jn3 rfl ?_ ?_ ?_) ?_<;>first|(constructor<;>(try simp only [A0A,lw,A4,B0,A8])<;>omega)|rintro _ _ _ ⟨rfl,rfl,rfl⟩ -)|(refine AC.call (jn4 rfl ?_ ?_ ?_ ?_) ?_<;>first|(constructor<;>(try simp only [A0A,lw,A4,B0,A8])<;>omega)|rintro _ _ _ ⟨rfl,rfl,rfl⟩ -)|(refine AC.call (jn5 rfl ?_ ?_ ?_ ?_ ?_) ?_<;>first|(constructor<;>(try simp only [A0A,lw,A4,B0,A8])<;>omega)|rintro _ _ _ ⟨rfl,rfl,rfl⟩ -)|fail)<;>try simp only [go_sem,seval,d2,d3,d4,d18])
   exact ⟨_,by rw [hR];exact GL.refl _ _⟩
 rw [if_neg h8] at hR;have d8:=dk 8 (fun h=>h8 (.inl h));have d10:=dk 10 (fun h=>h8 (.inr h));by_cases h9:k=9
 ·subst h9;rw [if_pos rfl] at hR;repeat' ((first|(with_reducible first|refine wr ?_|refine cpc ha0 ?_|refine cpc ha1 ?_|refine cpc hna ?_)|(refine AC.call (wd1 rfl (by first|assumption|decide)) ?_<;>rintro _ _ _ ⟨rfl,rfl,rfl⟩ -)|(refine AC.call (jn2 rfl ?_ ?_) ?_<;>first|(constructor<;>(try simp only [A0A,lw,A4,B0,A8])<;>omega)|rintro _ _ _ ⟨rfl,rfl,rfl⟩ -)|(refine AC.call (jn3 rfl ?_ ?_ ?_) ?_<;>first|(constructor<;>(try simp only [A0A,lw,A4,B0,A8])<;>omega)|rintro _ _ _ ⟨rfl,rfl,rfl⟩ -)|(refine AC.call (jn4 rfl ?_ ?_ ?_ ?_) ?_<;>first|(constructor<;>(try simp only [A0A,lw,A4,B0,A8])<;>omega)|rintro _ _ _ ⟨rfl,rfl,rfl⟩ -)|(refine AC.call (jn5 rfl ?_ ?_ ?_ ?_ ?_) ?_<;>first|(constructor<;>(try simp only [A0A,lw,A4,B0,A8])<;>omega)|rintro _ _ _ ⟨rfl,rfl,rfl⟩ -)|fail)<;>try simp only [go_sem,seval,d2,d3,d4,d18,d8,d10])
  exact ⟨_,by rw [hR];exact GL.refl _ _⟩
 rw [if_neg h9] at hR;have d9:=dk 9 h9;by_cases h19:k=19
 ·subst h19;rw [if_pos rfl] at hR;repeat' ((first|(with_reducible first|refine wr ?_)|(refine AC.call (wd1 rfl (by first|assumption|decide)) ?_<;>rintro _ _ _ ⟨rfl,rfl,rfl⟩ -)|(refine AC.call (jn2 rfl ?_ ?_) ?_<;>first|(constructor<;>(try simp only [A0A,lw,A4,B0,A8])<;>omega)|rintro _ _ _ ⟨rfl,rfl,rfl⟩ -)|(refine AC.call (jn3 rfl ?_ ?_ ?_) ?_<;>first|(constructor<;>(try simp only [A0A,lw,A4,B0,A8])<;>omega)|rintro _ _ _ ⟨rfl,rfl,rfl⟩ -)|(refine AC.call (jn4 rfl ?_ ?_ ?_ ?_) ?_<;>first|(constructor<;>(try simp only [A0A,lw,A4,B0,A8])<;>omega)|rintro _ _ _ ⟨rfl,rfl,rfl⟩ -)|(refine AC.call (jn5 rfl ?_ ?_ ?_ ?_ ?_) ?_<;>first|(constructor<;>(try simp only [A0A,lw,A4,B0,A8])<;>omega)|rintro _ _ _ ⟨rfl,rfl,rfl⟩ -)|fail)<;>try simp only [go_sem,seval,d2,d3,d4,d18,d8,d10,d9])
  exact ⟨_,by rw [hR];exact GL.refl _ _⟩
 rw [if_neg h19] at hR;have d19:=dk 19 h19;repeat' ((first|(with_reducible first|refine wr ?_|refine cpc hna ?_)|(refine AC.call (wd1 rfl (by first|assumption|decide)) ?_<;>rintro _ _ _ ⟨rfl,rfl,rfl⟩ -)|(refine AC.call (jn2 rfl ?_ ?_) ?_<;>first|(constructor<;>(try simp only [A0A,lw,A4,B0,A8])<;>omega)|rintro _ _ _ ⟨rfl,rfl,rfl⟩ -)|(refine AC.call (jn3 rfl ?_ ?_ ?_) ?_<;>first|(constructor<;>(try simp only [A0A,lw,A4,B0,A8])<;>omega)|rintro _ _ _ ⟨rfl,rfl,rfl⟩ -)|(refine AC.call (jn4 rfl ?_ ?_ ?_ ?_) ?_<;>first|(constructor<;>(try simp only [A0A,lw,A4,B0,A8])<;>omega)|rintro _ _ _ ⟨rfl,rfl,rfl⟩ -)|(refine AC.call (jn5 rfl ?_ ?_ ?_ ?_ ?_) ?_<;>first|(constructor<;>(try simp only [A0A,lw,A4,B0,A8])<;>omega)|rintro _ _ _ ⟨rfl,rfl,rfl⟩ -)|fail)<;>try simp only [go_sem,seval,d2,d3,d4,d18,d8,d10,d9,d19])
 exact ⟨_,by rw [hR];exact GL.refl _ _⟩
theorem c_wordsO (x:List UInt8) (hx:x.length<=1000000000) (H:Hp) (cc:Nat):AC Tryz.prog 132 [A3b [x]] H cc (fun v H' c' => ∃ id,cc<=id/\id<c'/\v=.slc id 0 1/\H'=H.upd id ⟨4,true,(A5 x).v.cells⟩):=by
 refine AC.bodyT A9 rfl (A0B rfl) fun hfr=>?_;have h1:=c_IsWordR x;have h2:=c_IsNameR x (by omega);repeat' ((with_reducible apply wr)<;>try simp only [go_sem,seval])
 refine C2 (fun q:Option Nat=>[(0,A3b [x]),(3,B9 q 1),(4,I64 (if q=none then 0 else 1))]) (fun q=>C6 H q ⟨4,true,(A5 x).v.cells⟩)
  (fun q c=>cc<=c/\(∀ i,q=some i->cc<=i/\i<c)) (fun q=>if q=none then 1 else 0) none
  (by simp [C3,tm,Tm.upd,B9]) (Sub.refl _) ⟨A0H _,(fun i hi=>by cases hi)⟩ ?_
 rintro o c ⟨hc,ho⟩;cases o with
 | none =>
  have hd:decide ((0:Int)<1)=true:=by decide
  have hw:IntKind.i64.wrap (0+1)=1:=by decide
  have hw':IntKind.i64.wrap 1=1:=by decide
  have hr0:∀ i:Nat,H (c+i)=none:=fun i=>hfr _ (by omega);have ne0:=M8 c (c+1) (by omega);cases hw1:G6 x with
  | true =>
   repeat' ((with_reducible first|apply wr|refine cpc h1 ?_|refine cpc h2 ?_|fail)<;>try simp only [go_sem,seval,hw1,ne0,A0,A1,hw,hw'])
   refine F6 (A2k (by decide) (by decide) (by decide)) ?_;simp only [go_sem,seval,ne0];repeat' ((with_reducible apply wr)<;>try simp only [go_sem,seval,hw,hw',ne0])
   refine ⟨some (c+1+1),by simp [C3,tm,Tm.upd,B9,hw,hw'],?_,inv ⟨by omega,(fun i hi=>by cases hi;omega)⟩,by simp⟩;intro j b hj;simp only [C6] at hj;by_cases e1:j=c+1+1
   ·subst e1;rw [A0] at hj ⊢;rw [<- hj];unfold A5;simp only [hw1,if_true,if_false,A1O]
   ·rw [A2 e1] at hj ⊢;have:j<cc:=Classical.byContradiction fun h=>by rw [hfr j (by omega)] at hj;cases hj
    rw [A2 (by omega),A2 (by omega)];exact hj
  | false =>
   cases hn1:D8 x with
   | true =>
    repeat' ((with_reducible first|apply wr|refine cpc h1 ?_|refine cpc h2 ?_|fail)<;>try simp only [go_sem,seval,hw1,hn1,ne0,A0,A1,hw,hw'])
    refine F6 (A2k (by decide) (by decide) (by decide)) ?_;simp only [go_sem,seval,ne0];repeat' ((with_reducible apply wr)<;>try simp only [go_sem,seval,hw,hw',ne0])
    refine ⟨some (c+1+1),by simp [C3,tm,Tm.upd,B9,hw,hw'],?_,inv ⟨by omega,(fun i hi=>by cases hi;omega)⟩,by simp⟩;intro j b hj;simp only [C6] at hj;by_cases e1:j=c+1+1
    ·subst e1;rw [A0] at hj ⊢;rw [<- hj];unfold A5;simp only [hw1,hn1,if_true,if_false,A1O]
    ·rw [A2 e1] at hj ⊢;have:j<cc:=Classical.byContradiction fun h=>by rw [hfr j (by omega)] at hj;cases hj
     rw [A2 (by omega),A2 (by omega)];exact hj
   | false =>
    repeat' ((with_reducible first|apply wr|refine cpc h1 ?_|refine cpc h2 ?_|fail)<;>try simp only [go_sem,seval,hw1,hn1,ne0,A0,A1,hw,hw'])
    refine F6 (A2k (by decide) (by decide) (by decide)) ?_;simp only [go_sem,seval,ne0];repeat' ((with_reducible apply wr)<;>try simp only [go_sem,seval,hw,hw',ne0])
    refine ⟨some (c+1+1),by simp [C3,tm,Tm.upd,B9,hw,hw'],?_,inv ⟨by omega,(fun i hi=>by cases hi;omega)⟩,by simp⟩;intro j b hj;simp only [C6] at hj;by_cases e1:j=c+1+1
    ·subst e1;rw [A0] at hj ⊢;rw [<- hj];unfold A5;simp only [hw1,hn1,if_true,if_false,A1O]
    ·rw [A2 e1] at hj ⊢;have:j<cc:=Classical.byContradiction fun h=>by rw [hfr j (by omega)] at hj;cases hj
     rw [A2 (by omega),A2 (by omega)];exact hj
 | some i =>
  have hd:decide ((1:Int)<1)=false:=by decide
  repeat' ((with_reducible apply wr)<;>try simp only [go_sem,seval,hd])
  exact ⟨_,_,GL.refl _ _,i,(ho i rfl).1,(ho i rfl).2,rfl,rfl⟩
theorem E1l {x:List UInt8} {id cc:Nat} {H:Hp} (hb:H id=some ⟨1,true,[.str x]⟩) (hx:x.length<=1000000000) :
  AC Tryz.prog 132 [.slc id 0 1] H cc (fun v H' c' => ∃ i,cc<=i/\i<c'/\v=.slc i 0 1/\H'=(I6 H (some id)).upd i ⟨4,true,(A5 x).v.cells⟩) :=
 AC.ghost (GL.frzS (id:=id) hb rfl (fun j=>by
  by_cases e:j=id
  ·subst e;exact .inl (by rw [S9,if_pos rfl])
  ·exact .inr ⟨e,by rw [S9,if_neg e]⟩) (.cons _ _ _ _ (Q5 (xs:=[.str x]) rfl (J9 [x]) ⟨[],rfl⟩) .nil)) (c_wordsO x hx _ cc)
theorem A8a:∀ l:List Pb.St,O8 l=(l.map stT).flatten
 | []=>rfl
 | e :: l=>by rw [O8,A8a l];rfl
theorem c_blockT (l:List Pb.St) (hl:l.length<=10000000) (hs:∀ x∈l,PC Tryz.prog 153 [x.v] (D9 (stT x))) (hx:∀ x∈l,1<=(stT x).length/\(stT x).length<=100000000) (hT:(blT l).length<=100000000):PC Tryz.prog 135 [F3 l] (D9 (blT l)):=by
 refine PC.ofT A9 rfl (A0B rfl) (by simp [DV.nlL,DV.nl,Q2]) (L0 _) ?_;obtain ⟨R,hR⟩:∃ R,R=D9 (blT l):=⟨_,rfl⟩;rw [<- hR];unfold blT at hR;rw [A8a] at hR;have hT':(l.map stT).flatten.length<=100000000:=by
  unfold blT at hT;rw [A8a] at hT;simp only [A0A,A0I] at hT;omega
 repeat' ((with_reducible apply wr)<;>try simp only [go_sem,seval])
 refine AC.call (E1l rfl (by decide)) ?_;rintro v H' c1 ⟨i,hi1,hi2,rfl,rfl⟩ -;simp only [go_sem,seval];repeat' ((with_reducible apply wr)<;>try simp only [go_sem,seval])
 obtain ⟨F,hF⟩:∃ F:Nat->List Tok, ∀ k,F k=wT [123]++((l.take k).map stT).flatten:=⟨_,fun _=>rfl⟩;have hF0:F 0=wT [123]:=by rw [hF];simp
 refine C2 (fun q:Nat × Nat=>[(0,F3 l),(3,.slc q.2 0 (F q.1).length),(4,I64 q.1)]) (fun q=>Sym.nil.upd q.2 ⟨4,true,A3 ((F q.1).map Tok.v)⟩)
  (fun q c=>q.1<=l.length/\q.2<c) (fun q=>l.length-q.1) (0,i)
  (by simp [C3,tm,Tm.upd,hF0,lw]) (by dsimp only;rw [hF0];exact Sub.refl _) ⟨A0R _,hi2⟩ ?_
 clear hi1 hi2;rintro ⟨k,i⟩ c ⟨hk,hi⟩;dsimp only at hk hi ⊢;by_cases hlt:k<l.length
 ·have hd:decide ((k:Int)<(l.length:Int))=true:=by simpa using hlt
  have hg:=A0C hlt;have hsx:=hs _ (A0O hlt);obtain ⟨hx1,hx2⟩:=hx _ (A0O hlt);have hw:=w64 (n:=(k:Int)+1) (by omega) (by omega);have e0:F (k+1)=F k++stT l[k]:=by rw [hF,hF,A1B,hg,A0P,A4J];simp
  have hle:((l.take k).map stT).flatten.length<=100000000:=by
   have h1:(l.map stT).flatten=((l.take k).map stT).flatten++((l.drop k).map stT).flatten:=by rw [<- A4J, <- A0P,A2H]
   rw [h1,A0A] at hT';omega
  have hle2:(F k).length<=200000000:=by rw [hF,A0A,lw];omega
  rw [Pb.St.v_w] at hsx;generalize l[k]=x at hg hx1 hx2 e0 hsx;generalize F k=y at hle2 e0 ⊢;have hln:(A3 (y.map Tok.v)).length=y.length * 4:=(B3 (u:=4) (E2 _)).trans (by simp);have hun:unit 4 ((stT x).map Tok.v)=true:=by unfold unit;rw [A0U];intro d hd;simp [E2 (stT x) d hd]
  repeat' ((with_reducible first|apply wr|refine cpc hsx ?_|fail)<;>try simp only [go_sem,seval,hd,hg,hw,Pb.St.v_w,N9 hun])
  refine F6 (Z1 hln (by omega) (by omega)) ?_;simp only [go_sem,seval,hw];repeat' ((with_reducible apply wr)<;>try simp only [go_sem,seval,hw])
  refine ⟨(k+1,c),by simp [C3,tm,Tm.upd,e0],?_,inv ⟨by omega,by simp only;omega⟩,by simp only;omega⟩;dsimp only;rw [e0,A0P,B6];intro j b hj;by_cases e1:j=c
  ·subst e1;rw [A0] at hj ⊢;exact hj
  ·rw [A2 e1] at hj;cases hj
 ·have hd:decide ((k:Int)<(l.length:Int))=false:=by simpa using hlt
  rw [hF,A0J (by omega)];have hun:unit 4 ((wT [125]).map Tok.v)=true:=by unfold unit;rw [A0U];intro d hd;simp [E2 (wT [125]) d hd]
  have hle2:(wT [123]++(l.map stT).flatten).length<=200000000:=by rw [A0A,lw];omega
  have hR':R=D9 ((wT [123]++(l.map stT).flatten)++wT [125]):=hR;generalize wT [123]++(l.map stT).flatten=y at hle2 hR' ⊢;have hln:(A3 (y.map Tok.v)).length=y.length * 4:=(B3 (u:=4) (E2 _)).trans (by simp);have hnic:¬ i=c:=by omega
  have hlw:=lw [125];repeat' ((with_reducible apply wr)<;>try simp only [go_sem,seval,hd])
  refine AC.call (wd1 A0 (by decide)) ?_;rintro v H' c2 ⟨rfl,rfl,rfl⟩ -;simp only [go_sem,seval,hnic,N9 hun];repeat' ((with_reducible apply wr)<;>try simp only [go_sem,seval,hnic,N9 hun])
  refine F6 (Z1 hln (by omega) (by omega)) ?_;simp only [go_sem,seval];repeat' ((with_reducible apply wr)<;>try simp only [go_sem,seval])
  rw [hR'];exact M6 (id:=c+1) A0 rfl (by simp) (E2 _) ⟨[],by rw [A0P,B6,A1E]⟩
theorem c_stT:∀ m:Nat,m<=5000000->(∀ x:Pb.St,x.sz<m->PC Tryz.prog 153 [x.v] (D9 (stT x)))/\(∀ l:List Pb.St,Pb.St.szs l<m->PC Tryz.prog 135 [F3 l] (D9 (blT l))):=by
 intro m
 induction m with
 | zero=>exact fun _=>⟨fun x h=>by omega,fun l h=>by omega⟩
 | succ m ih =>
  intro hm;obtain ⟨i1,i2⟩:=ih (by omega);have A:∀ x:Pb.St,x.sz<m+1->PC Tryz.prog 153 [x.v] (D9 (stT x)):=fun x hx =>
   c_stmtT m i1 i2 (fun l hl=>by have:=A7q l;omega) (fun y hy=>by have:=A7c y;omega) x (by omega) (by omega)
  refine ⟨A,fun l hl=>?_⟩;have h1:=Pb.St.szs_len l;have h2:=A7q l;exact c_blockT l (by omega) (fun x hx=>A x (by have:=Pb.St.szs_mem hx;omega)) (fun x hx=>by have:=A7c x;have:=Pb.St.szs_mem hx;omega) (by omega)
theorem c_blkT (l:List Pb.St) (h:Pb.St.szs l<5000000):PC Tryz.prog 135 [F3 l] (D9 (blT l)):=(c_stT 5000000 (A0H _)).2 l h
end Go.Proofs.YtnmkkggfgdfmeaaGreatDoor
end

/-
  HELPERS of the claim: part 11 of its texts.
-/
import Derived.Test.YthlpinppaclofaaGreatDoorSywj
noncomputable section
set_option maxHeartbeats 8000000
set_option maxRecDepth 100000
set_option linter.unusedSimpArgs false
set_option linter.unusedVariables false
namespace Go.Proofs.YthlpinppaclofaaGreatDoor
open Go.Eng (IC IOper DReg IFn B4)
open Go.Sym Go.Pb
def ruA:List UInt8:=[115,119,105,116,99,104,32,115,119,48,32,51,59,32,115,119,105,116,99,104,32,115,119,49,32,57,59,32,115,119,105,116,99,104,32,115,119,50,32,52,48,59,32,115,119,105,116,99,104,32,115,119,51,32,54,51,59,10,99,111,105,108,32,99,111,105,108,48,32,48,59,32,99,111,105,108,32,99,111,105,108,49,32,55,59,32,99,111,105,108,32,99,111,105,108,50,32,51,49,59,10,108,97,109,112,32,108,97,109,112,48,32,48,59,32,108,97,109,112,32,108,97,109,112,49,32,57,59,32,108,97,109,112,32,108,97,109,112,50,32,51,51,59,32,108,97,109,112,32,108,97,109,112,51,32,54,51,59,10,115,111,117,110,100,32,115,110,100,48,32,48,59,32,115,111,117,110,100,32,115,110,100,49,32,53,59,32,115,104,111,119,32,115,104,111,119,48,32,48,59,32,115,104,111,119,32,115,104,111,119,49,32,49,59,10]
def ruB:List UInt8:=[118,97,114,32,118,48,32]
def ruC:List UInt8:=[59,32,118,97,114,32,118,49,32,49,59,32,118,97,114,32,118,50,32,48,59,32,116,105,109,101,114,32,116,109,48,59,32,116,105,109,101,114,32,116,109,49,59,32,101,118,101,110,116,32,101,118,48,59,32,101,118,101,110,116,32,101,118,49,59,10]
def v0L:List (List UInt8):=[[48],[53],[45,55],[50,49,52,55,52,56,51,54,52,55]]
def v0V:List DV:=[.str [48],.str [53],.str [45,55],.str [50,49,52,55,52,56,51,54,52,55]]
theorem C1g {k:Nat} (h:k<4):v0V[k]? = some (.str (v0L.getD k [])):=by
 match k,h with
 | 0,_=>rfl
 | 1,_=>rfl
 | 2,_=>rfl
 | 3,_=>rfl
def A0z (s:List UInt8) (hs:List (List UInt8)):List UInt8:=hs.foldl (fun a x=>(a++x)++[10]) s
theorem B4d (s:List UInt8) (hs:List (List UInt8)) (x:List UInt8):A0z s (hs++[x])=(A0z s hs++x)++[10]:=by unfold A0z;rw [A4B];rfl
def B9l (s:List UInt8) (i p:Nat):List UInt8:=((((s++[109,111,100,101,32,109,111,100,101])++F9 (i:Int))++[32])++F9 (p:Int))++[32,123,10]
inductive RuP (L:List UInt8) (w:Nat):Nat->List UInt8->Prop where
 | head {k:Nat}:k<4->RuP L w 0 (((ruA++ruB)++v0L.getD k [])++ruC)
 | mode {i p k:Nat} {s:List UInt8} {hs:List (List UInt8)}:RuP L w i s->p<4->k<11->hs.length<=4->(∀ j x,hs[j]? = some x->HdG L w (k+j) x)->RuP L w (i+1) (A0z (B9l s i p) hs++[125,10])
theorem C2x (L:List UInt8) (hL:L.length<=300) (w:Nat) (hw:w<=100):MC 16 [] L w 30000000 (RuP L w 3):=by
 intro i hi H cc t ht htc;refine AC.bodyT A6 rfl (A0A rfl) fun hfr=>?_;obtain ⟨x1,e1,m1,a1⟩:=D1 ruA ruB (by decide);have l1:x1.length<=300:=by rw [m1];decide
 replace a1:binR .add (.str [115,119,105,116,99,104,32,115,119,48,32,51,59,32,115,119,105,116,99,104,32,115,119,49,32,57,59,32,115,119,105,116,99,104,32,115,119,50,32,52,48,59,32,115,119,105,116,99,104,32,115,119,51,32,54,51,59,10,99,111,105,108,32,99,111,105,108,48,32,48,59,32,99,111,105,108,32,99,111,105,108,49,32,55,59,32,99,111,105,108,32,99,111,105,108,50,32,51,49,59,10,108,97,109,112,32,108,97,109,112,48,32,48,59,32,108,97,109,112,32,108,97,109,112,49,32,57,59,32,108,97,109,112,32,108,97,109,112,50,32,51,51,59,32,108,97,109,112,32,108,97,109,112,51,32,54,51,59,10,115,111,117,110,100,32,115,110,100,48,32,48,59,32,115,111,117,110,100,32,115,110,100,49,32,53,59,32,115,104,111,119,32,115,104,111,119,48,32,48,59,32,115,104,111,119,32,115,104,111,119,49,32,49,59,10]) (.str [118,97,114,32,118,48,32])=some (.str x1):=a1;dsimp only at a1;repeat' ((with_reducible first|refine wr ?_|refine k_cu ?_ ?_|refine wb2 ?_ ?_<;>(intro hb;try simp only [hb])|fail)<;>try simp only [go_sem,seval,a1])
 refine AC.call (T7 L hL w 4 (by decide) (by decide) i hi _ _ t (by rw [A2 (by omega)];exact ht) (by omega)) ?_;rintro v' H' c3 ⟨k3,j1,hlt3,b1,rfl,rfl⟩ hc3;have hia:Q6 1 (.slc (cc) 0 4) (I64 (k3:Int))=some (.ptr (cc) k3):=by simp [Q6];omega
 have hld:=C1g hlt3;have hg:=O8 (l:=v0L) (n:=10) (by decide) k3;have hcon:RuP L w 0 (((ruA++ruB)++v0L.getD k3 [])++ruC):=.head hlt3;generalize hog:v0L.getD k3 []=og at hg hld hcon;generalize hWL:v0V=WL at hld;have hWL2:[.str [48],.str [53],.str [45,55],.str [50,49,52,55,52,56,51,54,52,55]]=WL:=hWL;have ne0:=Q3 t cc (by omega);obtain ⟨x2,e2,m2,a2⟩:=D1 x1 og (by omega);have l2:ruC.length<=100:=by decide
 obtain ⟨x3,e3,m3,a3⟩:=D1 x2 ruC (by omega);replace a3:binR .add (.str x2) (.str [59,32,118,97,114,32,118,49,32,49,59,32,118,97,114,32,118,50,32,48,59,32,116,105,109,101,114,32,116,109,48,59,32,116,105,109,101,114,32,116,109,49,59,32,101,118,101,110,116,32,101,118,48,59,32,101,118,101,110,116,32,101,118,49,59,10])=some (.str x3):=a3;dsimp only at a3;simp only [go_sem,seval,A0,A1,ne0,hia,hWL2,hld,a1,a2,a3];have hfin:∀ (B:Blk) ds,GL ((H.upd cc ⟨1,true,WL⟩).upd t B) ds (H.upd t B) ds:=fun B ds=>GL.less' (fun j2 q hj=>by
  by_cases e:j2=t
  ·subst e;rw [A0] at hj ⊢;exact hj
  ·rw [A2 e] at hj ⊢;have:j2≠cc:=by rintro rfl;rw [hfr _ (by omega)] at hj;cases hj
   rw [A2 this];exact hj)
 generalize H.upd cc ⟨1,true,WL⟩=G at hfin ⊢;have hx3:RuP L w 0 x3:=by rw [e3,e2,e1];exact hcon
 have l3:x3.length<=500:=by omega
 clear hcon e1 e2 e3 a1 a2 a3 hld hWL hWL2 hia;repeat' ((with_reducible first|refine wr ?_|refine k_cu ?_ ?_|refine wb2 ?_ ?_<;>(intro hb;try simp only [hb])|fail)<;>try simp only [go_sem,seval])
 refine D3 (fun q:Nat × Nat × List UInt8=>[(0,.ptr t 0),(3,.str q.2.2),(4,I64 q.1)]) (fun q=>G.upd t (mkB L w q.2.1))
  (fun q c=>cc<=c/\q.1<=3/\q.2.1<=300/\RuP L w q.1 q.2.2/\q.2.2.length<=500+q.1 * 8100000) (fun q=>3-q.1) (0,j1,x3)
  (by simp [C7,tm,Tm.upd]) (Sub.refl _) ⟨(by omega),(by omega),b1,hx3,(by show x3.length<=500+0 * _;omega)⟩ ?_
 rintro ⟨i,j,s⟩ c ⟨hc,hi3,hj,hR,hl⟩;dsimp only at hc hi3 hj hR hl ⊢;have hl3:s.length<=25000000:=by have:i * 8100000<=3 * 8100000:=A1V _ hi3;omega
 by_cases h3:i<3
 ·have qi:decide ((i:Int)<3)=true:=by simp;omega
  have hdi:=c_Dec' (i:Int) (by omega) (by omega);have hdil:=O9 (n:=(i:Int)) (by omega) (by omega);obtain ⟨y1,f1,n1,c1⟩:=D1 s [109,111,100,101,32,109,111,100,101] (by (try simp)<;>omega);try simp only [A0B,A0E] at n1
  obtain ⟨y2,f2,n2,c2⟩:=D1 y1 (F9 (i:Int)) (by omega);obtain ⟨y3,f3,n3,c3⟩:=D1 y2 [32] (by (try simp)<;>omega);try simp only [A0B,A0E] at n3
  repeat' ((with_reducible first|refine wr ?_|refine cpc hdi ?_|refine k_cu ?_ ?_|refine wb2 ?_ ?_<;>(intro hb;try simp only [hb])|fail)<;>try simp only [go_sem,seval,qi,c1,c2,c3])
  refine AC.call (T7 L hL w 4 (by decide) (by decide) j hj _ _ t A0 (by omega)) ?_;rintro v' H' c4 ⟨p,j2,hp,b2,rfl,rfl⟩ hc4;rw [A1];have hdp:=c_Dec' (p:Int) (by omega) (by omega);have hdpl:=O9 (n:=(p:Int)) (by omega) (by omega);obtain ⟨y4,f4,n4,c5⟩:=D1 y3 (F9 (p:Int)) (by omega);obtain ⟨y5,f5,n5,c6⟩:=D1 y4 [32,123,10] (by (try simp)<;>omega);try simp only [A0B,A0E] at n5
  simp only [go_sem,seval,c5,c6];repeat' ((with_reducible first|refine wr ?_|refine cpc hdp ?_|refine k_cu ?_ ?_|refine wb2 ?_ ?_<;>(intro hb;try simp only [hb])|fail)<;>try simp only [go_sem,seval,c5,c6])
  refine AC.call (T7 L hL w 11 (by decide) (by decide) j2 b2 _ _ t A0 (by omega)) ?_;rintro v' H' c7 ⟨k,j3,hk,b3,rfl,rfl⟩ hc7;rw [A1];simp only [go_sem,seval];repeat' ((with_reducible first|refine wr ?_|refine k_cu ?_ ?_|refine wb2 ?_ ?_<;>(intro hb;try simp only [hb])|fail)<;>try simp only [go_sem,seval])
  refine AC.call (T7 L hL w 5 (by decide) (by decide) j3 b3 _ _ t A0 (by omega)) ?_;rintro v' H' c8 ⟨n,j4,hn,b4,rfl,rfl⟩ hc8;rw [A1];simp only [go_sem,seval];repeat' ((with_reducible first|refine wr ?_|refine k_cu ?_ ?_|refine wb2 ?_ ?_<;>(intro hb;try simp only [hb])|fail)<;>try simp only [go_sem,seval])
  have hy:y5=B9l s i p:=by rw [f5,f4,f3,f2,f1];rfl
  have ly:y5.length<=s.length+200:=by omega
  refine D3 (fun q:Nat × Nat × List (List UInt8)=>[(0,.ptr t 0),(3,.str (A0z y5 q.2.2)),(4,I64 i),(5,I64 (k+q.2.2.length:Nat)),(6,I64 q.1)]) (fun q=>G.upd t (mkB L w q.2.1))
   (fun q n=>cc<=n/\q.1+q.2.2.length<=4/\q.2.1<=300/\(∀ j x,q.2.2[j]? = some x->HdG L w (k+j) x)/\(A0z y5 q.2.2).length<=y5.length+q.2.2.length * 2001001) (fun q=>q.1) (n,j4,[])
   (by simp [C7,tm,Tm.upd,A0z]) (Sub.refl _) ⟨(by omega),(by show n+0<=4;omega),b4,(fun j x h=>by cases h),(by show y5.length<=y5.length+0 * _;omega)⟩ ?_
  clear hc8 b4 hn n j4 c8;rintro ⟨n,j5,hs⟩ c8 ⟨hc8,hn,b5,hH,lh⟩;dsimp only at hc8 hn b5 hH lh ⊢;have hs4:hs.length * 2001001<=4 * 2001001:=A1V _ (by omega);by_cases h0:0<n
  ·have qn:decide ((n:Int)>0)=true:=by simpa using h0
   have hs3:hs.length * 2001001<=3 * 2001001:=A1V _ (by omega);obtain ⟨n,rfl⟩:∃ m,n=m+1:=⟨n-1,by omega⟩;have hw1:IntKind.i64.wrap (((n+1:Nat):Int)-1)=(n:Int):=by rw [w64 (by omega) (by omega)];omega
   have hw2:IntKind.i64.wrap (((k+hs.length:Nat):Int)+1)=((k+hs.length+1:Nat):Int):=by rw [w64 (by omega) (by omega)];omega
   generalize hn1:((n+1:Nat):Int)=N1 at qn hw1 ⊢;generalize hk1:k+hs.length=K1 at hw2 ⊢;repeat' ((with_reducible first|refine wr ?_|refine k_cu ?_ ?_|refine wb2 ?_ ?_<;>(intro hb;try simp only [hb])|fail)<;>try simp only [go_sem,seval,qn])
   refine AC.call (B6m L hL w hw K1 (by omega) j5 b5 _ _ t A0 (by omega)) ?_;rintro v' H' c9 ⟨r,j6,g,l,b6,rfl,rfl⟩ hc9;obtain ⟨z1,g1,o1,d1⟩:=D1 (A0z y5 hs) r (by omega);obtain ⟨z2,g2,o2,d2⟩:=D1 z1 [10] (by (try simp)<;>omega);try simp only [A0B,A0E] at o2
   rw [A1];simp only [go_sem,seval,d1,d2,hw1,hw2];repeat' ((with_reducible first|refine wr ?_|refine k_cu ?_ ?_|refine wb2 ?_ ?_<;>(intro hb;try simp only [hb])|fail)<;>try simp only [go_sem,seval,d1,d2,hw1,hw2])
   have e1:A0z y5 (hs++[r])=z2:=by rw [B4d,g2,g1]
   have e2:(hs++[r]).length=hs.length+1:=by simp
   refine ⟨(n,j6,hs++[r]),?_,Sub.refl _,inv ⟨(by omega),(by show n+(hs++[r]).length<=4;omega),b6,(fun j x hx=>?_),(by show (A0z y5 (hs++[r])).length<=y5.length+(hs++[r]).length * 2001001;rw [e1,e2,A2P];omega)⟩,(by simp only;omega)⟩
   ·simp only [e1,e2];simp [C7,tm,Tm.upd];omega
   ·by_cases hj2:j<hs.length
    ·rw [A2L hj2] at hx;exact hH j x hx
    ·rw [A2A (by omega)] at hx;have hj3:j-hs.length=0:=by
      have:=(A0P.1 hx).1;simp at this;omega
     rw [hj3] at hx;cases hx;obtain rfl:j=hs.length:=by omega
     rw [hk1];exact g
  ·obtain rfl:n=0:=by omega
   obtain ⟨z1,g1,o1,d1⟩:=D1 (A0z y5 hs) [125,10] (by (try simp)<;>omega);try simp only [A0B,A0E] at o1
   have hw2:IntKind.i64.wrap ((i:Int)+1)=((i+1:Nat):Int):=by rw [w64 (by omega) (by omega)];omega
   repeat' ((with_reducible first|refine wr ?_|refine k_cu ?_ ?_|refine wb2 ?_ ?_<;>(intro hb;try simp only [hb])|fail)<;>try simp only [go_sem,seval,d1,hw2])
   refine ⟨(i+1,j5,z1),(by simp [C7,tm,Tm.upd]),Sub.refl _,inv ⟨(by omega),(by omega),b5,(by show RuP L w (i+1) z1;rw [g1,hy];exact .mode hR hp hk (by omega) hH),(by show z1.length<=500+(i+1) * 8100000;rw [A2P];omega)⟩,(by simp only;omega)⟩
 ·obtain rfl:i=3:=by omega
  repeat' ((with_reducible first|refine wr ?_|refine k_cu ?_ ?_|refine wb2 ?_ ?_<;>(intro hb;try simp only [hb])|fail)<;>try simp only [go_sem,seval])
  exact ⟨_,_,hfin _ _,s,j,hR,by omega,hj,rfl,rfl⟩
theorem c_New (l:List UInt8) (hl:l.length<=9223372036854775807) (H:Hp) (cc:Nat) :
  AC Tryz.prog 13 [.lst (bytesC l)] H cc (fun v H' c' => ∃ t,cc<=t/\t<c'/\v=.ptr t 0/\H'=H.upd t (mkB (l.take 300) 0 0)):=by
 refine AC.bodyT A6 rfl (A0A rfl) fun hfr=>?_;have hlen:(bytesC l).length=l.length:=by simp [bytesC]
 have hmin:(if (300:Int)<((l.length:Nat):Int) then (300:Int) else ((l.length:Nat):Int))=((min l.length 300:Nat):Int):=by split<;>omega
 have hsl:A1z H 1 (.lst (bytesC l)) none (some (I64 ((min l.length 300:Nat):Int)))=some (.lst (bytesC (l.take 300))):=by
  have hb:boundOf (bytesC l).length (some (I64 ((min l.length 300:Nat):Int)))=some (min l.length 300):=by simp [boundOf]
  have hu:Sym.unit 1 (bytesC l)=true:=by simp only [Sym.unit,bytesC,List.all_map];exact A0R.2 fun x _=>rfl
  simp only [A1z,hb];have h0:boundOf 0 none=some 0:=rfl;rw [h0];dsimp only;rw [if_pos ⟨by rw [hlen];omega,A0Z _,hu⟩];rw [A2W,Nat.sub_zero];unfold bytesC;rw [<- List.map_take];have e:l.take (min l.length 300)=l.take 300:=by
   rcases Nat.le_total l.length 300 with h|h
   ·rw [Nat.min_eq_left h,A0L (A0F _),A0L h]
   ·rw [Nat.min_eq_right h]
  rw [e]
 repeat' ((with_reducible first|refine wr ?_|refine k_cu ?_ ?_|refine wb2 ?_ ?_<;>(intro hb;try simp only [hb])|fail)<;>try simp only [go_sem,seval,hlen,hmin,hsl])
 exact ⟨_,_,GL.refl _ _,cc,A0F _,A2J _,rfl,rfl⟩
theorem C0u (l:List UInt8):DV.nlL (bytesC l)=true:=N6 (fun _=>rfl) l
end Go.Proofs.YthlpinppaclofaaGreatDoor
set_option linter.unusedSectionVars false
namespace Go.Pb
variable [Go.Sym.Tab]
open Go.Sym
def A0r (n:Nat) (l:List Tok):Prop:=(∀ t∈l,Fit t)/\l.length<=n/\A0t l<=n
theorem X9 (a b:List Tok):A0t (a++b)=A0t a+A0t b:=by simp [A0t]
theorem A0r.mono {n m:Nat} {l:List Tok} (h:A0r n l) (hm:n<=m):A0r m l:=⟨h.1,A1J h.2.1 hm,A1J h.2.2 hm⟩
def wd0 (l x:List Tok) (k:Nat):List Tok:=l.take k++x++l.drop (k+1)
def wd1 (l:List Tok) (k:Nat):List Tok:=l.take k++l.drop (k+1)
def wd2 (l x:List Tok) (k:Nat):List Tok:=l.take k++x++l.drop k
theorem A7y (l:List Tok) (k:Nat):A0t (l.drop k)+A0t (l.take k)=A0t l:=by
 have e:=X9 (l.take k) (l.drop k);rw [A3N] at e;omega
theorem B2u (l:List Tok) (k:Nat):A0t (l.drop (k+1))<=A0t (l.drop k):=by
 have:=A7y (l.drop k) 1;rw [A3Y] at this;omega
theorem A0r.drop1 {n m:Nat} {l x:List Tok} (h:A0r n l) (hx:A0r m x) (k:Nat):A0r (n+m) (wd2 l x k)/\A0r (n+m) (wd0 l x k)/\A0r (n+m) (wd1 l k):=by
 obtain ⟨h1,h2,h3⟩:=h;obtain ⟨g1,g2,g3⟩:=hx;have e1:=A7y l k;have e2:=B2u l k;have t1:∀ t∈l.take k,Fit t:=fun t ht=>h1 t (A3R ht);have t2:∀ j, ∀ t∈l.drop j,Fit t:=fun j t ht=>h1 t (A3S ht);unfold wd0 wd1 wd2;refine ⟨⟨?_,?_,?_⟩,⟨?_,?_,?_⟩,⟨?_,?_,?_⟩⟩
 ·intro t ht;rcases A1I.1 ht with ht|ht
  ·exact (A1I.1 ht).elim (t1 t) (g1 t)
  ·exact t2 _ t ht
 ·simp only [A0D,A0U,A0X];omega
 ·rw [X9,X9];omega
 ·intro t ht;rcases A1I.1 ht with ht|ht
  ·exact (A1I.1 ht).elim (t1 t) (g1 t)
  ·exact t2 _ t ht
 ·simp only [A0D,A0U,A0X];omega
 ·rw [X9,X9];omega
 ·intro t ht;rcases A1I.1 ht with ht|ht
  ·exact t1 t ht
  ·exact t2 _ t ht
 ·simp only [A0D,A0U,A0X];omega
 ·rw [X9];omega
theorem A3s:∀ (f:Nat) (s:List UInt8) (k:Nat) (acc:List Tok),(G2 f s k acc).2.2≠0->(G2 f s k acc).1=[]
 | 0,s,k,acc,h=>absurd rfl h
 | f+1,s,k,acc,h=>by
  unfold G2 at h ⊢;split at h
  ·exact absurd rfl h
  ·rename_i h1;rw [if_neg h1];split at h
   ·rename_i h2;rw [if_pos h2]
   ·rename_i h2;rw [if_neg h2];exact A3s f _ _ _ h
theorem C1u (s:List UInt8):A0r 20000 (C0 s).1:=by
 by_cases h:(C0 s).2.2=0
 ·obtain ⟨h1,h2⟩:=W1 h;have h3:=h2.len (P9 false s);exact ⟨fun t ht=>(A2o h t ht).fit,by omega,by omega⟩
 ·have e:(C0 s).1=[]:=by
   unfold C0 at h ⊢;split at h
   ·rename_i h1;rw [if_pos h1]
   ·rename_i h1;rw [if_neg h1];exact A3s _ _ _ _ h
  rw [e];exact ⟨fun t ht=>(by cases ht),A0Z _,A0Z _⟩
theorem A0r.text {n:Nat} {l:List Tok} (h:A0r n l):(U7 l).length<=2 * n:=by
 have h1:=A6s B4u l 0;obtain ⟨_,h2,h3⟩:=h;unfold U7;omega
end Go.Pb
namespace Go.Pb
variable [Go.Sym.Tab]
open Go.Sym
theorem A5u {α : Type} {F : α -> DV} {u:Nat} (h:∀ a,(F a).cells.length=u) (l:List α):unit u (l.map F)=true:=by
 unfold unit;rw [A0R];intro x hx;obtain ⟨a, -,rfl⟩:=A1K.1 hx;simp [h a]
end Go.Pb
namespace Go.Proofs.YthlpinppaclofaaGreatDoor
open Go.Eng (IC IOper DReg IFn B4)
open Go.Sym Go.Pb
def B7i:List (List UInt8):=[[123],[125],[40],[41],[59],[44],[61],[43],[45],[42],[33],[60],[61,61],[38,38],[105,102],[101,108,115,101],[114,101,112,101,97,116],[111,110],[109,111,100,101],[120],[55],[34,115,34],[99,108,111,115,101,100],[108,101,102,116],[116,114,117,101],[115,116,97,114,116],[116,105,109,101,114],[118,97,114],[115,99,111,114,101],[99,111,110,115,117,109,101]]
theorem B7z {H:Hp} (t:List Tok) {k:Nat} (h:k<=t.length):A1z H 4 (O4 t) none (some (I64 k))=some (O4 (t.take k)):=by
 have hb:boundOf (t.map Tok.v).length (some (I64 k))=some k:=by simp [boundOf]
 have h0:boundOf 0 none=some 0:=rfl;simp only [A1z,hb,h0];rw [if_pos ⟨by simpa using h,A0Z _,A5u (F:=Tok.v) (u:=4) (fun _=>rfl) t⟩,A2W,Nat.sub_zero, <- List.map_take]
theorem B1a {H:Hp} (t:List Tok) {k:Nat} (h:k<=t.length):A1z H 4 (O4 t) (some (I64 k)) none=some (O4 (t.drop k)):=by
 have hb:boundOf (t.map Tok.v).length none=some (t.map Tok.v).length:=rfl;have h0:boundOf 0 (some (I64 k))=some k:=by simp [boundOf]
 simp only [A1z,hb,h0];rw [if_pos ⟨A0F _,by simpa using h,A5u (F:=Tok.v) (u:=4) (fun _=>rfl) t⟩, <- List.map_drop,A0L (by simp)]
theorem A1e {H M:Hp} {o:Option Nat} {A:List Tok} (B:List Tok) {c:Nat} (hA:o=none->A=[]) (hi:∀ i,o=some i->H i=none/\i<c) (hl:(A++B).length<=1000000) :
  ∃ o' c',apX (B9 H o ⟨4,true,A3 (A.map Tok.v)⟩) c 4 40 (B3 o A.length) (U8 M 4 (O4 B))=some (B3 o' (A++B).length,B9 H o' ⟨4,true,A3 ((A++B).map Tok.v)⟩,c')/\c<=c'/\(o'=none->A++B=[])/\(∀ i,o'=some i->i=c/\c'=c+1):=by
 have hs:U8 M 4 (O4 B)=some (B.length,A3 (B.map Tok.v)):=by
  rw [B8k (A5u (F:=Tok.v) (u:=4) (fun _=>rfl) B),A0H]
 have hlen:=hl;rw [A0D] at hlen;rw [hs,C4k];cases o with
 | none =>
  obtain rfl:=hA rfl;cases B with
  | nil=>exact ⟨none,c,rfl,A0F _,fun _=>rfl,fun i h=>by cases h⟩
  | cons b B =>
   refine ⟨some c,c+1,?_,A2U _,(fun h=>by cases h),fun i h=>by cases h;exact ⟨rfl,rfl⟩⟩;simp only [B3,B9,A2H,A0E];exact A2r (by simp) (by simp only [A0B] at hlen ⊢;omega) (by simp only [A0B] at hlen ⊢;omega)
 | some i =>
  obtain ⟨h1,h2⟩:=hi i rfl;refine ⟨some c,c+1,?_,A2U _,(fun h=>by cases h),fun i h=>by cases h;exact ⟨rfl,rfl⟩⟩;simp only [B3,B9];rw [B3g,A0,E2 (by rw [C8 (u:=4) (P6 _),A0H]) (by omega) (by omega),A0D,A1B,E0]
  congr 3
  funext j
  by_cases e:j=c
  ·subst e;rw [A0,A0]
  ·rw [A2 e,A2 e];by_cases e2:j=i
   ·subst e2;rw [R9,h1]
   ·rw [C2 e2,A2 e2]
theorem B4c {H:Hp} {o:Option Nat} {n:Nat} {xs ds es:List DV} (hn:o=none->xs=[]) (hs:∀ i,o=some i->H i=none) (hl:xs.length=n) (hu:∀ x∈xs,x.cells.length=4) :
  GL (B9 H o ⟨4,true,A3 xs⟩) (ds++[B3 o n]++es) H (ds++[.lst xs]++es):=by
 cases o with
 | none =>
  obtain rfl:=hn rfl;refine GL.view fun ρ vs hA=>?_;refine ⟨by have:=hA.1;simpa using this,fun i x y hx hy=>?_⟩;rcases C2v (x:=DV.snil) hx with h|⟨rfl,h⟩
  ·exact hA.2 i x y h hy
  ·exact (hA.2 i _ y h hy).snil_lst
 | some i =>
  have h1:=hs i rfl;exact GL.frzS (id:=i) A0 rfl (fun j=>by
   by_cases e:j=i
   ·subst e;exact .inl h1
   ·exact .inr ⟨e,(A2 e).symm⟩) (FzL.app (FzL.app (FzL.refl _) (.cons _ _ _ _ (J8 (blk:=⟨4,true,A3 xs⟩) hl hu ⟨[],by simp⟩) .nil)) (FzL.refl _))
end Go.Proofs.YthlpinppaclofaaGreatDoor
namespace Go.Pb
variable [Go.Sym.Tab]
open Go.Sym
theorem B8g {s:List UInt8} {n:Nat} (hn:s.length<=n):A0r n (C0 s).1:=by
 by_cases h:(C0 s).2.2=0
 ·have hl:=A8e s;have hr:=(W1 h).2.len (P9 false s);exact ⟨fun t ht=>(A2o h t ht).fit,by omega,by omega⟩
 ·have:(C0 s).1=[]:=by
   unfold C0 at h ⊢;split
   ·rfl
   ·rename_i g;rw [if_neg g] at h;exact A3s _ _ _ _ h
  rw [this];exact ⟨fun t ht=>(by cases ht),A0Z _,A0Z _⟩
end Go.Pb
namespace Go.Proofs.YthlpinppaclofaaGreatDoor
open Go.Eng (IC IOper DReg IFn B4)
open Go.Sym Go.Pb
theorem c_Words3 (l:List UInt8) (hl:l.length<=9223372036854775807) (m:List UInt8) (hm:m.length<=9223372036854775807) (H:Hp) (cc:Nat) :
  AC Tryz.prog 17 [.lst (bytesC l),.lst (bytesC m)] H cc (fun v H' c' => ∃ s,s.length<=100000/\v=.str s/\H'=H):=by
 have h300:(l.take 300).length<=300:=by rw [A0U];omega
 refine AC.bodyT A6 rfl (A0A rfl) fun hfr=>?_;repeat' ((with_reducible first|refine wr ?_|refine k_cu ?_ ?_|refine wb2 ?_ ?_<;>(intro hb;try simp only [hb])|fail)<;>try simp only [go_sem,seval])
 refine AC.call (c_New l hl _ _) ?_;rintro v' H' c2 ⟨t,ht1,ht2,rfl,rfl⟩ hc2;simp only [go_sem,seval,A0,A1];repeat' ((with_reducible first|refine wr ?_|refine k_cu ?_ ?_|refine wb2 ?_ ?_<;>(intro hb;try simp only [hb])|fail)<;>try simp only [go_sem,seval,A0,A1])
 refine AC.call (C2x (l.take 300) h300 0 (by omega) 0 (by omega) _ _ t A0 (by omega)) ?_;rintro v' H' c3 ⟨s,j,g,ls,b,rfl,rfl⟩ hc3;have hsc:=c_ScanR s (by omega);have hwk:=C1u s;clear g;rw [A1];generalize (C0 s)=q at hsc hwk;obtain ⟨T,q1,q2⟩:=q;dsimp only at hsc hwk;have ne0:=Q3 t c3 (by omega);simp only [go_sem,seval,ne0,A0,A1];repeat' ((with_reducible first|refine E1 (p:=IW _ _ (pz Tryz.prog 17 (.o (.i (.o .h)))) _ _) ?_|refine wr ?_|refine cpc hsc ?_|refine k_cu ?_ ?_|refine wb2 ?_ ?_<;>(intro hb;try simp only [hb])|fail)<;>try simp only [go_sem,seval,ne0,A0,A1])
 unfold U5;have hcl:∀ j,cc<=j->H j=none:=hfr;refine IW.keep [1,5,8,9] [.lst (bytesC m),O4 T,strs B7i,I64 0] (GL.frzS (id:=c3) (H':=H) A0 rfl (fun j=>by
   by_cases e:j=c3
   ·subst e;exact .inl (hcl _ (by omega))
   ·by_cases e2:j=t
    ·subst e2;exact .inl (hcl _ (by omega))
    ·exact .inr ⟨e,by rw [A2 e,A2 e2]⟩)
  (.cons _ _ _ _ (.same _) (.cons _ _ _ _ (.same _) (.cons _ _ _ _ (J8 (u:=1) (xs:=B7i.map DV.str) rfl (G4 _) ⟨[],rfl⟩) (FzL.refl _))))) ?_
 simp only [A3B,A4A];have hp30:B7i.length=30:=rfl;have hpl:∀ x∈B7i,x.length<=100:=by decide
 generalize B7i=P at hp30 hpl;repeat' ((with_reducible first|refine wr ?_|refine k_cu ?_ ?_|refine wb2 ?_ ?_<;>(intro hb;try simp only [hb])|fail)<;>try simp only [go_sem,seval])
 refine D3 (fun q:Nat × List Tok=>[(1,.lst (bytesC m)),(5,O4 q.2),(8,strs P),(9,I64 (2 * q.1:Nat))]) (fun _=>H) (fun q c=>cc<=c/\q.1<=3/\A0r (20000+100 * q.1) q.2) (fun q=>3-q.1) (0,T) (by simp [C7,tm,Tm.upd]) (Sub.refl _) ⟨by omega,by omega,by simpa using hwk⟩ ?_;clear hwk hsc;rintro ⟨k,T⟩ c ⟨hc,hk,hwk⟩;dsimp only at hc hk hwk ⊢;obtain ⟨f1,f2,f3⟩:=hwk;have hend:∀ c',cc<=c'->True:=fun _ _=>trivial;have hw1:IntKind.i64.wrap (((2 * k:Nat):Int)+1)=((2 * k+1:Nat):Int):=by rw [w64 (by omega) (by omega)];omega
 have htx:=c_TextR T (by omega) f1;have htl:=A0r.text (l:=T) ⟨f1,f2,f3⟩;have hT:(U7 T).length<=100000:=by omega
 have hbl:(bytesC m).length=m.length:=by simp [bytesC]
 by_cases h1:2 * k+1<m.length
 ·have d1:decide (((2 * k+1:Nat):Int)<(m.length:Int))=true:=by simp;omega
  by_cases h2:k<3
  ·have d2:decide (((2 * k:Nat):Int)<6)=true:=by simp;omega
   by_cases h3:0<T.length
   ·have d3:decide ((T.length:Int)>0)=true:=by simp;omega
    have g1:=A2i (A0C (show 2 * k<m.length by omega));have g2:=A2i (A0C h1);have hx:=(m[2 * k]'(by omega)).toNat_lt;have hy:=(m[2 * k+1]'h1).toNat_lt;generalize m[2 * k]'(by omega)=x at g1 hx;generalize m[2 * k+1]'h1=y at g2 hy;have hw2:IntKind.i64.wrap ((x.toNat:Nat):Int)=((x.toNat:Nat):Int):=w64 (by omega) (by omega);have hw3:IntKind.i64.wrap ((y.toNat:Nat):Int)=((y.toNat:Nat):Int):=w64 (by omega) (by omega);have hmul:x.toNat * T.length<=255 * T.length:=A1V _ (by omega);have hw4:IntKind.i64.wrap ((x.toNat:Int) * (T.length:Int))=((x.toNat * T.length:Nat):Int):=by rw [<- Int.natCast_mul];exact w64 (by omega) (by omega)
    have hq:binR .quo (I64 ((x.toNat * T.length:Nat):Int)) (I64 256)=some (I64 ((x.toNat * T.length / 256:Nat):Int)):=by
     rw [B1i (by decide)];have:(((x.toNat * T.length:Nat):Int)).tdiv 256=((x.toNat * T.length / 256:Nat):Int):=rfl;rw [this,w64 (by omega) (by omega)]
    have hr:binR .rem (I64 (y.toNat:Int)) (I64 30)=some (I64 ((y.toNat % 30:Nat):Int)):=by rw [A8f (by decide)];rfl
    have hq2:binR .quo (.int .u8 (y.toNat:Int)) (.int .u8 90)=some (.int .u8 ((y.toNat / 90:Nat):Int)):=by
     rw [B1i (by decide)];have:((y.toNat:Nat):Int).tdiv 90=((y.toNat / 90:Nat):Int):=rfl;rw [this];have:IntKind.u8.wrap ((y.toNat / 90:Nat):Int)=((y.toNat / 90:Nat):Int):=by unfold IntKind.wrap;simp [IntKind.bits];omega
     rw [this]
    have hK:x.toNat * T.length / 256<T.length:=by omega
    generalize x.toNat * T.length / 256=K at hq hK;have hgp:=A0C (show y.toNat % 30<P.length by omega);have hpm:=hpl _ (A0W (show y.toNat % 30<P.length by omega));generalize P[y.toNat % 30]'(by omega)=z at hgp hpm;have hsx:=c_ScanR z (by omega);have hxk:=B8g hpm;generalize (C0 z)=q at hsx hxk;obtain ⟨X,q1,q2⟩:=q;dsimp only at hsx hxk;have hwn:IntKind.i64.wrap ((2 * k:Nat)+2:Int)=((2 * (k+1):Nat):Int):=by rw [w64 (by omega) (by omega)];omega
    have t1:=fun H=>B7z (H:=H) T (k:=K) (by omega);have t2:=fun H=>B1a (H:=H) T (k:=K) (by omega);have t3:=fun H=>B1a (H:=H) T (k:=K+1) (by omega);have hw5:IntKind.i64.wrap ((K:Int)+1)=((K+1:Nat):Int):=by rw [w64 (by omega) (by omega)];omega
    repeat' ((with_reducible first|refine wr ?_|refine cpc hsx ?_|refine k_cu ?_ ?_|refine wb2 ?_ ?_<;>(intro hb;try simp only [hb])|fail)<;>try simp only [go_sem,seval,hbl,hw1,d1,d2,d3,g1,g2,hw2,hw3,hw4,hw5,hq,hr,hq2,hgp,hp30,hwn,t1,t2,t3,A0H])
    ·obtain ⟨o1,c1,e1,n1,n2,n3⟩:=A1e (H:=H) (M:=H) (o:=none) (A:=[]) (T.take K) (c:=c+12) (fun _=>rfl) (fun i h=>by cases h) (by simp;omega);replace e1:apX H (c+12) 4 40 .snil (U8 H 4 (O4 (T.take K)))=some (B3 o1 (T.take K).length,B9 H o1 ⟨4,true,A3 ((T.take K).map Tok.v)⟩,c1):=e1;have nn:∀ i b,i<12->B9 H o1 b (c+i)=none:=fun i b h=>by rw [C4 (fun j hj=>by have:=n3 j hj;omega)];exact hfr _ (by omega)
     rw [e1];simp only [go_sem,seval];repeat' ((with_reducible first|refine wr ?_|refine k_cu ?_ ?_|refine wb2 ?_ ?_<;>(intro hb;try simp only [hb])|fail)<;>try simp only [go_sem,seval,hbl,t1,t2,t3,A0H,hw5])
     refine ⟨⟨nn 4 _ (by decide),nn 6 _ (by decide),nn 7 _ (by decide),⟨by rw [hw5],nn 8 _ (by decide)⟩,?_⟩,?_⟩
     ·have:=t3 (B9 H o1 ⟨4,true,A3 ((T.take K).map Tok.v)⟩);rw [this];exact ⟨rfl,nn 9 _ (by decide)⟩
     obtain ⟨o2,c2,me,m1,m2,m3⟩:=A1e (H:=H) (M:=B9 H o1 ⟨4,true,A3 ((T.take K).map Tok.v)⟩) (o:=o1) (A:=T.take K) X (c:=c1) n2 (fun i h=>⟨hfr _ (by have:=n3 i h;omega),by have:=n3 i h;omega⟩) (by have:=hxk.2.1;simp;omega);rw [me];simp only [go_sem,seval];repeat' ((with_reducible first|refine wr ?_|refine k_cu ?_ ?_|refine wb2 ?_ ?_<;>(intro hb;try simp only [hb])|fail)<;>try simp only [go_sem,seval,hbl,t1,t2,t3,A0H,hw5])
     have mn:∀ i b,i<12->B9 H o2 b (c+i)=none:=fun i b h=>by rw [C4 (fun j hj=>by have:=m3 j hj;omega)];exact hfr _ (by omega)
     refine ⟨⟨mn 6 _ (by decide),mn 7 _ (by decide),⟨by rw [hw5],mn 8 _ (by decide)⟩,?_⟩,?_⟩
     ·have:=t3 (B9 H o2 ⟨4,true,A3 ((T.take K++X).map Tok.v)⟩);rw [this];exact ⟨rfl,mn 9 _ (by decide)⟩
     obtain ⟨o3,c3,pe,p1,p2,p3⟩:=A1e (H:=H) (M:=B9 H o2 ⟨4,true,A3 ((T.take K++X).map Tok.v)⟩) (o:=o2) (A:=T.take K++X) (T.drop (K+1)) (c:=c2) m2 (fun i h=>⟨hfr _ (by have:=m3 i h;omega),by have:=m3 i h;omega⟩) (by have:=hxk.2.1;simp;omega);rw [pe];simp only [go_sem,seval];repeat' ((with_reducible first|refine E1 (p:=IW _ _ (pz Tryz.prog 17 (.o (.o (.i (.o (.o .h)))))) _ _) ?_|refine wr ?_|refine k_cu ?_ ?_|refine wb2 ?_ ?_<;>(intro hb;try simp only [hb])|fail)<;>try simp only [go_sem,seval,hbl,t1,t2,t3,A0H,hw5])
     unfold U5;have hwk:=(A0r.drop1 (l:=T) ⟨f1,f2,f3⟩ hxk K).2.1;refine IW.keep [1,5,8,9] [.lst (bytesC m),O4 (T.take K++X++T.drop (K+1)),strs P,I64 (2 * k:Nat)] (B4c (ds:=[.lst (bytesC m)]) (es:=[strs P,I64 (2 * k:Nat)]) (fun h=>by rw [p2 h];rfl) (fun i h=>hfr _ (by have:=p3 i h;omega)) (by rw [A0H]) (P6 _)) ?_;simp only [A3B,A4A];repeat' ((with_reducible first|refine wr ?_|refine k_cu ?_ ?_|refine wb2 ?_ ?_<;>(intro hb;try simp only [hb])|fail)<;>try simp only [go_sem,seval,hwn])
     exact ⟨(k+1,T.take K++X++T.drop (K+1)),by simp [C7,tm,Tm.upd],Sub.refl _,inv ⟨by omega,by omega,hwk.mono (by omega)⟩,by simp only;omega⟩
    ·obtain ⟨o1,c1,e1,n1,n2,n3⟩:=A1e (H:=H) (M:=H) (o:=none) (A:=[]) (T.take K) (c:=c+10) (fun _=>rfl) (fun i h=>by cases h) (by simp;omega);replace e1:apX H (c+10) 4 40 .snil (U8 H 4 (O4 (T.take K)))=some (B3 o1 (T.take K).length,B9 H o1 ⟨4,true,A3 ((T.take K).map Tok.v)⟩,c1):=e1;have nn:∀ i b,i<10->B9 H o1 b (c+i)=none:=fun i b h=>by rw [C4 (fun j hj=>by have:=n3 j hj;omega)];exact hfr _ (by omega)
     rw [e1];simp only [go_sem,seval];repeat' ((with_reducible first|refine wr ?_|refine k_cu ?_ ?_|refine wb2 ?_ ?_<;>(intro hb;try simp only [hb])|fail)<;>try simp only [go_sem,seval,hbl,t1,t2,t3,A0H,hw5])
     refine ⟨⟨nn 4 _ (by decide),nn 5 _ (by decide),⟨by rw [hw5],nn 6 _ (by decide)⟩,?_⟩,?_⟩
     ·have:=t3 (B9 H o1 ⟨4,true,A3 ((T.take K).map Tok.v)⟩);rw [this];exact ⟨rfl,nn 7 _ (by decide)⟩
     obtain ⟨o2,c2,me,m1,m2,m3⟩:=A1e (H:=H) (M:=B9 H o1 ⟨4,true,A3 ((T.take K).map Tok.v)⟩) (o:=o1) (A:=T.take K) (T.drop (K+1)) (c:=c1) n2 (fun i h=>⟨hfr _ (by have:=n3 i h;omega),by have:=n3 i h;omega⟩) (by have:=hxk.2.1;simp;omega);rw [me];simp only [go_sem,seval];repeat' ((with_reducible first|refine E1 (p:=IW _ _ (pz Tryz.prog 17 (.o (.o (.i (.o (.o .h)))))) _ _) ?_|refine wr ?_|refine k_cu ?_ ?_|refine wb2 ?_ ?_<;>(intro hb;try simp only [hb])|fail)<;>try simp only [go_sem,seval,hbl,t1,t2,t3,A0H,hw5])
     unfold U5;have hwk:=(A0r.drop1 (l:=T) ⟨f1,f2,f3⟩ hxk K).2.2;refine IW.keep [1,5,8,9] [.lst (bytesC m),O4 (T.take K++T.drop (K+1)),strs P,I64 (2 * k:Nat)] (B4c (ds:=[.lst (bytesC m)]) (es:=[strs P,I64 (2 * k:Nat)]) (fun h=>by rw [m2 h];rfl) (fun i h=>hfr _ (by have:=m3 i h;omega)) (by rw [A0H]) (P6 _)) ?_;simp only [A3B,A4A];repeat' ((with_reducible first|refine wr ?_|refine k_cu ?_ ?_|refine wb2 ?_ ?_<;>(intro hb;try simp only [hb])|fail)<;>try simp only [go_sem,seval,hwn])
     exact ⟨(k+1,T.take K++T.drop (K+1)),by simp [C7,tm,Tm.upd],Sub.refl _,inv ⟨by omega,by omega,hwk.mono (by omega)⟩,by simp only;omega⟩
    ·obtain ⟨o1,c1,e1,n1,n2,n3⟩:=A1e (H:=H) (M:=H) (o:=none) (A:=[]) (T.take K) (c:=c+11) (fun _=>rfl) (fun i h=>by cases h) (by simp;omega);replace e1:apX H (c+11) 4 40 .snil (U8 H 4 (O4 (T.take K)))=some (B3 o1 (T.take K).length,B9 H o1 ⟨4,true,A3 ((T.take K).map Tok.v)⟩,c1):=e1;have nn:∀ i b,i<11->B9 H o1 b (c+i)=none:=fun i b h=>by rw [C4 (fun j hj=>by have:=n3 j hj;omega)];exact hfr _ (by omega)
     rw [e1];simp only [go_sem,seval];repeat' ((with_reducible first|refine wr ?_|refine k_cu ?_ ?_|refine wb2 ?_ ?_<;>(intro hb;try simp only [hb])|fail)<;>try simp only [go_sem,seval,hbl,t1,t2,t3,A0H,hw5])
     refine ⟨⟨nn 4 _ (by decide),nn 6 _ (by decide),nn 7 _ (by decide),?_⟩,?_⟩
     ·have:=t2 (B9 H o1 ⟨4,true,A3 ((T.take K).map Tok.v)⟩);rw [this];exact ⟨rfl,nn 8 _ (by decide)⟩
     obtain ⟨o2,c2,me,m1,m2,m3⟩:=A1e (H:=H) (M:=B9 H o1 ⟨4,true,A3 ((T.take K).map Tok.v)⟩) (o:=o1) (A:=T.take K) X (c:=c1) n2 (fun i h=>⟨hfr _ (by have:=n3 i h;omega),by have:=n3 i h;omega⟩) (by have:=hxk.2.1;simp;omega);rw [me];simp only [go_sem,seval];repeat' ((with_reducible first|refine wr ?_|refine k_cu ?_ ?_|refine wb2 ?_ ?_<;>(intro hb;try simp only [hb])|fail)<;>try simp only [go_sem,seval,hbl,t1,t2,t3,A0H,hw5])
     have mn:∀ i b,i<11->B9 H o2 b (c+i)=none:=fun i b h=>by rw [C4 (fun j hj=>by have:=m3 j hj;omega)];exact hfr _ (by omega)
     refine ⟨⟨mn 6 _ (by decide),mn 7 _ (by decide),?_⟩,?_⟩
     ·have:=t2 (B9 H o2 ⟨4,true,A3 ((T.take K++X).map Tok.v)⟩);rw [this];exact ⟨rfl,mn 8 _ (by decide)⟩
     obtain ⟨o3,c3,pe,p1,p2,p3⟩:=A1e (H:=H) (M:=B9 H o2 ⟨4,true,A3 ((T.take K++X).map Tok.v)⟩) (o:=o2) (A:=T.take K++X) (T.drop K) (c:=c2) m2 (fun i h=>⟨hfr _ (by have:=m3 i h;omega),by have:=m3 i h;omega⟩) (by have:=hxk.2.1;simp;omega);rw [pe];simp only [go_sem,seval];repeat' ((with_reducible first|refine E1 (p:=IW _ _ (pz Tryz.prog 17 (.o (.o (.i (.o (.o .h)))))) _ _) ?_|refine wr ?_|refine k_cu ?_ ?_|refine wb2 ?_ ?_<;>(intro hb;try simp only [hb])|fail)<;>try simp only [go_sem,seval,hbl,t1,t2,t3,A0H,hw5])
     unfold U5;have hwk:=(A0r.drop1 (l:=T) ⟨f1,f2,f3⟩ hxk K).1;refine IW.keep [1,5,8,9] [.lst (bytesC m),O4 (T.take K++X++T.drop K),strs P,I64 (2 * k:Nat)] (B4c (ds:=[.lst (bytesC m)]) (es:=[strs P,I64 (2 * k:Nat)]) (fun h=>by rw [p2 h];rfl) (fun i h=>hfr _ (by have:=p3 i h;omega)) (by rw [A0H]) (P6 _)) ?_;simp only [A3B,A4A];repeat' ((with_reducible first|refine wr ?_|refine k_cu ?_ ?_|refine wb2 ?_ ?_<;>(intro hb;try simp only [hb])|fail)<;>try simp only [go_sem,seval,hwn])
     exact ⟨(k+1,T.take K++X++T.drop K),by simp [C7,tm,Tm.upd],Sub.refl _,inv ⟨by omega,by omega,hwk.mono (by omega)⟩,by simp only;omega⟩
   ·have d3:decide ((T.length:Int)>0)=false:=decide_eq_false (by omega);repeat' ((with_reducible first|refine wr ?_|refine cpc htx ?_|refine k_cu ?_ ?_|refine wb2 ?_ ?_<;>(intro hb;try simp only [hb])|fail)<;>try simp only [go_sem,seval,hbl,hw1,d1,d2,d3,A0H])
    exact ⟨_,_,GL.refl _ _,U7 T,hT,rfl,rfl⟩
  ·have d2:decide (((2 * k:Nat):Int)<6)=false:=by simp;omega
   repeat' ((with_reducible first|refine wr ?_|refine cpc htx ?_|refine k_cu ?_ ?_|refine wb2 ?_ ?_<;>(intro hb;try simp only [hb])|fail)<;>try simp only [go_sem,seval,hbl,hw1,d1,d2,A0H])
   all_goals exact ⟨_,_,GL.refl _ _,U7 T,hT,rfl,rfl⟩
 ·have d1:decide (((2 * k+1:Nat):Int)<(m.length:Int))=false:=by simp;omega
  repeat' ((with_reducible first|refine wr ?_|refine cpc htx ?_|refine k_cu ?_ ?_|refine wb2 ?_ ?_<;>(intro hb;try simp only [hb])|fail)<;>try simp only [go_sem,seval,hbl,hw1,d1,A0H])
  all_goals exact ⟨_,_,GL.refl _ _,U7 T,hT,rfl,rfl⟩
theorem c_SyntaxWords3 (l:List UInt8) (hl:l.length<=9223372036854775807) (m:List UInt8) (hm:m.length<=9223372036854775807):PC Tryz.prog 4 [.lst (bytesC l),.lst (bytesC m)] (.bool true):=by
 have hs:=c_sane31;refine PC.ofT A6 rfl (A0A rfl) (by simp [DV.nlL,DV.nl,C0u]) rfl ?_;repeat' ((with_reducible first|refine wr ?_|refine k_cu ?_ ?_|refine wb2 ?_ ?_<;>(intro hb;try simp only [hb])|fail)<;>try simp only [go_sem,seval])
 refine AC.call (c_Words3 l hl m hm _ _) ?_;rintro v' H' c2 ⟨s,hsl,rfl,rfl⟩ hc2;have hp:=c_parses s (by omega);simp only [go_sem,seval];repeat' ((with_reducible first|refine wr ?_|refine cpc hp ?_|refine cpc hs ?_|refine k_cu ?_ ?_|refine wb2 ?_ ?_<;>(intro hb;try simp only [hb])|fail)<;>try simp only [go_sem,seval])
 all_goals exact A5 rfl
end Go.Proofs.YthlpinppaclofaaGreatDoor
end

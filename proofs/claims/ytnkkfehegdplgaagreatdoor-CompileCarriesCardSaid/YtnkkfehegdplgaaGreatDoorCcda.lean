/-
  HELPERS of the claim: part 1 of its texts.
-/
import Derived.WalkKit
import Derived.ProofKit
namespace Go
theorem a8{G:Prop}(h:G:=by omega):G:=h
theorem b8{G:Prop}(h:G:=by kernel_rfl):G:=h
theorem b9{G:Prop}(h:G:=by simp;omega):G:=h
theorem g9{G:Prop}(h:G:=by simp only;omega):G:=h
theorem i6{G:Prop}(h:G:=by simp[B5,tm,Tm.upd]):G:=h
theorem j8{G:Prop}(h:G:=by grind):G:=h
theorem j9{G:Prop}(h:G:=by first|exact GL.refl _ _|exact B4p hfr htc (by omega)|exact A5o hfr htc (by omega)):G:=h
theorem l8{G:Prop}(h:G:=by rw[w6z];omega):G:=h
theorem l9{G:Prop}(h:G:=by trivial):G:=h
theorem m0{G:Prop}(h:G:=by and_intros<;>first|rfl|((repeat rw[hnO]);exact hfr _ (by omega))):G:=h
theorem m9{G:Prop}(h:G:=by and_intros<;>(repeat rw[hnO])<;>exact hbn _ (by omega)):G:=h
theorem n7{G:Prop}(h:G:=by decide):G:=h
theorem n8{G:Prop}(h:G:=by rw[B9 (λi hi=>by have:=ho i hi;omega),A0]):G:=h
theorem n9{G:Prop}(h:G:=by and_intros<;>(repeat rw[hnO])<;>rfl):G:=h
theorem o5{G:Prop}(h:G:=by(try simp only[A0A,A0C,A0M]);omega):G:=h
theorem o6{G:Prop}(h:G:=by rw[B9 (λi hi=>by have:=ho i hi;omega),hnO,hnO,A0]):G:=h
theorem o7{G:Prop}(h:G:=by simp only[hfin,EH,optH,todoV,A0j,A0A,A0I];(intro j b hj;simp only[Hp.upd,Hp.del,Sym.nil,B1n,optH,EH]at hj ⊢;(repeat' split at hj)<;>(repeat' split)<;>first|exact hj|(exfalso;omega)|cases hj)):G:=h
theorem o8{G:Prop}(h:G:=by simp only[EH,optH,todoV,A0j,A0A,A0I];(intro j b hj;simp only[Hp.upd,Hp.del,Sym.nil,B1n,optH,EH]at hj ⊢;(repeat' split at hj)<;>(repeat' split)<;>first|exact hj|(exfalso;omega)|cases hj)):G:=h
theorem o9{G:Prop}(h:G:=by simp only[Ren.upd,show j≠c by omega,if_false]):G:=h
theorem r7{G:Prop}(h:G:=by rw[B9 (λi hi=>by have:=ho i hi;omega),hnO,A0]):G:=h
theorem r8{G:Prop}(h:G:=by show 1<=1+_+_;omega):G:=h
theorem r9{G:Prop}(h:G:=by rw[<- decide_not];exact decide_eq_decide.2 (by omega)):G:=h
theorem u5{G:Prop}(h:G:=by subst hi;exact A0):G:=h
theorem u6{G:Prop}(h:G:=by(intro j b hj;simp only[Hp.upd,Hp.del,Sym.nil,B1n,optH]at hj ⊢;(repeat' split at hj)<;>(repeat' split)<;>first|exact hj|(exfalso;omega)|cases hj)):G:=h
theorem u7{G:Prop}(h:G:=by simp only[A0A,A0I];omega):G:=h
theorem v6{G:Prop}(h:G:=by cases k<;>rfl):G:=h
theorem v7{G:Prop}(h:G:=by simp only[A0A,A0I];rfl):G:=h
theorem v8{G:Prop}(h:G:=by cases b<;>simp_all[N7]):G:=h
theorem w5{G:Prop}(h:G:=by cases b<;>simp[N7]at h):G:=h
theorem w6{G:Prop}(h:G:=by apply Array.ext';simpa using hats):G:=h
theorem w7{G:Prop}(h:G:=by obtain⟨y, -,rfl⟩:=A0X.1 hx;rfl):G:=h
theorem w9{G:Prop}(h:G:=by simpa using h1):G:=h
theorem y6{G:Prop}(h:G:=by simp[B5l,asc,A2g e r (k+1)]):G:=h
theorem y7{G:Prop}(h:G:=by simp[B5,tm,Tm.upd,todoV,e0]):G:=h
theorem y8{G:Prop}(h:G:=by cases h):G:=h
theorem y9{G:Prop}(h:G:=by rw[B9 (λi hi=>by have:=ho i hi;omega),hnO,hnO,hnO];exact hfr j (by omega)):G:=h
theorem z6{G:Prop}(h:G:=by assumption):G:=h
theorem z7{G:Prop}(h:G:=by rcases hH0 j with h0|h0<;>rw[h0]at h1;exact absurd h1 (by simp);exact h1):G:=h
theorem z8{G:Prop}(h:G:=by cases b<;>simp[N7]at h ⊢):G:=h
theorem zaa{G:Prop}(h:G:=by rw[C9t h (by simp)];rfl):G:=h
theorem zab{G:Prop}(h:G:=by simpa using hn):G:=h
theorem zac{G:Prop}(h:G:=by show 1<=1+_;omega):G:=h
theorem zad{G:Prop}(h:G:=by rw[hG,hnO];exact hfr j (by omega)):G:=h
theorem zae{G:Prop}(h:G:=by simp_all):G:=h
theorem zaf{G:Prop}(h:G:=by simp[B5,tm,Tm.upd,todoV,hw,hw']):G:=h
theorem zag{G:Prop}(h:G:=by rw[hnO];exact hbn _ (by omega)):G:=h
end Go
set_option linter.defProp false
namespace Go
def A0A:=@List.length_append
def A0B:=@List.getElem?_eq_getElem
def A0C:=@List.length_cons
def A0D:=@List.mem_cons_of_mem
def A0E:=@Nat.le_refl
def A0F:=@Nat.le_of_ble_eq_true
def A0G:=@Bool.and_eq_true
def A0H:=@List.mem_cons_self
def A0I:=@List.length_singleton
def A0J:=@List.take_of_length_le
def A0K:=@List.append_assoc
def A0L:=@decide_eq_true_eq
def A0M:=@List.length_nil
def A0N:=@List.length_map
def A0O:=@List.getElem_mem
def A0P:=@List.map_cons
def A0Q:=@Nat.zero_le
def A0R:=@List.all_eq_true
def A0S:=@List.map_append
def A0T:=@Option.map_eq_some_iff
def A0U:=@List.mem_cons
def A0V:=@List.take_add_one
def A0W:=@List.mem_of_getElem?
def A0X:=@List.mem_map
def A0Y:=@List.take_succ_cons
def A0Z:=@Array.getElem?_eq_some_iff
def A1A:=@List.mem_append
def A1B:=@Nat.le_trans
def A1C:=@List.length_take
def A1D:=@List.append_nil
def A1E:=@Option.or_eq_none_iff
def A1F:=@Nat.zero_add
def A1G:=@List.getElem?_eq_some_iff
def A1H:=@Bool.or_eq_true
def A1I:=@List.drop_eq_getElem_cons
def A1J:=@List.take_zero
def A1K:=@List.flatten_cons
def A1L:=@List.getD_eq_getElem?_getD
def A1M:=@Bool.false_eq_true
def A1N:=@List.mem_singleton
def A1O:=@decide_eq_false_iff_not
def A1P:=@List.take_append_drop
def A1Q:=@Nat.lt_succ_self
def A1R:=@List.not_mem_nil
def A1S:=@beq_iff_eq
def A1T:=@List.take_length
def A1U:=@Int.toNat_natCast
def A1V:=@List.getElem?_take
def A1W:=@List.getElem?_append_right
def A1X:=@List.getElem?_toArray
def A1Y:=@List.eq_nil_of_length_eq_zero
def A1Z:=@List.getElem?_map
def A2A:=@List.getElem?_append
def A2B:=@List.flatMap_cons
def A2C:=@Nat.lt_succ_iff_lt_or_eq
def A2D:=@Bool.true_and
def A2E:=@List.map_map
def A2F:=@List.getElem?_drop
def A2G:=@Bool.eq_iff_iff
def A2H:=@Int.natCast_nonneg
def A2I:=@Nat.lt_of_not_le
def A2J:=@List.length_drop
def A2K:=@List.getElem?_append_left
def A2L:=@Nat.ble_eq
def A2M:=@Nat.le_succ
def A2N:=@List.getElem?_cons_succ
def A2O:=@Array.getD_eq_getD_getElem?
def A2P:=@Nat.add_assoc
def A2Q:=@List.all_cons
def A2R:=@List.drop_of_length_le
def A2S:=@List.drop_eq_nil_of_le
def A2T:=@Option.or_assoc
def A2U:=@Int.le_refl
def A2V:=@Array.getElem?_eq_getElem
def A2W:=@Nat.le_add_right
def A2X:=@Nat.mul_le_mul_right
def A2Y:=@List.contains_eq_mem
def A2Z:=@List.getElem?_cons_zero
def A3A:=@Nat.not_lt_zero
def A3B:=@Array.length_toList
def A3C:=@Nat.add_zero
def A3D:=@List.sum_cons
def A3E:=@List.drop_drop
def A3F:=@List.getElem?_eq_none
def A3G:=@List.mem_append_left
def A3H:=@Bool.not_eq_true'
def A3I:=@Bool.and_true
def A3J:=@List.flatMap_append
def A3K:=@List.length_eq_zero_iff
def A3L:=@List.flatten_nil
def A3M:=@Nat.add_mul
def A3N:=@List.append_eq_nil_iff
def A3O:=@Option.map_some
def A3P:=@List.nodup_cons
def A3Q:=@Nat.eq_of_beq_eq_true
def A3R:=@Array.getElem?_toList
def A3S:=@Nat.pow_le_pow_right
def A3T:=@Nat.lt_add_one
def A3U:=@List.mem_of_mem_take
def A3V:=@List.drop_zero
def A3W:=@Bool.and_false
def A3X:=@List.replicate_succ
def A3Y:=@List.map_congr_left
def A3Z:=@List.getElem_of_mem
def A4A:=@Array.getElem?_push
def A4B:=@Nat.add_sub_cancel
def A4C:=@List.pairwise_cons
def A4D:=@Bool.false_ne_true
def A4E:=@Option.or_none
def A4F:=@List.size_toArray
def A4G:=@List.mem_range
def A4H:=@List.mem_append_right
def A4I:=@Option.getD_some
def A4J:=@List.mem_flatten
def A4K:=@List.map_toArray
def A4L:=@List.drop_length
def A4M:=@Array.getElem?_setIfInBounds
def A4N:=@List.mem_map_of_mem
def A4O:=@List.filterMap_cons
def A4P:=@Nat.sub_self
def A4Q:=@Nat.one_le_two_pow
def A4R:=@Nat.lt_of_lt_of_le
def A4S:=@List.set_cons_succ
def A4T:=@List.mem_filterMap
def A4U:=@List.pairwise_map
def A4V:=@List.nodup_append
def A4W:=@List.getElem?_set
end Go
namespace Go
structure wH(K:Prop):Prop where
  o:K
theorem wJ{A B:Prop}(a:A)(b:B):A∧B:=⟨a,b⟩
theorem wAa{G K E:Prop}(e:E)(k:K)(h:E->wH K->G:=by intro e k;simp only[go_sem,seval,e];(repeat'((first|(with_reducible first|apply wr|refine k_cu ?_ ?_)|(with_reducible apply wb2<;>(intro hb;try simp only[hb]))|((with_reducible refine A5e (A0l (by decide) (by decide) (by decide)) ?_)))<;>try simp only[go_sem,seval,e]));exact k.o):G:=h e ⟨k⟩
theorem wAb{G K C0 C1 C2 E:Prop}(c0:C0)(c1:C1)(c2:C2)(e:E)(k:K)(h:C0->C1->C2->E->wH K->G:=by intro c0 c1 c2 e k;(repeat'((first|(with_reducible first|apply wr|refine cpc c0 ?_|refine cpc c1 ?_|refine cpc c2 ?_|refine k_cu ?_ ?_)|(with_reducible apply wb2<;>(intro hb;try simp only[hb]))|(refine ca3 (wo1 rfl) ?_)|(refine ca3 (jo2 rfl) ?_)|(refine ca3 (jo3 rfl) ?_))<;>try simp only[go_sem,seval,e]));exact k.o):G:=h c0 c1 c2 e ⟨k⟩
theorem wAc{G K C0 C1 C2 E:Prop}(c0:C0)(c1:C1)(c2:C2)(e:E)(k:K)(h:C0->C1->C2->E->wH K->G:=by intro c0 c1 c2 e k;(repeat'((first|(with_reducible first|apply wr|refine cpc c0 ?_|refine cpc c1 ?_|refine cpc c2 ?_|refine k_cu ?_ ?_)|(with_reducible apply wb2<;>(intro hb;try simp only[hb]))|(refine ca3 (wo1 rfl) ?_)|(refine ca3 (jo2 rfl) ?_)|(refine ca3 (jo3 rfl) ?_)|(refine ca3 (jo4 rfl) ?_)|(refine ca3 (jo5 rfl) ?_))<;>try simp only[go_sem,seval,e]));exact k.o):G:=h c0 c1 c2 e ⟨k⟩
theorem wAd{G K C0 C1 E:Prop}(c0:C0)(c1:C1)(e:E)(k:K)(h:C0->C1->E->wH K->G:=by intro c0 c1 e k;(repeat'((first|(with_reducible first|apply wr|refine cpc c0 ?_|refine cpc c1 ?_|refine k_cu ?_ ?_)|(with_reducible apply wb2<;>(intro hb;try simp only[hb]))|(refine ca3 (wd1 rfl (by decide)) ?_)|(refine ca3 (jn2 rfl (A9v _) (hxl 6)) ?_))<;>try simp only[go_sem,seval,e]));exact k.o):G:=h c0 c1 e ⟨k⟩
theorem wAe{G K C0 C1:Prop}(c0:C0)(c1:C1)(k:K)(h:C0->C1->wH K->G:=by intro c0 c1 k;(repeat'((first|(with_reducible first|apply wr|refine cpc c0 ?_|refine cpc c1 ?_|refine k_cu ?_ ?_)|(with_reducible apply wb2<;>(intro hb;try simp only[hb]))|(refine ca3 (wd1 rfl (by decide)) ?_)|(refine ca3 (jn2 rfl (A9v _) (E8y _)) ?_))<;>try simp only[go_sem,seval]));exact k.o):G:=h c0 c1 ⟨k⟩
theorem wAf{G K C0 C1 E:Prop}(c0:C0)(c1:C1)(e:E)(k:K)(h:C0->C1->E->wH K->G:=by intro c0 c1 e k;(repeat'((first|(with_reducible first|apply wr|refine cpc c0 ?_|refine cpc c1 ?_|refine k_cu ?_ ?_)|(with_reducible apply wb2<;>(intro hb;try simp only[hb]))|(refine ca3 (wo1 rfl) ?_)|(refine ca3 (jo2 rfl) ?_)|(refine ca3 (jo3 rfl) ?_)|(refine ca3 (jo4 rfl) ?_)|(refine ca3 (jo5 rfl) ?_))<;>try simp only[go_sem,seval,A0M,List.map_nil,e]));exact k.o):G:=h c0 c1 e ⟨k⟩
theorem wAg{G K C0 C1 E:Prop}(c0:C0)(c1:C1)(e:E)(k:K)(h:C0->C1->E->wH K->G:=by intro c0 c1 e k;(repeat'((first|(with_reducible first|apply wr|refine cpc c0 ?_|refine cpc c1 ?_|refine k_cu ?_ ?_)|(with_reducible apply wb2<;>(intro hb;try simp only[hb]))|(refine ca3 (wo1 rfl) ?_)|(refine ca3 (jo2 rfl) ?_)|(refine ca3 (jo3 rfl) ?_)|(refine ca3 (jo4 rfl) ?_)|(refine ca3 (jo5 rfl) ?_))<;>try simp only[go_sem,seval,e]));exact k.o):G:=h c0 c1 e ⟨k⟩
theorem wAh{G K C0:Prop}(c0:C0)(k:K)(h:C0->wH K->G:=by intro c0 k;(repeat'((first|(with_reducible first|apply wr|refine cpc c0 ?_|refine k_cu ?_ ?_)|(with_reducible apply wb2<;>(intro hb;try simp only[hb]))|(refine ca3 (wd1 rfl (by decide)) ?_))<;>try simp only[go_sem,seval]));exact k.o):G:=h c0 ⟨k⟩
theorem wAi{G K C0 E:Prop}(c0:C0)(e:E)(k:K)(h:C0->E->wH K->G:=by intro c0 e k;(repeat'((first|(with_reducible first|apply wr|refine cpc c0 ?_|refine k_cu ?_ ?_)|(with_reducible apply wb2<;>(intro hb;try simp only[hb]))|(refine ca3 (wo1 rfl) ?_)|(refine ca3 (jo2 rfl) ?_)|(refine ca3 (jo3 rfl) ?_)|(refine ca3 (jo4 rfl) ?_)|(refine ca3 (jo5 rfl) ?_))<;>try simp only[go_sem,seval,e]));exact k.o):G:=h c0 e ⟨k⟩
theorem wAj{G K E:Prop}(e:E)(k:K)(h:E->wH K->G:=by intro e k;simp only[go_sem,seval,e];(repeat'((first|(with_reducible first|apply wr|refine k_cu ?_ ?_)|(with_reducible apply wb2<;>(intro hb;try simp only[hb]))|((with_reducible refine A5e (Z6 hL (by omega) (by omega)) ?_)))<;>try simp only[go_sem,seval,e]));exact k.o):G:=h e ⟨k⟩
theorem wAk{G K E:Prop}(e:E)(k:K)(h:E->wH K->G:=by intro e k;simp only[go_sem,seval,e];(repeat'((with_reducible first|refine O8 (p:=IW _ _ (pz Tryz.prog 117 (.i (.i (.o (.i .h))))) _ _) ?_|refine wr ?_|refine k_cu ?_ ?_|apply wb2<;>(intro hb;try simp only[hb]))<;>try simp only[go_sem,seval,e]));exact k.o):G:=h e ⟨k⟩
theorem wAl{G K E:Prop}(e:E)(k:K)(h:E->wH K->G:=by intro e k;(repeat'((with_reducible first|refine O8 (p:=IW _ _ (pz Tryz.prog 16 (.o (.i (.i (.o (.o .h)))))) _ _) ?_|refine wr ?_|refine k_cu ?_ ?_|apply wb2<;>(intro hb;try simp only[hb]))<;>try simp only[go_sem,seval,A0N,e]));exact k.o):G:=h e ⟨k⟩
theorem wAm{G K C0 E:Prop}(c0:C0)(e:E)(k:K)(h:C0->E->wH K->G:=by intro c0 e k;(repeat'((with_reducible first|refine O8 (p:=IW _ _ (pz Tryz.prog 217 (.o (.o (.o (.i .h))))) _ _) ?_|refine wr ?_|refine cpc c0 ?_|refine k_cu ?_ ?_|apply wb2<;>(intro hb;try simp only[hb]))<;>try simp only[go_sem,seval,e]));exact k.o):G:=h c0 e ⟨k⟩
theorem wAn{G K E:Prop}(e:E)(k:K)(h:E->wH K->G:=by intro e k;simp only[go_sem,seval,e];(repeat'((with_reducible first|refine O8 (p:=IW _ _ (pz Tryz.prog 242 (.i (.o (.o (.o .h))))) _ _) ?_|refine wr ?_|refine k_cu ?_ ?_|apply wb2<;>(intro hb;try simp only[hb]))<;>try simp only[go_sem,seval,e]));exact k.o):G:=h e ⟨k⟩
theorem wAo{G K:Prop}(k:K)(h:wH K->G:=by intro k;(repeat'((with_reducible first|refine wr ?_|refine k_cu ?_ ?_|refine wb2 ?_ ?_<;>(intro hb;try simp only[hb])|fail)<;>try simp only[go_sem,seval,A0N]));exact k.o):G:=h ⟨k⟩
theorem wAp{G K:Prop}(k:K)(h:wH K->G:=by intro k;(repeat'((with_reducible first|refine wr ?_|refine k_cu ?_ ?_|refine wb2 ?_ ?_<;>(intro hb;try simp only[hb])|fail)<;>try simp only[go_sem,seval]));exact k.o):G:=h ⟨k⟩
theorem wAq{G K:Prop}(k:K)(h:wH K->G:=by intro k;simp only[go_sem,seval];(repeat'((with_reducible first|refine wr ?_|refine k_cu ?_ ?_|refine wb2 ?_ ?_<;>(intro hb;try simp only[hb])|fail)<;>try simp only[go_sem,seval]));exact k.o):G:=h ⟨k⟩
theorem wAr{G K E:Prop}(e:E)(k:K)(h:E->wH K->G:=by intro e k;(repeat'((with_reducible first|refine wr ?_|refine k_cu ?_ ?_|refine wb2 ?_ ?_<;>(intro hb;try simp only[hb])|fail)<;>try simp only[go_sem,seval,A0N,e]));exact k.o):G:=h e ⟨k⟩
theorem wAs{G K E:Prop}(e:E)(k:K)(h:E->wH K->G:=by intro e k;(repeat'((with_reducible first|refine wr ?_|refine k_cu ?_ ?_|refine wb2 ?_ ?_<;>(intro hb;try simp only[hb])|fail)<;>try simp only[go_sem,seval,e]));exact k.o):G:=h e ⟨k⟩
theorem wAt{G K E:Prop}(e:E)(k:K)(h:E->wH K->G:=by intro e k;simp only[go_sem,seval,A0N,e];(repeat'((with_reducible first|refine wr ?_|refine k_cu ?_ ?_|refine wb2 ?_ ?_<;>(intro hb;try simp only[hb])|fail)<;>try simp only[go_sem,seval,A0N,e]));exact k.o):G:=h e ⟨k⟩
theorem wAu{G K E:Prop}(e:E)(k:K)(h:E->wH K->G:=by intro e k;simp only[go_sem,seval,e];(repeat'((with_reducible first|refine wr ?_|refine k_cu ?_ ?_|refine wb2 ?_ ?_<;>(intro hb;try simp only[hb])|fail)<;>try simp only[go_sem,seval,e]));exact k.o):G:=h e ⟨k⟩
theorem wA5{G K C0:Prop}(c0:C0)(k:K)(h:C0->wH K->G:=by intro c0 k;(repeat'((with_reducible first|refine wr ?_|refine cpc c0 ?_|refine k_cu ?_ ?_|refine wb2 ?_ ?_<;>(intro hb;try simp only[hb])|fail)<;>try simp only[go_sem,seval]));exact k.o):G:=h c0 ⟨k⟩
theorem wA6{G K C0 E:Prop}(c0:C0)(e:E)(k:K)(h:C0->E->wH K->G:=by intro c0 e k;(repeat'((with_reducible first|refine wr ?_|refine cpc c0 ?_|refine k_cu ?_ ?_|refine wb2 ?_ ?_<;>(intro hb;try simp only[hb])|fail)<;>try simp only[go_sem,seval,A0N,A0M,List.map_nil,e]));exact k.o):G:=h c0 e ⟨k⟩
theorem wA7{G K C0 E:Prop}(c0:C0)(e:E)(k:K)(h:C0->E->wH K->G:=by intro c0 e k;(repeat'((with_reducible first|refine wr ?_|refine cpc c0 ?_|refine k_cu ?_ ?_|refine wb2 ?_ ?_<;>(intro hb;try simp only[hb])|fail)<;>try simp only[go_sem,seval,A0N,e]));exact k.o):G:=h c0 e ⟨k⟩
theorem wA8{G K C0 E:Prop}(c0:C0)(e:E)(k:K)(h:C0->E->wH K->G:=by intro c0 e k;(repeat'((with_reducible first|refine wr ?_|refine cpc c0 ?_|refine k_cu ?_ ?_|refine wb2 ?_ ?_<;>(intro hb;try simp only[hb])|fail)<;>try simp only[go_sem,seval,e]));exact k.o):G:=h c0 e ⟨k⟩
theorem wA9{G K C0 E:Prop}(c0:C0)(e:E)(k:K)(h:C0->E->wH K->G:=by intro c0 e k;simp only[go_sem,seval,e];(repeat'((with_reducible first|refine wr ?_|refine cpc c0 ?_|refine k_cu ?_ ?_|refine wb2 ?_ ?_<;>(intro hb;try simp only[hb])|fail)<;>try simp only[go_sem,seval,e]));exact k.o):G:=h c0 e ⟨k⟩
theorem wBb{G K C0 C1:Prop}(c0:C0)(c1:C1)(k:K)(h:C0->C1->wH K->G:=by intro c0 c1 k;(repeat'((with_reducible first|refine wr ?_|refine cpc c0 ?_|refine cpc c1 ?_|refine k_cu ?_ ?_|refine wb2 ?_ ?_<;>(intro hb;try simp only[hb])|fail)<;>try simp only[go_sem,seval]));exact k.o):G:=h c0 c1 ⟨k⟩
theorem wBc{G K C0 C1 E:Prop}(c0:C0)(c1:C1)(e:E)(k:K)(h:C0->C1->E->wH K->G:=by intro c0 c1 e k;(repeat'((with_reducible first|refine wr ?_|refine cpc c0 ?_|refine cpc c1 ?_|refine k_cu ?_ ?_|refine wb2 ?_ ?_<;>(intro hb;try simp only[hb])|fail)<;>try simp only[go_sem,seval,A0N,e]));exact k.o):G:=h c0 c1 e ⟨k⟩
theorem wBd{G K C0 C1 E:Prop}(c0:C0)(c1:C1)(e:E)(k:K)(h:C0->C1->E->wH K->G:=by intro c0 c1 e k;(repeat'((with_reducible first|refine wr ?_|refine cpc c0 ?_|refine cpc c1 ?_|refine k_cu ?_ ?_|refine wb2 ?_ ?_<;>(intro hb;try simp only[hb])|fail)<;>try simp only[go_sem,seval,e]));exact k.o):G:=h c0 c1 e ⟨k⟩
theorem wBe{G K C0 C1 E:Prop}(c0:C0)(c1:C1)(e:E)(k:K)(h:C0->C1->E->wH K->G:=by intro c0 c1 e k;simp only[go_sem,seval,e];(repeat'((with_reducible first|refine wr ?_|refine cpc c0 ?_|refine cpc c1 ?_|refine k_cu ?_ ?_|refine wb2 ?_ ?_<;>(intro hb;try simp only[hb])|fail)<;>try simp only[go_sem,seval,e]));exact k.o):G:=h c0 c1 e ⟨k⟩
theorem wBf{G K C0 C1 C2 E:Prop}(c0:C0)(c1:C1)(c2:C2)(e:E)(k:K)(h:C0->C1->C2->E->wH K->G:=by intro c0 c1 c2 e k;(repeat'((with_reducible first|refine wr ?_|refine cpc c0 ?_|refine cpc c1 ?_|refine cpc c2 ?_|refine k_cu ?_ ?_|refine wb2 ?_ ?_<;>(intro hb;try simp only[hb])|fail)<;>try simp only[go_sem,seval,e]));exact k.o):G:=h c0 c1 c2 e ⟨k⟩
theorem wAv{G K E0 E1 E2 E3 E4 E5 E6 E7 E8 E9 E10 E11 E12 E13:Prop}(e0:E0)(e1:E1)(e2:E2)(e3:E3)(e4:E4)(e5:E5)(e6:E6)(e7:E7)(e8:E8)(e9:E9)(e10:E10)(e11:E11)(e12:E12)(e13:E13)(k:K)(h:(E0∧E1∧E2∧E3∧E4∧E5∧E6∧E7∧E8∧E9∧E10∧E11∧E12∧E13)->wH K->G:=by exact λe k=>wAs e k.o):G:=h ⟨e0,e1,e2,e3,e4,e5,e6,e7,e8,e9,e10,e11,e12,e13⟩ ⟨k⟩
theorem wAw{G K E0 E1 E2:Prop}(e0:E0)(e1:E1)(e2:E2)(k:K)(h:(E0∧E1∧E2)->wH K->G:=by exact λe k=>wAs e k.o):G:=h ⟨e0,e1,e2⟩ ⟨k⟩
theorem wAx{G K E0 E1 E2:Prop}(e0:E0)(e1:E1)(e2:E2)(k:K)(h:(E0∧E1∧E2)->wH K->G:=by exact λe k=>wAu e k.o):G:=h ⟨e0,e1,e2⟩ ⟨k⟩
theorem wAy{G K E0 E1 E2 E3:Prop}(e0:E0)(e1:E1)(e2:E2)(e3:E3)(k:K)(h:(E0∧E1∧E2∧E3)->wH K->G:=by exact λe k=>wAs e k.o):G:=h ⟨e0,e1,e2,e3⟩ ⟨k⟩
theorem wAz{G K E0 E1 E2 E3:Prop}(e0:E0)(e1:E1)(e2:E2)(e3:E3)(k:K)(h:(E0∧E1∧E2∧E3)->wH K->G:=by exact λe k=>wAu e k.o):G:=h ⟨e0,e1,e2,e3⟩ ⟨k⟩
theorem wA0{G K E0 E1 E2 E3 E4:Prop}(e0:E0)(e1:E1)(e2:E2)(e3:E3)(e4:E4)(k:K)(h:(E0∧E1∧E2∧E3∧E4)->wH K->G:=by exact λe k=>wAs e k.o):G:=h ⟨e0,e1,e2,e3,e4⟩ ⟨k⟩
theorem wA1{G K E0 E1 E2 E3 E4 E5:Prop}(e0:E0)(e1:E1)(e2:E2)(e3:E3)(e4:E4)(e5:E5)(k:K)(h:(E0∧E1∧E2∧E3∧E4∧E5)->wH K->G:=by exact λe k=>wAs e k.o):G:=h ⟨e0,e1,e2,e3,e4,e5⟩ ⟨k⟩
theorem wA2{G K E0 E1 E2 E3 E4 E5:Prop}(e0:E0)(e1:E1)(e2:E2)(e3:E3)(e4:E4)(e5:E5)(k:K)(h:(E0∧E1∧E2∧E3∧E4∧E5)->wH K->G:=by exact λe k=>wAu e k.o):G:=h ⟨e0,e1,e2,e3,e4,e5⟩ ⟨k⟩
theorem wA3{G K E0 E1 E2 E3 E4 E5 E6:Prop}(e0:E0)(e1:E1)(e2:E2)(e3:E3)(e4:E4)(e5:E5)(e6:E6)(k:K)(h:(E0∧E1∧E2∧E3∧E4∧E5∧E6)->wH K->G:=by exact λe k=>wAs e k.o):G:=h ⟨e0,e1,e2,e3,e4,e5,e6⟩ ⟨k⟩
theorem wA4{G K E0 E1 E2 E3 E4 E5 E6 E7:Prop}(e0:E0)(e1:E1)(e2:E2)(e3:E3)(e4:E4)(e5:E5)(e6:E6)(e7:E7)(k:K)(h:(E0∧E1∧E2∧E3∧E4∧E5∧E6∧E7)->wH K->G:=by exact λe k=>wAs e k.o):G:=h ⟨e0,e1,e2,e3,e4,e5,e6,e7⟩ ⟨k⟩
theorem wBa{G K C0 E0 E1 E2 E3 E4 E5 E6 E7 E8 E9 E10:Prop}(c0:C0)(e0:E0)(e1:E1)(e2:E2)(e3:E3)(e4:E4)(e5:E5)(e6:E6)(e7:E7)(e8:E8)(e9:E9)(e10:E10)(k:K)(h:C0->(E0∧E1∧E2∧E3∧E4∧E5∧E6∧E7∧E8∧E9∧E10)->wH K->G:=by exact λc0 e k=>wA8 c0 e k.o):G:=h c0 ⟨e0,e1,e2,e3,e4,e5,e6,e7,e8,e9,e10⟩ ⟨k⟩
end Go
noncomputable section
set_option linter.unusedVariables false
set_option linter.unusedSimpArgs false
namespace Go.Eng
structure Tgt where
 block:Nat
 shift:Nat
 room:Nat
 unit:Nat
abbrev Ren:=Nat->Option Tgt
inductive VRel (ρ:Ren):Value->Value->Prop where
 |bool (b:Bool):VRel ρ (.bool b) (.bool b)
 |int (k:IntKind) (n:Int):VRel ρ (.int k n) (.int k n)
 |str (s:ByteArray):VRel ρ (.string s) (.string s)
 |pnil:VRel ρ (.pointer none) (.pointer none)
 |ptr (id off:Nat) (t:Tgt) (h : ρ id=some t):VRel ρ (.pointer (some ⟨id,off,none⟩)) (.pointer (some ⟨t.block,t.shift+off,none⟩))
 |snil:VRel ρ (.slice none 0 0) (.slice none 0 0)
 |slc (id off n c:Nat) (t:Tgt) (h : ρ id=some t) (hc:n<=c) (hm:c<=maxLen) (hr:t.unit=0\/off+c*t.unit<=t.room) :
   VRel ρ (.slice (some ⟨id,off,none⟩) n 0) (.slice (some ⟨t.block,t.shift+off,none⟩) n c)
 |tail (id off c:Nat) (a:Addr):VRel ρ (.slice (some ⟨id,off,none⟩) 0 1) (.slice (some a) 0 c)
 |fnil:VRel ρ .nilFunc .nilFunc
 |inil:VRel ρ .nilIface .nilIface
 |mnil:VRel ρ (.map none) (.map none)
 |iface (t:TypeId) (x y:Value) (h:VRel ρ x y):VRel ρ (.iface t x) (.iface t y)
 |func (f:Fn) (a b c d:Array Value) (h1:a.size=b.size) (h2:∀(i:Nat) x y,a[i]? = some x->b[i]? = some y->VRel ρ x y)
   (h3:c.size=d.size) (h4:∀(i:Nat) x y,c[i]? = some x->d[i]? = some y->VRel ρ x y):VRel ρ (.func f a c) (.func f b d)
 |agg (a b:Array Value) (h1:a.size=b.size) (h2:∀(i:Nat) x y,a[i]? = some x->b[i]? = some y->VRel ρ x y):VRel ρ (.agg a) (.agg b)
 |tup (a b:Array Value) (h1:a.size=b.size) (h2:∀(i:Nat) x y,a[i]? = some x->b[i]? = some y->VRel ρ x y):VRel ρ (.tuple a) (.tuple b)
section inv
variable {ρ:Ren} {v:Value}
theorem VRel.int_inv{k:IntKind}{n:Int}(h:VRel ρ (.int k n) v):v=.int k n:=by cases h;rfl
theorem VRel.str_inv{s:ByteArray}(h:VRel ρ (.string s) v):v=.string s:=by cases h;rfl
end inv
def scal:Value->Bool
 |.bool _ |.int .. |.string _ |.pointer none |.nilFunc |.nilIface |.map none=>true
 |.slice none 0 0=>true
 |_=>false
def D9l(a:Array Value):Bool:=a.toList.all scal
def flat:Value->Bool
 |.agg a |.tuple a=>D9l a
 |v=>scal v
structure Blk where
 unit:Nat
 own:Bool
 cells:List Value
abbrev Hp:=Nat->Option Blk
def Hp.upd(H:Hp)(id:Nat)(b:Blk):Hp:=λj=>if j=id then some b else H j
def Hp.del(H:Hp)(id:Nat):Hp:=λj=>if j=id then none else H j
inductive Opd where
 |t (n:Nat)
 |k (v:Value)
 |f (n:Nat)
abbrev Tm:=Nat->Value
def Tm.upd(T:Tm)(d:Nat)(v:Value):Tm:=λj=>if j=d then v else T j
def opd:Operand->Option Opd
 |.tmp t=>some (.t t)
 |.const v=>if flat v then some (.k v) else none
 |.func f=>some (.f f)
 |.global _=>none
def A8o:List Operand->Option (List Opd)
 |[]=>some []
 |x::r=>match opd x,A8o r with
  |some y,some s=>some (y::s)
  |_,_=>none
inductive FOp where
 |mv (x:Opd)
 |pick (c a b:Opd)
 |ld (n:Nat) (agg:Bool) (x:Opd)
 |fad (off:Nat) (x:Opd)
 |iad (sz:Nat) (x i:Opd)
 |iada (len sz:Nat) (x i:Opd)
 |idx (x i:Opd)
 |fld (off n:Nat) (agg:Bool) (x:Opd)
 |ext (x:Opd) (i:Nat)
 |nck (x:Opd)
 |bin (op:BinOp) (x y:Opd)
 |eqb (neg:Bool) (x y:Opd)
 |eqn (neg:Bool) (kd:Nat) (x y:Opd)
 |eqa (neg:Bool) (ks:List Nat) (x y:Opd)
 |un (op:UnOp) (x:Opd)
 |cvi (k:IntKind) (x:Opd)
 |cvs (x:Opd)
 |cvbs (x:Opd)
 |slc (sz:Nat) (x:Opd) (lo hi:Option Opd)
 |sls (x:Opd) (lo hi:Option Opd)
 |mkf (f:Nat) (a c:List Opd)
 |bld (zero:Array Value) (pl:List (Nat × Nat)) (parts:List (Nat × Opd))
 |len (x:Opd)
 |lens (x:Opd)
 |mn (x y:Opd)
 |mx (x y:Opd)
def ldv(H:Hp)(n:Nat)(agg:Bool):Value->Option Value
 |.pointer (some ⟨id,off,none⟩) =>
  match H id with
  |some b =>
   match agg with
   |true=>match Nat.ble (off+n) b.cells.length with
    |true=>some (.agg ((b.cells.drop off).take n).toArray)
    |false=>none
   |false=>b.cells[off]?
  |none=>none
 |_=>none
def intR(op:BinOp)(k:IntKind)(a b:Int):Option Value :=
 match op with
 |.add=>some (.int k (k.wrap (a+b)))
 |.sub=>some (.int k (k.wrap (a-b)))
 |.mul=>some (.int k (k.wrap (a*b)))
 |.quo=>if b=0 then none else some (.int k (k.wrap (a.tdiv b)))
 |.rem=>if b=0 then none else some (.int k (a.tmod b))
 |.and=>some (.int k (bits .and k a b))
 |.or=>some (.int k (bits .or k a b))
 |.xor=>some (.int k (bits .xor k a b))
 |.andNot=>some (.int k (bits .andNot k a b))
 |.eql=>some (.bool (a==b))
 |.neq=>some (.bool (a != b))
 |.lss=>some (.bool (a<b))
 |.leq=>some (.bool (a<=b))
 |.gtr=>some (.bool (a>b))
 |.geq=>some (.bool (a≥b))
 |_=>none
def strL(s:ByteArray):List UInt8:=s.data.toList
def strR(op:BinOp)(a b:ByteArray):Option Value :=
 match op with
 |.add=>if a.data.size+b.data.size<=maxLen then some (.string ⟨a.data++b.data⟩) else none
 |.eql=>some (.bool (strL a==strL b))
 |.neq=>some (.bool !(strL a==strL b))
 |.lss=>some (.bool (Op.bytesLess (strL a) (strL b)))
 |.leq=>some (.bool (Op.bytesLess (strL a) (strL b)||strL a==strL b))
 |.gtr=>some (.bool !(Op.bytesLess (strL a) (strL b)||strL a==strL b))
 |.geq=>some (.bool !(Op.bytesLess (strL a) (strL b)))
 |_=>none
def binR(op:BinOp)(x y:Value):Option Value :=
 match x,y with
 |.int k a,.int j b =>
  match op with
  |.shl=>if b<0 then none else some (.int k (k.wrap (a*2 ^ (min b.toNat k.bits))))
  |.shr=>if b<0 then none else some (.int k (a.fdiv (2 ^ (min b.toNat k.bits))))
  |_=>if k=j then intR op k a b else none
 |.string a,.string b=>strR op a b
 |_,_=>none
def A5t(kd:Nat)(x y:Value):Option Bool :=
 match kd,x,y with
 |0,.int j a,.int k b=>if j=k then some (a==b) else none
 |1,.bool a,.bool b=>some (a==b)
 |2,.string a,.string b=>some (strL a==strL b)
 |_,_,_=>none
def V3:List Nat->Nat->Array Value->Array Value->Option Bool
 |[],_,_,_=>some true
 |kd::ks,i,a,b =>
  match a[i]?,b[i]? with
  |some x,some y=>match A5t kd x y with
   |some true=>V3 ks (i+1) a b
   |some false=>some false
   |none=>none
  |_,_=>none
def boundOf(d:Nat):Option Value->Option Nat
 |none=>some d
 |some (.int _ n)=>if 0<=n then some n.toNat else none
 |some _=>none
def A7j(H:Hp)(sz:Nat)(x:Value)(lo hi:Option Value):Option Value :=
 match x with
 |.slice none 0 0 =>
  match boundOf 0 hi,boundOf 0 lo with
  |some 0,some 0=>some (.slice none 0 0)
  |_,_=>none
 |.slice (some ⟨id,off,none⟩) n c =>
  match boundOf n hi,boundOf 0 lo with
  |some h,some l =>
   match Nat.ble h n,Nat.ble l h with
   |true,true =>
    match c with
    |0=>if l=0 then some (.slice (some ⟨id,off,none⟩) h 0)
       else if l=h then some (.slice (some ⟨id,off,none⟩) 0 1)
       else match H id with
        |some b=>if b.unit=sz\/b.unit=0 then some (.slice (some ⟨id,off+l*sz,none⟩) (h-l) 0) else none
        |none=>none
    |1=>some (.slice (some ⟨id,off,none⟩) 0 1)
    |_=>none
   |_,_=>none
  |_,_=>none
 |_=>none
def slsR(s:ByteArray)(lo hi:Option Value):Option Value :=
 match boundOf s.data.size hi,boundOf 0 lo with
 |some h,some l =>
  match Nat.ble h s.data.size,Nat.ble l h with
  |true,true=>some (.string ⟨((s.data.toList.drop l).take (h-l)).toArray⟩)
  |_,_=>none
 |_,_=>none
def Y8:TypeDesc->Bool
 |.struct _ |.array _ _=>true
 |_=>false
def B5r:Option Operand->Option (Option Opd)
 |none=>some none
 |some x=>match opd x with
  |some y=>some (some y)
  |none=>none
def Y0(P:Program):List Field->Option (List (Nat × Nat))
 |[]=>some []
 |f::r=>match P.info? f.type,Y0 P r with
  |some i,some s=>some ((f.offset,i.size)::s)
  |_,_=>none
def R9:List (Nat × Operand)->Option (List (Nat × Opd))
 |[]=>some []
 |p::r=>match opd p.2,R9 r with
  |some x,some s=>some ((p.1,x)::s)
  |_,_=>none
def A5j:Option TypeDesc->Option Nat
 |some (.int _)=>some 0
 |some .bool=>some 1
 |some .string=>some 2
 |_=>none
def Q0(P:Program):Nat->List Field->Option (List Nat)
 |_,[]=>some []
 |n,f::r =>
  match A5j (P.underlying f.type),Q0 P (n+1) r with
  | some k, some ks => if f.offset = n ∧ f.name ≠ "_" then some (k :: ks) else none
  |_,_=>none
def A2u:TypeDesc->Option Nat
 |.pointer _=>some 0
 |.slice _=>some 1
 |.func _ _ _=>some 2
 |_=>none
def C6u(P:Program)(op:BinOp)(t:TypeId)(x y:Opd):Option FOp :=
 match P.underlying t with
 |some .bool=>match op with
  |.eql=>some (.eqb false x y)
  |.neq=>some (.eqb true x y)
  |_=>none
 |some (.int _)|some .string=>some (.bin op x y)
 |some (.struct fs) =>
  match Q0 P 0 fs.toList with
  |some ks=>if P.stoodInHeld t=false/\P.eqGuardType P.depth t=false then
    match op with
    |.eql=>some (.eqa false ks x y)
    |.neq=>some (.eqa true ks x y)
    |_=>none
   else none
  |none=>none
 |some (.interface _)=>match op,y with
  |.eql,.k .nilIface=>some (.eqn false 3 x y)
  |.neq,.k .nilIface=>some (.eqn true 3 x y)
  |_,_=>none
 |some D=>match A2u D,op with
  |some kd,.eql=>some (.eqn false kd x y)
  |some kd,.neq=>some (.eqn true kd x y)
  |_,_=>none
 |none=>none
theorem opd_inil{y:Operand}(h:opd y=some (.k .nilIface)):y=.const .nilIface:=by
 cases y with
 |const v =>
  simp only[opd]at h
  grind
 |tmp t=>cases h
 |func f=>cases h
 |global g=>cases h
def B7u(P:Program)(s d:TypeId)(x:Opd):Option FOp :=
 match P.underlying s,P.underlying d with
 |some (.int _),some (.int k)=>some (.cvi k x)
 |some .string,some .string=>some (.cvs x)
 |some (.slice e),some .string=>match P.underlying e with
  |some (.int .u8)=>match P.info? e with
   |some i=>if i.size=1 then some (.cvbs x) else none
   |none=>none
  |_=>none
 |_,_=>none
def trF(P:Program):Op->Option FOp
 |.move x=>(opd x).map .mv
 |.assign x=>(opd x).map .mv
 |.pick c a b=>match opd c,opd a,opd b with
  |some c,some a,some b=>some (.pick c a b)
  |_,_,_=>none
 |.load t x=>match opd x,P.info? t,P.underlying t with
  |some x,some i,some u=>some (.ld i.size (Y8 u) x)
  |_,_,_=>none
 |.fieldAddr s x k=>match opd x,P.underlying s with
  |some x,some (.struct fs)=>match fs[k]? with
   |some f=>match P.info? f.type with
    |some i=>if i.size=0 then none else some (.fad f.offset x)
    |none=>none
   |none=>none
  |_,_=>none
 |.indexAddr t x i=>match opd x,opd i,P.underlying t with
  |some x,some i,some (.slice e)=>(P.info? e).map λinf=>.iad inf.size x i
  |some x,some i,some (.array n e)=>(P.info? e).map λinf=>.iada n inf.size x i
  |_,_,_=>none
 |.index t x i=>match opd x,opd i,P.underlying t with
  |some x,some i,some .string=>some (.idx x i)
  |_,_,_=>none
 |.field t x k=>match opd x,P.underlying t with
  |some x,some (.struct fs)=>match fs[k]? with
   |some f=>match P.info? f.type,P.underlying f.type with
    |some i,some u=>some (.fld f.offset i.size (Y8 u) x)
    |_,_=>none
   |none=>none
  |_,_=>none
 |.extract x i=>(opd x).map λx=>.ext x i
 |.nilCheck x=>(opd x).map .nck
 |.binOp op t x y _=>match opd x,opd y with
  |some x,some y=>C6u P op t x y
  |_,_=>none
 |.unOp op _ x=>(opd x).map (.un op)
 |.convert s d x=>match opd x with
  |some x=>B7u P s d x
  |none=>none
 |.slice t x lo hi none=>match opd x,B5r lo,B5r hi,P.underlying t with
  |some x,some lo,some hi,some (.slice e)=>(P.info? e).map λinf=>.slc inf.size x lo hi
  |some x,some lo,some hi,some .string=>some (.sls x lo hi)
  |_,_,_,_=>none
 |.makeFunc (.func f) a c=>match A8o a.toList,A8o c.toList with
  |some a,some c=>some (.mkf f a c)
  |_,_=>none
 |.build t ps=>match P.info? t,P.underlying t,R9 ps.toList with
  |some i,some (.struct fs),some ps=>match i.zero,Y0 P fs.toList with
   |some z,some pl=>if D9l z.cells then some (.bld z.cells pl ps) else none
   |_,_=>none
  |some i,some (.array n e),some []=>match i.zero,P.info? e with
   |some z,some _=>if D9l z.cells then some (.bld z.cells [] []) else none
   |_,_=>none
  |_,_,_=>none
 |.call { callee:=.builtin .len,args,argTypes }=>match args.toList,argTypes.toList with
  |[x],[t]=>match opd x,P.underlying t with
   |some x,some (.slice _)=>some (.len x)
   |some x,some .string=>some (.lens x)
   |_,_=>none
  |_,_=>none
 |.call { callee:=.builtin .min,args,argTypes }=>match args.toList with
  |[x,y]=>match opd x,opd y with
   |some x,some y=>some (.mn x y)
   |_,_=>none
  |_=>none
 |.call { callee:=.builtin .max,args,argTypes }=>match args.toList with
  |[x,y]=>match opd x,opd y with
   |some x,some y=>some (.mx x y)
   |_,_=>none
  |_=>none
 |_=>none
section
variable {P:Program} {ρ:Ren} {H:Hp} {w:World} {T:Tm} {a:Act}
theorem A1c(b o n:Nat):(⟨b,o,none⟩:Addr).add n=⟨b,o+n,none⟩:=by
 unfold Addr.add;simp
theorem run_loadCells_row{g off n:Nat}{c:Array Value}{e:TypeId}{fr:Nat × Nat}(hg:w.heap[g]? = some (.cells c e fr))(hn:off+n<=c.size):
  (loadCells ⟨g,off,none⟩ n).run P w=.ok ((c.toList.drop off).take n).toArray w:=by
 have hl:((c.toList.drop off).take n).length=n:=b9
 have:=run_loadCells_list (P:=P) w ⟨g,off,none⟩ ((c.toList.drop off).take n) (λj v hv=>by
  rw[A1c,cell_of_row w g _ c e fr hg];rw[A1V]at hv;split at hv
  ·simpa[A2F] using hv
  ·cases hv)
 grind
theorem run_isAgg{t:TypeId}{u:TypeDesc}(hu:P.underlying t=some u):(isAgg t).run P w=.ok (Y8 u) w:=by
 unfold isAgg;rw[Sem.run_bind,run_underlying hu w];cases u<;>rfl
theorem run_sizeOf{t:TypeId}{i:TypeInfo}(hi:P.info? t=some i):(sizeOf t).run P w=.ok i.size w:=by
 simp[sizeOf,typeInfo,hi]
theorem run_zeroValue{t:TypeId}{i:TypeInfo}{z:Value}(hi:P.info? t=some i)(hz:i.zero=some z):(zeroValue t).run P w=.ok z w:=by
 simp[zeroValue,typeInfo,hi,hz]
theorem bin_sound{op:BinOp}{t:TypeId}{x y:Operand}{u v u' v' r:Value}(hx:VRel ρ u u')(hy:VRel ρ v v')(h:binR op u v=some r):
  (do eqGuard op t x y u' v';binOp op t u' v').run P w=.ok r w/\VRel ρ r r:=by
 unfold binR at h;split at h
 ·rename_i k m j n;cases hx.int_inv;cases hy.int_inv;rw[Sem.run_bind,eqGuard_at_int,Sem.run_pure,Result.andThen_ok];split at h
  ·split at h
   ·cases h
   ·rename_i hneg;cases h;exact⟨by simp[binOp_shl,Op.shift,hneg],.int _ _⟩
  ·split at h
   ·cases h
   ·rename_i hneg;cases h;exact⟨by simp[binOp_shr,Op.shift,hneg],.int _ _⟩
  ·rename_i hs1 hs2;split at h
   ·rename_i hkj;subst hkj;unfold intR at h;split at h
    case h_1=>cases h;exact⟨by simp[binOp_add,Op.intArith],.int _ _⟩
    case h_2=>cases h;exact⟨by simp[binOp_sub,Op.intArith],.int _ _⟩
    case h_3=>cases h;exact⟨by simp[binOp_mul,Op.intArith],.int _ _⟩
    case h_4 =>
     split at h
     ·cases h
     ·rename_i h0;cases h;exact⟨by simp[binOp_quo,Op.intDiv,h0],.int _ _⟩
    case h_5 =>
     split at h
     ·cases h
     ·rename_i h0;cases h;exact⟨by simp[binOp_rem,Op.intDiv,h0],.int _ _⟩
    all_goals first
     |(cases h;exact⟨by simp[binOp_eql,binOp_neq,binOp_lss,binOp_leq,binOp_gtr,binOp_geq],by constructor⟩)
     |(cases h;exact⟨by simp[binOp_and,binOp_or,binOp_xor,binOp_andNot,intBits_and,intBits_or,intBits_xor,intBits_andNot],by constructor⟩)
     |(cases h;done)
   ·cases h
 ·rename_i s s2;cases hx.str_inv;cases hy.str_inv;rw[Sem.run_bind,eqGuard_at_string,Sem.run_pure,Result.andThen_ok];unfold strR at h;split at h
  ·split at h
   ·rename_i hle;cases h;refine⟨?_,.str _⟩;have hn:¬(9223372036854775807<(s.size:Int)+(s2.size:Int)):=by
     have h1:s.data.size=s.size:=rfl;have h2:s2.data.size=s2.size:=rfl;simp only[maxLen]at hle;omega
    have hap:s++s2=⟨s.data++s2.data⟩:=by
     apply ByteArray.ext;simp
    simp[binOp,Op.stringOp,hn,hap]
   ·cases h
  all_goals first
   |(cases h;exact⟨by simp[binOp,Op.stringOp,ByteArray.toList_eq,strL],by constructor⟩)
   |(cases h;done)
 grind
theorem eqb_sound{t:TypeId}{x y:Operand}(ht:P.underlying t=some .bool)(b c:Bool):
  (do eqGuard .eql t x y (.bool b) (.bool c);binOp .eql t (.bool b) (.bool c)).run P w=.ok (.bool (b==c)) w /\
  (do eqGuard .neq t x y (.bool b) (.bool c);binOp .neq t (.bool b) (.bool c)).run P w=.ok (.bool (!(b==c))) w:=by
 constructor
 ·rw[Sem.run_bind,eqGuard_at_bool,Sem.run_pure,Result.andThen_ok,run_eql_bool w t b c ht]
 ·rw[Sem.run_bind,eqGuard_at_bool,Sem.run_pure,Result.andThen_ok,run_neq_bool w t b c ht]
theorem cell_part{t:TypeId}{kd:Nat}(hk:A5j (P.underlying t)=some kd){cs:Array Value}{i:Nat}{v:Value}(h:cs[i]? = some v):(part t cs i).run P w=.ok v w:=by
 cases hu:P.underlying t with
 |none=>rw[hu]at hk;cases hk
 |some D =>
  have:Y8 D=false:=by rw[hu]at hk;cases D<;>simp[A5j]at hk<;>rfl
  simp[part,run_isAgg hu,this,h]
end
section
variable {P:Program} {ρ:Ren} {H:Hp} {w:World} {T:Tm} {a:Act}
theorem A0o{d:Nat}{x:Option Value}{b:Nat}(h:boundOf d x=some b):(x=none/\b=d)\/∃k n,x=some (.int k n)/\0<=n/\n.toNat=b:=by
 unfold boundOf at h
 grind
theorem run_bounds{isSlice:Bool}{len cap:Nat}{lo hi lo' hi':Option Value}{l h:Nat}(hlo:boundOf 0 lo=some l)(hhi:boundOf len hi=some h)(rlo:lo'=lo)(rhi:hi'=hi)
  (h1:l<=h) (h2:h<=len) (h3:len<=cap):(Instr.sliceBounds isSlice len cap lo' hi' none).run P w=.ok (l,h,cap) w:=by
 subst rlo rhi;rcases A0o hlo with ⟨rfl,rfl⟩|⟨k,n,rfl,hn,rfl⟩<;>rcases A0o hhi with ⟨rfl,rfl⟩|⟨k',n',rfl,hn',rfl⟩
 ·rfl
 ·simp[Instr.sliceBounds,Instr.sliceBound,asIntOf,hn',show n'<=(cap:Int) by omega]
 ·simp[Instr.sliceBounds,Instr.sliceBound,asIntOf,hn,show n<=(h:Int) by omega]
 ·simp[Instr.sliceBounds,Instr.sliceBound,asIntOf,hn,hn',show n'<=(cap:Int) by omega,show n<=max n' 0 by omega]
theorem sls_sound{t:TypeId}(ht:P.underlying t=some .string){s:ByteArray}{lo hi':Option Value}{v:Value}(h:slsR s lo hi'=some v):
  (Instr.sliceAt t (.string s) lo hi' none).run P w=.ok v w/\VRel ρ v v:=by
 have hs:(Instr.sliceAt t (.string s) lo hi' none).run P w=(Instr.slice t (.string s) lo hi' none).run P w:=by simp[Instr.sliceAt,run_underlying ht]
 rw[hs];unfold slsR at h;split at h
 ·rename_i hh ll h1 h2;split at h
  ·rename_i b1 b2;rw[A2L]at b1 b2;cases h;refine⟨?_,.str _⟩;have hb:=run_bounds (P:=P) (w:=w) (isSlice:=false) (cap:=s.size) h2 h1 rfl rfl b2 b1 (A0E _);have he:s.extract ll hh=⟨((s.data.toList.drop ll).take (hh-ll)).toArray⟩:=by
    apply ByteArray.ext;rw[ByteArray.data_extract];apply Array.ext';simp only[Array.toList_extract]
   simp only[Instr.slice,Sem.run_bind,run_underlying ht,Result.andThen_ok];have hsz:s.data.size=s.size:=rfl;rw[hsz]at hb;simp[hb,he]
  ·cases h
 grind
theorem foldl_push(l:List Int):∀(s:ByteArray),l.foldl (λ(r:ByteArray) n=>r.push (UInt8.ofNat n.toNat)) s=⟨s.data++(l.map λn=>UInt8.ofNat n.toNat).toArray⟩:=by
 induction l with
 |nil=>simp
 |cons n l ih =>
  simp_all
theorem cvbs_zero{s d e:TypeId}(hs:P.underlying s=some (.slice e))(he:P.underlying e=some (.int .u8))(hd:P.underlying d=some .string)(ad:Option Addr)(c:Nat):
  (convert s d (.slice ad 0 c)).run P w=.ok (.string ⟨#[]⟩) w:=by
 rw[run_convert_bytes_string w s d e ad 0 c hs he hd];cases ad with
 |none=>rfl
 |some ad =>
  rfl
theorem placesOf_sound:∀ {fs:List Field} {pl:List (Nat × Nat)},Y0 P fs=some pl->∀(f:Field->Sem (Nat × Nat)),(f=λf=>do pure (f.offset, <- sizeOf f.type)) ->
  (fs.mapM f).run P w=.ok pl w
 |[],pl,h,f,hf=>by simp only[Y0,Option.some.injEq]at h;simp_all
 |x::fs,pl,h,f,hf=>by
  simp only[Y0]at h;split at h
  ·rename_i i s hi hs;cases h;have ih:=placesOf_sound hs f hf;subst hf;simp only[List.mapM_cons,Sem.run_bind,run_sizeOf hi,Result.andThen_ok,Sem.run_pure,ih]
  grind
theorem C0y{ps:Array (Nat × Operand)}(hq:R9 ps.toList=some []):ps = #[]:=by
 have:∀l:List (Nat × Operand),R9 l=some []->l=[]:=by
  intro l h;cases l with
  |nil=>rfl
  |cons x r =>
   obtain⟨i,o⟩:=x;simp only[R9]at h;split at h<;>cases h
 grind
theorem bldA_run{t:TypeId}{i:TypeInfo}(hi:P.info? t=some i){n:Nat}{e:TypeId}(hu:P.underlying t=some (.array n e)){z:Value}(hz:i.zero=some z){ie:TypeInfo}(hie:P.info? e=some ie)
  {ps:Array (Nat × Operand)} (hq:R9 ps.toList=some []) {f:Operand->Value}:(Instr.build t (ps.map λ(i,x)=>(i,f x))).run P w=.ok (.agg z.cells) w:=by
 rw[C0y hq];unfold Instr.build;rw[Sem.run_bind,run_zeroValue hi hz,Result.andThen_ok,Sem.run_bind,run_underlying hu,Result.andThen_ok,Sem.run_bind,run_sizeOf hie,Result.andThen_ok];simp[Instr.fill]
end
inductive AOp where
 |box (x:Opd)
 |bsl (sz n:Nat) (zero:Array Value) (parts:List (Nat × Opd))
 |msl (sz bytes:Nat) (zero:Array Value) (l c:Opd)
def trA(P:Program):Op->Option AOp
 |.alloc e=>match P.info? e with
  |some i=>match i.zero with
   |some z=>if flat z then some (.box (.k z)) else none
   |none=>none
  |none=>none
 |.box _ x=>(opd x).map .box
 |.buildSlice t n ps=>match P.underlying t,R9 ps.toList with
  |some (.slice e),some qs=>match P.info? e with
   |some i=>match i.zero with
    |some z=>if D9l z.cells=true/\z.cells.size=i.size/\n*i.size<=16777216/\n<=maxLen then some (.bsl i.size n z.cells qs) else none
    |none=>none
   |none=>none
  |_,_=>none
 |.makeSlice t l c=>match P.underlying t,opd l,opd c with
  |some (.slice e),some l,some c=>match P.info? e with
   |some i=>match i.zero with
    |some z=>if D9l z.cells=true/\z.cells.size=i.size then some (.msl i.size i.bytes z.cells l c) else none
    |none=>none
   |none=>none
  |_,_,_=>none
 |_=>none
section
variable {P:Program} {ρ:Ren} {H:Hp} {w:World} {T:Tm} {a:Act}
end
inductive KKey where
 |s
 |b
 |i (k:IntKind)
deriving DecidableEq
def B1u:TypeDesc->Option KKey
 |.string=>some .s
 |.bool=>some .b
 |.int k=>some (.i k)
 |_=>none
inductive EOp where
 |st (n:Nat) (x v:Opd)
 |app (sz bytes:Nat) (s x:Opd)
 |apps (s x:Opd)
 |mkm (kd:KKey)
 |mup (kd:KKey) (m k v:Opd)
 |lkp (kd:KKey) (z:Value) (ok:Bool) (m k:Opd)
 |cvsb (x:Opd)
 |cpy (sz:Nat) (d s:Opd)
 |cpys (d s:Opd)
 |cap0 (x:Opd)
 |appz (sz bytes:Nat) (zero:Array Value) (s x:Opd)
def bytesV(s:ByteArray):List Value:=s.data.toList.map λb=>Value.int .u8 b.toNat
def E6t(P:Program)(t:TypeId)(r:Option Operand):Option EOp :=
 match P.underlying t with
 |some (.map kt _)=>match(P.underlying kt).bind B1u with
  |some kd=>match r with
   |none=>some (.mkm kd)
   |some r=>match opd r with
    |some (.k (.int _ _))=>some (.mkm kd)
    |_=>none
  |none=>none
 |_=>none
def B9v(P:Program)(t:TypeId)(m k v:Operand):Option EOp :=
 match P.underlying t with
 |some (.map kt _)=>match(P.underlying kt).bind B1u,opd m,opd k,opd v with
  |some kd,some m,some k,some v=>some (.mup kd m k v)
  |_,_,_,_=>none
 |_=>none
def D3q(P:Program)(t:TypeId)(m k:Operand)(ok:Bool):Option EOp :=
 match P.underlying t with
 |some (.map kt et)=>match(P.underlying kt).bind B1u,P.info? et,opd m,opd k with
  |some kd,some i,some m,some k=>match i.zero with
   |some z=>some (.lkp kd z ok m k)
   |none=>none
  |_,_,_,_=>none
 |_=>none
def E6u(P:Program)(s d:TypeId)(x:Operand):Option EOp :=
 match P.underlying s,P.underlying d with
 |some .string,some (.slice e)=>match P.underlying e,opd x with
  |some (.int .u8),some x=>if(P.info? e).map (λi=>(i.size,i.bytes))=some (1,1) then some (.cvsb x) else none
  |_,_=>none
 |_,_=>none
def E6v(P:Program)(args:List Operand)(ts:List TypeId):Option EOp :=
 match args,ts with
 |[d,s],[t,u]=>match opd d,opd s,P.underlying t with
  |some d,some s,some (.slice e)=>match P.info? e with
   |some i=>if 0<i.size then
     if t=u then some (.cpy i.size d s)
     else match P.underlying u with
      |some .string=>if i.size=1 then some (.cpys d s) else none
      |_=>none
    else none
   |none=>none
  |_,_,_=>none
 |_,_=>none
def E6w(P:Program)(args:List Operand)(ts:List TypeId):Option EOp :=
 match args,ts with
 |[d],[t]=>match opd d,P.underlying t with
  |some d,some (.slice _)=>some (.cap0 d)
  |_,_=>none
 |_,_=>none
def trE(P:Program):Op->Option EOp
 |.convert s d x=>E6u P s d x
 |.call { callee:=.builtin .copy,args,argTypes }=>E6v P args.toList argTypes.toList
 |.call { callee:=.builtin .cap,args,argTypes }=>E6w P args.toList argTypes.toList
 |.store t x v=>match P.info? t,opd x,opd v with
  |some i,some x,some v=>some (.st i.size x v)
  |_,_,_=>none
 |.makeMap t r=>E6t P t r
 |.mapUpdate t m k v=>B9v P t m k v
 |.insert t m k v=>B9v P t m k v
 |.lookup t m k ok=>D3q P t m k ok
 |.call { callee:=.builtin .append,args,argTypes }=>match args.toList,argTypes.toList with
  |[s,x],[t,u]=>match opd s,opd x,P.underlying t with
   |some s,some x,some (.slice e)=>match P.info? e with
    |some i=>match i.zero with
     |some z =>
      if z.cells.size=i.size/\0<i.size then
       if t=u then some (.app i.size i.bytes s x)
       else match P.underlying u with
        |some .string=>if i.size=1/\i.bytes=1 then some (.apps s x) else none
        |some (.int _)=>some (.appz i.size i.bytes z.cells s x)
        |_=>none
      else none
     |none=>none
    |none=>none
   |_,_,_=>none
  |_,_=>none
 |_=>none
section
variable {P:Program} {ρ:Ren} {H:Hp} {w:World} {T:Tm} {a:Act}
end
section
variable {P:Program} {ρ:Ren} {H:Hp} {w:World} {T:Tm} {a:Act}
structure Src (P:Program) (ρ:Ren) (w:World) (sz:Nat) (m:Nat) (src:List Value) (x':Value) (news:List Value):Prop where
 len:∀w0:World,(Builtin.lenOf x').run P w0=.ok m w0
 run:∀w0:World,w0.heap=w.heap->(Builtin.firstCells sz m x').run P w0=.ok news.toArray w0
 size:news.length=m*sz
 size':src.length=m*sz
 rel:∀(i:Nat) v,src[i]? = some v->v.oneCell'=true/\∃v',news[i]? = some v'/\VRel ρ v v'
 one:∀u∈news,u.oneCell'=true
theorem str_src(s:ByteArray):Src P ρ w 1 s.data.toList.length (bytesV s) (.string s) (bytesV s):=by
 have hone:∀u∈bytesV s, ∃n,u=.int .u8 n:=by
  intro u hu;simp only[bytesV,A0X]at hu
  grind
 refine⟨λw0=>?_,λw0 _=>?_,by simp[bytesV],by simp[bytesV],λi v hv=>?_,λu hu=>?_⟩
 ·rfl
 ·have he:(s.extract 0 s.data.toList.length)=s:=by
   simp
  simp only[Builtin.firstCells,Sem.run_pure,he]
  congr 1
  apply Array.ext';simp[bytesV]
 ·obtain⟨n,rfl⟩:=hone v (A0W hv);exact⟨rfl,_,hv,.int _ _⟩
 ·obtain⟨n,rfl⟩:=hone u hu;rfl
theorem C0n{t u ty e:TypeId}{i:TypeInfo}{z:Value}(ht:P.underlying t=some (.slice e)){D:TypeDesc}(hu:P.underlying u=some D)(hD:(∃e',D=.slice e')\/D=.string)(hi:P.info? e=some i)(hz:i.zero=some z)
  {base:Option Addr} {sLen sCap m:Nat} {x':Value} {olds news:List Value} (hlen:∀w0:World,(Builtin.lenOf x').run P w0=.ok m w0)
  (O8:∀w0:World,w0.heap=w.heap->(Builtin.firstCells i.size sLen (.slice base sLen sCap)).run P w0=.ok olds.toArray w0)
  (hnew:∀w0:World,w0.heap=w.heap->(Builtin.firstCells i.size m x').run P w0=.ok news.toArray w0)
  (hg:sCap<sLen+m) (h63:sLen+m<=maxLen) (hb:(sLen+m)*i.bytes<=140737488355328) :
  (Builtin.append_ #[t,u] ty #[.slice base sLen sCap,x']).run P w =
   .ok (.slice (some ⟨w.heap.size,0,none⟩) (sLen+m) (grownCap w (sLen+m) sCap e)) (w.drew.alloc (.cells (olds.toArray++news.toArray++Builtin.zeroCells z.cells (grownCap w (sLen+m) sCap e-(sLen+m))) e)):=by
 have hfit:=growslice_fits hg hb;have hn:¬(sLen+m<=sCap):=a8
 simp only[maxLen]at h63;have h63':¬(9223372036854775807<((sLen:Int)+(m:Int))):=a8
 have h48':¬(281474976710656<Builtin.nextslicecap (sLen+m) sCap*i.bytes):=a8
 have hf:=hnew w.drew rfl;have hfo:=O8 w.drew rfl;rcases hD with ⟨e',rfl⟩|rfl<;>simp[Builtin.append_,run_underlying ht,run_underlying hu,sizeOf,typeInfo,zeroValue,hi,hz,hlen,hn,h63',h48',Question.forced,hf,hfo,newRow,grownCap]
 all_goals
  congr 2
  apply Array.ext';simp
theorem C0l{t u ty e:TypeId}{i:TypeInfo}(ht:P.underlying t=some (.slice e)){D:TypeDesc}(hu:P.underlying u=some D)(hD:(∃e',D=.slice e')\/D=.string)(hi:P.info? e=some i)
  {x':Value} (hlen:∀w0:World,(Builtin.lenOf x').run P w0=.ok 0 w0) (hnew:∀w0:World,w0.heap=w.heap->(Builtin.firstCells i.size 0 x').run P w0=.ok #[] w0) :
  (Builtin.append_ #[t,u] ty #[.slice none 0 0,x']).run P w=.ok (.slice none 0 0) w:=by
 have hf:=hnew w rfl;rcases hD with ⟨e',rfl⟩|rfl<;>simp[Builtin.append_,run_underlying ht,run_underlying hu,sizeOf,typeInfo,hi,hlen,hf]
end
end Go.Eng
end

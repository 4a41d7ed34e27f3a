/-
  HELPERS of the claim: part 7 of its texts.
-/
import Derived.Shelf.Strings.OnBuilder
import Derived.Shelf.Strconv.Itoa3
import Derived.Test.YtcallbfckjlagaaDoorProg
import Derived.Test.YtcallbfckjlagaaDoorDecf
set_option linter.unusedVariables false
namespace Go.Proofs
open Go.Shelf
def Tryd.lays156_ren : Go.Shelf.Ren := ⟨fun | 156 => 50 | 165 => 64 | 166 => 65 | 169 => 66 | 240 => 83 | 241 => 84 | 276 => 92 | 277 => 93 | n => n, fun | 31 => 24 | 9 => 9 | 3 => 3 | 4 => 4 | 0 => 0 | 20 => 20 | 72 => 100 | 76 => 104 | 70 => 98 | 37 => 22 | 75 => 103 | 127 => 117 | 164 => 126 | 5 => 5 | 80 => 106 | n => n, fun | n => n⟩
theorem Tryd.lays156 : Go.Proofs.Lays.n156 Tryd.prog Tryd.lays156_ren := {
  mixed := by kernel_rfl
  f156 := Tryd.func50.trans (congrArg some (by kernel_rfl))
  f165 := Tryd.func64.trans (congrArg some (by kernel_rfl))
  f166 := Tryd.func65.trans (congrArg some (by kernel_rfl))
  f169 := Tryd.func66.trans (congrArg some (by kernel_rfl))
  f240 := Tryd.func83.trans (congrArg some (by kernel_rfl))
  f241 := Tryd.func84.trans (congrArg some (by kernel_rfl))
  f276 := Tryd.func92.trans (congrArg some (by kernel_rfl))
  f277 := Tryd.func93.trans (congrArg some (by kernel_rfl))
  t0 := Tryd.underlying0
  a0 := Tryd.isAgg0
  z0 := Tryd.sizeOf0
  v0 := Tryd.zeroValue0
  t3 := Tryd.underlying3
  a3 := Tryd.isAgg3
  z3 := Tryd.sizeOf3
  v3 := Tryd.zeroValue3
  t4 := Tryd.underlying4
  a4 := Tryd.isAgg4
  z4 := Tryd.sizeOf4
  v4 := Tryd.zeroValue4
  t9 := Tryd.underlying9
  a9 := Tryd.isAgg9
  z9 := Tryd.sizeOf9
  v9 := Tryd.zeroValue9
  t20 := Tryd.underlying20
  a20 := Tryd.isAgg20
  z20 := Tryd.sizeOf20
  v20 := Tryd.zeroValue20
  t31 := Tryd.underlying24
  a31 := Tryd.isAgg24
  z31 := Tryd.sizeOf24
  v31 := Tryd.zeroValue24
  t37 := Tryd.underlying22
  a37 := Tryd.isAgg22
  z37 := Tryd.sizeOf22
  v37 := Tryd.zeroValue22
  t70 := Tryd.underlying98
  a70 := Tryd.isAgg98
  z70 := Tryd.sizeOf98
  v70 := Tryd.zeroValue98
  t72 := Tryd.underlying100
  a72 := Tryd.isAgg100
  z72 := Tryd.sizeOf100
  v72 := Tryd.zeroValue100
  t75 := Tryd.underlying103
  a75 := Tryd.isAgg103
  z75 := Tryd.sizeOf103
  v75 := Tryd.zeroValue103
  t76 := Tryd.underlying104
  a76 := Tryd.isAgg104
  z76 := Tryd.sizeOf104
  v76 := Tryd.zeroValue104
  t127 := Tryd.underlying117
  a127 := Tryd.isAgg117
  z127 := Tryd.sizeOf117
  v127 := Tryd.zeroValue117
  t164 := Tryd.underlying126
  a164 := Tryd.isAgg126
  z164 := Tryd.sizeOf126
  v164 := Tryd.zeroValue126 }
theorem Tryd.Builder_Extra_156 : Builder.Extra Tryd.prog Tryd.lays156_ren := {
  sizeBuilder := by kernel_rfl
  liesBuilder := by kernel_rfl
  t5 := Tryd.underlying5
  a5 := Tryd.isAgg5
  z5 := Tryd.sizeOf5
  v5 := Tryd.zeroValue5
  infoByte := by kernel_rfl
  cellsByte := by kernel_rfl
  sizeByte := by kernel_rfl
  neB5 := by decide }
open Go.RowKit in
theorem Tryd.strings_Join_none (a : Option Addr) (c : Nat) (sep : ByteArray) (w : World) :
    Calls Tryd.prog 50 #[.slice a 0 c, .string sep] w fun e w' => e = .returned (.string ⟨#[]⟩) ∧ w' = w := Any.strings_Join_none Tryd.lays156 Tryd.Builder_Extra_156 a c sep w
open Go.RowKit in
theorem Tryd.strings_Join (bk o c : Nat) (xs : List ByteArray) (sep : ByteArray) (w : World) (hcells : ∀ (j : Nat) x, xs[j]? = some x → w.cell? ⟨bk, o + j, none⟩ = some (.string x)) (hbk : bk < w.heap.size) (hN : xs.length ≤ 140737488355328) (hcap : xs.length ≤ c) (hlen : (Lib.join (xs.map (·.data.toList)) sep.data.toList).length ≤ 140737488355328) :
    Calls Tryd.prog 50 #[.slice (some ⟨bk, o, none⟩) xs.length c, .string sep] w fun e w' => e = .returned (.string ⟨(Lib.join (xs.map (·.data.toList)) sep.data.toList).toArray⟩) ∧ Below w.heap.size w w' := Any.strings_Join Tryd.lays156 Tryd.Builder_Extra_156 bk o c xs sep w hcells hbk hN hcap hlen
def Tryd.lays171_ren : Go.Shelf.Ren := ⟨fun | 171 => 49 | 243 => 63 | 246 => 82 | 283 => 88 | 284 => 89 | 285 => 90 | 286 => 91 | 129 => 95 | 317 => 94 | 318 => 96 | 319 => 97 | 320 => 98 | 337 => 99 | 338 => 100 | n => n, fun | 3 => 3 | 9 => 9 | 2 => 2 | 4 => 4 | 171 => 121 | 0 => 0 | 53 => 87 | 37 => 22 | 5 => 5 | 173 => 124 | 212 => 130 | 51 => 131 | 20 => 20 | 213 => 132 | 46 => 88 | 232 => 135 | 233 => 136 | n => n, fun | 17 => 0 | 18 => 2 | 19 => 3 | n => n⟩
theorem Tryd.lays171 : Go.Proofs.Lays.n171 Tryd.prog Tryd.lays171_ren := {
  mixed := by kernel_rfl
  f129 := Tryd.func95.trans (congrArg some (by kernel_rfl))
  f171 := Tryd.func49.trans (congrArg some (by kernel_rfl))
  f243 := Tryd.func63.trans (congrArg some (by kernel_rfl))
  f246 := Tryd.func82.trans (congrArg some (by kernel_rfl))
  f283 := Tryd.func88.trans (congrArg some (by kernel_rfl))
  f284 := Tryd.func89.trans (congrArg some (by kernel_rfl))
  f285 := Tryd.func90.trans (congrArg some (by kernel_rfl))
  f286 := Tryd.func91.trans (congrArg some (by kernel_rfl))
  f317 := Tryd.func94.trans (congrArg some (by kernel_rfl))
  f318 := Tryd.func96.trans (congrArg some (by kernel_rfl))
  f319 := Tryd.func97.trans (congrArg some (by kernel_rfl))
  f320 := Tryd.func98.trans (congrArg some (by kernel_rfl))
  f337 := Tryd.func99.trans (congrArg some (by kernel_rfl))
  f338 := Tryd.func100.trans (congrArg some (by kernel_rfl))
  t0 := Tryd.underlying0
  a0 := Tryd.isAgg0
  z0 := Tryd.sizeOf0
  v0 := Tryd.zeroValue0
  t2 := Tryd.underlying2
  a2 := Tryd.isAgg2
  z2 := Tryd.sizeOf2
  v2 := Tryd.zeroValue2
  t3 := Tryd.underlying3
  a3 := Tryd.isAgg3
  z3 := Tryd.sizeOf3
  v3 := Tryd.zeroValue3
  t4 := Tryd.underlying4
  a4 := Tryd.isAgg4
  z4 := Tryd.sizeOf4
  v4 := Tryd.zeroValue4
  t5 := Tryd.underlying5
  a5 := Tryd.isAgg5
  z5 := Tryd.sizeOf5
  v5 := Tryd.zeroValue5
  t9 := Tryd.underlying9
  a9 := Tryd.isAgg9
  z9 := Tryd.sizeOf9
  v9 := Tryd.zeroValue9
  t20 := Tryd.underlying20
  a20 := Tryd.isAgg20
  z20 := Tryd.sizeOf20
  v20 := Tryd.zeroValue20
  t37 := Tryd.underlying22
  a37 := Tryd.isAgg22
  z37 := Tryd.sizeOf22
  v37 := Tryd.zeroValue22
  t46 := Tryd.underlying88
  a46 := Tryd.isAgg88
  z46 := Tryd.sizeOf88
  v46 := Tryd.zeroValue88
  t51 := Tryd.underlying131
  a51 := Tryd.isAgg131
  z51 := Tryd.sizeOf131
  v51 := Tryd.zeroValue131
  t53 := Tryd.underlying87
  a53 := Tryd.isAgg87
  z53 := Tryd.sizeOf87
  v53 := Tryd.zeroValue87
  t171 := Tryd.underlying121
  a171 := Tryd.isAgg121
  z171 := Tryd.sizeOf121
  v171 := Tryd.zeroValue121
  t173 := Tryd.underlying124
  a173 := Tryd.isAgg124
  z173 := Tryd.sizeOf124
  v173 := Tryd.zeroValue124
  t212 := Tryd.underlying130
  a212 := Tryd.isAgg130
  z212 := Tryd.sizeOf130
  v212 := Tryd.zeroValue130
  t213 := Tryd.underlying132
  a213 := Tryd.isAgg132
  z213 := Tryd.sizeOf132
  t232 := Tryd.underlying135
  a232 := Tryd.isAgg135
  z232 := Tryd.sizeOf135
  v232 := Tryd.zeroValue135
  t233 := Tryd.underlying136
  a233 := Tryd.isAgg136
  z233 := Tryd.sizeOf136
  v233 := Tryd.zeroValue136
  g17 := by kernel_rfl
  g18 := by kernel_rfl
  g19 := by kernel_rfl }
open Go.RowKit Go.Sort Go.Lib in
theorem Tryd.strconv_Itoa_small (i : Nat) (hi : i < 100) (w : World) :
    Calls Tryd.prog 49 #[.int .i64 i] w fun e w' => e = .returned (.string ⟨(Lib.decDigits i).toArray⟩) ∧ w' = w := Any.strconv_Itoa_small Tryd.lays171 i hi w
end Go.Proofs
set_option maxHeartbeats 4000000
set_option maxRecDepth 100000
set_option linter.unusedSimpArgs false
set_option linter.unusedVariables false
namespace Go.Proofs.YtcallbfckjlagaaDoor
open Go.Eng (IC IOper DReg IFn IsFn Callable)
open Go.Sym Go.Pb Go.RowKit
noncomputable section
def u25_10r : DReg := ⟨[oP 14 (.mv (.t 3)), oP 15 (.mv (.t 4)), ⟨some 16, .call 49 [.t 15], none⟩, oP 17 (.bin .add (.t 16) (.k (.string ⟨#[32]⟩))), oP 18 (.fad 0 (.t 5)), oP 19 (.ld 1 false (.t 18)), ⟨some 20, .call 49 [.t 19], none⟩, oP 21 (.bin .add (.t 17) (.t 20)), oP 22 (.bin .add (.t 21) (.k (.string ⟨#[32]⟩))), oP 23 (.fad 1 (.t 5)), oP 24 (.ld 1 false (.t 23)), ⟨some 25, .call 49 [.t 24], none⟩, oP 26 (.bin .add (.t 22) (.t 25)), oP 27 (.bin .add (.t 26) (.k (.string ⟨#[10]⟩))), ⟨some 28, .new (.bsl 1 1 #[.string ⟨#[]⟩] [(0, .t 27)]), none⟩, ⟨some 29, .eff (.app 1 16 (.t 14) (.t 28)), none⟩, oP 3 (.mv (.t 29))], [[], [], [1], [2, 1], [], [4], [5, 2, 4, 1], [3, 6, 2, 1, 5, 4], [7, 3, 6, 2, 1, 5, 4], [], [9], [10, 6, 9, 5, 2, 4, 1], [8, 11, 7, 3, 6, 2, 1, 5, 4, 10, 9], [12, 8, 11, 7, 3, 6, 2, 1, 5, 4, 10, 9], [13, 12, 8, 11, 7, 3, 6, 2, 1, 5, 4, 10, 9], [0, 14, 11, 13, 12, 8, 7, 3, 6, 2, 1, 5, 4, 10, 9], [15, 0, 1, 2, 3, 4, 5, 6, 7, 8, 9, 10, 11, 12, 13, 14]], [(0, none), (1, none), (4, none), (5, none), (9, none), (10, none), (2, some [0, 4, 5, 9, 10]), (3, none), (6, some [0, 9, 10, 3]), (7, none), (8, none), (11, some [0, 3, 7, 8]), (12, none), (13, none), (14, none), (15, some []), (16, some [])]⟩
def u25_10 : IC := .drw 17 u25_10r
def u25_9r : List IOper := [oP 11 (.mv (.t 9)), oP 12 (.iad 2 (.t 7) (.t 9)), oP 13 (.ld 2 true (.t 12)), ⟨some 5, .new (.box (.k (.agg #[.int .i64 0, .int .i64 0]))), none⟩, oP 4 (.mv (.t 11)), ⟨none, .eff (.st 2 (.t 5) (.t 13)), none⟩]
def u25_9 : IC := .seq (.reg u25_9r) u25_10
def u25_11r : List IOper := [oP 30 (.bin .add (.t 9) (.k (.int .i64 1))), oP 9 (.mv (.t 30))]
def u25_11 : IC := .reg u25_11r
def u25_8 : IC := .seq (.blk 1 u25_9) u25_11
def u25_7 : IC := .seq (.cond (.t 10) .skip (.exit 0)) u25_8
def u25_6r : List IOper := [oP 10 (.bin .lss (.t 9) (.t 8))]
def u25_6 : IC := .seq (.reg u25_6r) u25_7
def u25_5 : IC := .blk 0 (.loop u25_6)
def u25_4r : List IOper := [oP 6 (.fad 0 (.t 1)), oP 7 (.ld 1 false (.t 6)), oP 8 (.len (.t 7)), oP 9 (.mv (.k (.int .i64 0)))]
def u25_4 : IC := .seq (.reg u25_4r) u25_5
def u25_12r : List IOper := [oP 31 (.mv (.t 3)), ⟨some 32, .call 50 [.t 31, .k (.string ⟨#[]⟩)], none⟩, oP 2 (.mv (.t 32))]
def u25_12 : IC := .seq (.reg u25_12r) .ret
def u25_3 : IC := .seq u25_4 u25_12
def u25_2r : List IOper := [oP 3 (.mv (.k (.slice none 0 0)))]
def u25_2 : IC := .seq (.reg u25_2r) u25_3
def u25_1r : List IOper := [⟨some 1, .new (.box (.t 0)), none⟩, oP 2 (.mv (.k (.string ⟨#[]⟩)))]
def u25_1 : IC := .seq (.reg u25_1r) u25_2
def u25 : IFn := ⟨33, u25_1, [.tmp 2]⟩
end
theorem isU25 : IsFn Tryd.prog 25 u25 := by unfold IsFn; kernel_rfl
instance i25_10 : WR Tryd.prog 33 u25_10 (rDE 17 u25_10r [3, 4, 5, 7, 8, 9]) := ⟨mkDE⟩
instance i25_9 : WR Tryd.prog 33 u25_9 (rS u25_9r u25_10 [3, 7, 8, 9]) := ⟨mkS⟩
instance i25_11 : WR Tryd.prog 33 u25_11 (rE u25_11r [3, 7, 8, 9]) := ⟨mkE⟩
instance i25_8 : WR Tryd.prog 33 u25_8 (rB 1 u25_9 u25_11 [3, 7, 8, 9]) := ⟨mkB⟩
instance i25_7 : WR Tryd.prog 33 u25_7 (rC (.t 10) .skip (.exit 0) u25_8 [3, 7, 8, 9, 10]) := ⟨mkC⟩
instance i25_6 : WR Tryd.prog 33 u25_6 (rS u25_6r u25_7 [3, 7, 8, 9]) := ⟨mkS⟩
instance i25_5 : WR Tryd.prog 33 u25_5 (rBE 0 (.loop u25_6) [3, 7, 8, 9]) := ⟨mkBE⟩
instance i25_4 : WR Tryd.prog 33 u25_4 (rS u25_4r u25_5 [1, 3]) := ⟨mkS⟩
instance i25_12 : WR Tryd.prog 33 u25_12 (rS u25_12r .ret [3]) := ⟨mkS⟩
instance i25_3 : WR Tryd.prog 33 u25_3 (rQ u25_4 u25_12 [1, 3]) := ⟨mkQ⟩
instance i25_2 : WR Tryd.prog 33 u25_2 (rS u25_2r u25_3 [1]) := ⟨mkS⟩
instance i25_1 : WR Tryd.prog 33 u25_1 (rS u25_1r u25_2 [0]) := ⟨mkS⟩
attribute [go_sem] u25_10r u25_9r u25_11r u25_6r u25_4r u25_12r u25_2r u25_1r
theorem dec_eq : ∀ (m u : Nat), u < m → Lib.decDigits u = decB u := by
  intro m
  induction m with
  | zero => intro u h; omega
  | succ m ih =>
    intro u h
    unfold Lib.decDigits
    by_cases h0 : u < 10
    · rw [dif_pos h0, decB_lt h0]; rfl
    · rw [dif_neg h0, decB_ge h0, ih (u / 10) (by omega)]; rfl
theorem c_ItoaS (i : Nat) (hi : i < 100) : PC Tryd.prog 49 [I64 (i : Int)] (.str (decI i)) := by
  refine PC.of_calls (by kernel_rfl) rfl rfl fun ρ w vs hf hA => ?_
  have hvs : vs = #[.int .i64 (i : Int)] := by
    obtain ⟨y, h1, h2⟩ := hA.get (i := 0) rfl
    have hs : vs.size = 1 := hA.1.symm
    cases h2
    cases vs with | mk l => match l, hs, h1 with
      | [a], _, h1 => simp at h1; subst h1; rfl
  rw [hvs]
  refine (Tryd.strconv_Itoa_small i hi w).mono ?_
  rintro e w' ⟨rfl, rfl⟩
  have e : decI (i : Int) = Lib.decDigits i := by rw [dec_eq (i + 1) i (by omega), decI, if_neg (by omega), Int.natAbs_natCast]
  exact ⟨_, rfl, fun ρ' => by rw [e]; exact .mkStr, Below.refl _ _⟩
theorem c_Join (l : List (List UInt8)) (h1 : l.length ≤ 140737488355328) (h2 : l.flatten.length ≤ 140737488355328) : PC Tryd.prog 50 [strs l, .str []] (.str l.flatten) := by
  refine PC.of_calls (by kernel_rfl) (by simp [DV.nlL, DV.nl, nlL_strs]) rfl fun ρ w vs hf hA => ?_
  obtain ⟨y, g1, g2⟩ := hA.get (i := 0) rfl
  obtain ⟨z, g3, g4⟩ := hA.get (i := 1) rfl
  obtain rfl := g4.str_inv
  have hvs : vs = #[y, .string ⟨#[]⟩] := by
    have hs : vs.size = 2 := hA.1.symm
    cases vs with | mk r => match r, hs, g1, g3 with
      | [a, b], _, h1, h3 => simp at h1 h3; subst h1 h3; rfl
  rw [hvs]
  rcases g2.lst_inv with ⟨e0, e1 | ⟨a, c, e1⟩⟩ | ⟨u, b, off, c, row, e1, e2, e3, e4, e5, e6⟩
  · subst e1
    have : l = [] := by simpa using e0
    subst this
    refine (Tryd.strings_Join_none none 0 ⟨#[]⟩ w).mono ?_
    rintro e w' ⟨rfl, rfl⟩
    exact ⟨_, rfl, fun ρ' => .mkStr, Below.refl _ _⟩
  · subst e1
    have : l = [] := by simpa using e0
    subst this
    refine (Tryd.strings_Join_none (some a) c ⟨#[]⟩ w).mono ?_
    rintro e w' ⟨rfl, rfl⟩
    exact ⟨_, rfl, fun ρ' => .mkStr, Below.refl _ _⟩
  · subst e1
    obtain ⟨e, fr, hb⟩ := hf b row e2
    obtain ⟨bs, hbs⟩ : ∃ bs : List ByteArray, bs = l.map fun s => (⟨s.toArray⟩ : ByteArray) := ⟨_, rfl⟩
    have hL : (l.map DV.str).length = bs.length := by rw [hbs]; simp
    have hmap : bs.map (fun x => x.data.toList) = l := by
      rw [hbs, List.map_map]
      exact (List.map_congr_left fun s _ => rfl).trans (List.map_id l)
    have hj : Lib.join l [] = l.flatten := by
      unfold Lib.join
      cases l with
      | nil => rfl
      | cons x r => exact (Lib.join_cons x r []).trans (by simp [Lib.joinTail])
    have hmap2 : bs.map (·.data.toList) = l := hmap
    have p1 : ∀ (j : Nat) x, bs[j]? = some x → w.cell? ⟨b, off + j, none⟩ = some (.string x) := by
      intro j x hx
      rw [hbs, List.getElem?_map] at hx
      obtain ⟨s, hs, rfl⟩ := Option.map_eq_some_iff.1 hx
      have hc : (cellsL (l.map DV.str))[j]? = some (DV.str s) := by rw [cellsL_map1 (fun _ => rfl), List.getElem?_map, hs]; rfl
      obtain ⟨v, v1, v2⟩ := e6.get hc
      rw [v2.str_inv] at v1
      simp only [World.cell?, hb]
      exact v1
    have p2 : b < w.heap.size := (Array.getElem?_eq_some_iff.1 hb).1
    have p3 : bs.length ≤ 140737488355328 := by rw [hbs]; simpa using h1
    have p4 : bs.length ≤ c := by rw [← hL]; exact e3
    have p5 : (Lib.join (bs.map (·.data.toList)) (⟨#[]⟩ : ByteArray).data.toList).length ≤ 140737488355328 := by
      rw [hmap2]; exact hj ▸ h2
    rw [hL]
    have key := Tryd.strings_Join b off c bs ⟨#[]⟩ w p1 p2 p3 p4 p5
    rw [hmap2] at key
    refine key.mono fun e w' hq => ⟨_, hq.1, fun ρ' => ?_, hq.2⟩
    have e7 : Lib.join l (⟨#[]⟩ : ByteArray).data.toList = l.flatten := hj
    rw [e7]; exact .mkStr
theorem c_ItoaS' (n : Int) (h0 : 0 ≤ n) (h1 : n < 100) : PC Tryd.prog 49 [I64 n] (.str (decI n)) := by
  obtain ⟨i, rfl⟩ : ∃ i : Nat, n = (i : Int) := ⟨n.toNat, by omega⟩
  exact c_ItoaS i (by omega)
theorem c_ListingS (c : Prg) (hl : c.instrs.length ≤ 100) (hb : ∀ i ∈ c.instrs, (0 ≤ i.op ∧ i.op < 100) ∧ 0 ≤ i.A ∧ i.A < 100) : PC Tryd.prog 25 [c.v] (.str (lstF c.instrs 0)) := by
  refine PC.of mixedU isU25 (Nat.le_of_ble_eq_true rfl) (by simp [DV.nlL, DV.nl, nlL_ints, nlL_strs, nlL_instrs, nlL_entries, nlL_stp]) (by simp [DV.nlL, DV.nl, nlL_ints, nlL_strs, nlL_instrs, nlL_entries, nlL_stp]) ?_
  show IW Tryd.prog 33 u25_1 ⟨argT _, _, _⟩ (rt [.tmp 2] _)
  repeat' ((first | with_reducible refine wr ?_ | ((with_reducible refine wb2 ?_ ?_) <;> (intro hb; try simp only [hb])) | fail) <;> try simp only [go_sem, seval])
  refine i_loop (fun q : Nat × Option Nat => [(3, todoV q.2 q.1), (7, inssV c.instrs), (8, I64 c.instrs.length), (9, I64 q.1)]) (fun q => optH Sym.nil q.2 ⟨1, true, cellsL ((lnM (c.instrs.take q.1) 0).map DV.str)⟩) (fun q cc => q.1 ≤ c.instrs.length ∧ (q.2 = none → q.1 = 0) ∧ ∀ i, q.2 = some i → i < cc) (fun q => c.instrs.length - q.1) (0, none)
    (by simp [tmLe, tm, Tm.upd, todoV]) (Sub.nil _) ⟨by simp, by simp, by simp⟩ ?_
  rintro ⟨k, o⟩ cc ⟨hk, hno, hso⟩
  simp only at hk hno hso
  have hkl : (lnM (c.instrs.take k) 0).length = k := by rw [lnM_len, List.length_take]; omega
  by_cases hlt : k < c.instrs.length
  · have hd : decide ((k : Int) < c.instrs.length) = true := by simpa using hlt
    have hg := List.getElem?_eq_getElem hlt
    have hw : IntKind.i64.wrap ((k : Int) + 1) = ((k + 1 : Nat) : Int) := by rw [w64 (by omega) (by omega)]; omega
    have hx := hb _ (List.getElem_mem hlt)
    have l1 := decI_len (n := (k : Int)) (by omega) (by omega)
    have l2 := decI_len (n := c.instrs[k].op) (by omega) (by omega)
    have l3 := decI_len (n := c.instrs[k].A) (by omega) (by omega)
    have a1 := sadd (s := decI k) (t := [32]) (by first | omega | (simp only [List.length_append, List.length_singleton]; omega))
    have a2 := sadd (s := decI k ++ [32]) (t := decI c.instrs[k].op) (by first | omega | (simp only [List.length_append, List.length_singleton]; omega))
    have a3 := sadd (s := decI k ++ [32] ++ decI c.instrs[k].op) (t := [32]) (by first | omega | (simp only [List.length_append, List.length_singleton]; omega))
    have a4 := sadd (s := decI k ++ [32] ++ decI c.instrs[k].op ++ [32]) (t := decI c.instrs[k].A) (by first | omega | (simp only [List.length_append, List.length_singleton]; omega))
    have a5 := sadd (s := decI k ++ [32] ++ decI c.instrs[k].op ++ [32] ++ decI c.instrs[k].A) (t := [10]) (by first | omega | (simp only [List.length_append, List.length_singleton]; omega))
    have est : cellsL ((lnM (c.instrs.take (k + 1)) 0).map DV.str) = cellsL ((lnM (c.instrs.take k) 0).map DV.str) ++ [DV.str (lineB k c.instrs[k])] := by
      rw [lnM_step hg, List.map_append, cellsL_append]; rfl
    have hL := strC_len (lnM (c.instrs.take k) 0)
    rw [hkl] at hL
    have fa1 : ¬cc + 1 = cc := by omega
    have fa2 : ¬cc + 2 = cc := by omega
    have fa3 : ¬cc + 3 = cc := by omega
    have fa4 : ¬cc + 4 = cc := by omega
    have fa5 : ¬cc + 5 = cc := by omega
    have fa6 : ¬cc + 6 = cc := by omega
    have fa7 : ¬cc + 7 = cc := by omega
    have fa8 : ¬cc + 8 = cc := by omega
    have fa9 : ¬cc + 9 = cc := by omega
    have fa10 : ¬cc + 10 = cc := by omega
    have fa11 : ¬cc + 11 = cc := by omega
    have fa12 : ¬cc + 12 = cc := by omega
    have fa13 : ¬cc + 13 = cc := by omega
    have fa14 : ¬cc + 14 = cc := by omega
    have fa15 : ¬cc + 15 = cc := by omega
    have fa16 : ¬cc + 16 = cc := by omega
    have fa17 : ¬cc + 17 = cc := by omega
    have fa18 : ¬cc + 18 = cc := by omega
    rcases o with _ | id
    · obtain rfl := hno rfl
      have z0 : ((0 : Nat) : Int) = 0 := rfl
      have hw0 := w64 (n := 1) (by omega) (by omega)
      simp only [z0] at hd a1 a2 a3 a4 a5
      repeat' ((first | with_reducible refine wr ?_ | ((with_reducible refine wb2 ?_ ?_) <;> (intro hb; try simp only [hb])) | ((with_reducible refine k_eval (r_appn' (by decide) (by decide) (by decide)) ?_)) | ((with_reducible refine x_eval (r_appn' (by decide) (by decide) (by decide)) ?_)) | ((with_reducible refine AC.call ((c_ItoaS' 0 (by omega) (by omega)).at _ _) ?_); rintro _ _ _ ⟨rfl, rfl, rfl⟩ -) | ((with_reducible refine AC.call ((c_ItoaS' _ hx.1.1 hx.1.2).at _ _) ?_); rintro _ _ _ ⟨rfl, rfl, rfl⟩ -) | ((with_reducible refine AC.call ((c_ItoaS' _ hx.2.1 hx.2.2).at _ _) ?_); rintro _ _ _ ⟨rfl, rfl, rfl⟩ -) | fail) <;> try simp only [go_sem, seval, hd, hg, hw0, a1, a2, a3, a4, a5, fa1, fa2, fa3, fa4, fa5, fa6, fa7, fa8, fa9, fa10, fa11, fa12, fa13, fa14, fa15, fa16, fa17, fa18])
      have est0 : cellsL ((lnM (c.instrs.take 1) 0).map DV.str) = [DV.str (decI 0 ++ ([32] : List UInt8) ++ decI (c.instrs[0]'hlt).op ++ ([32] : List UInt8) ++ decI (c.instrs[0]'hlt).A ++ ([10] : List UInt8))] := est
      exact ⟨(1, some (cc + 1 + 17)), ⟨rfl, rfl⟩, by simp only [est0]; (intro j b hj; simp only [optH, Hp.upd, Hp.del, Sym.nil] at hj ⊢; (repeat' split at hj) <;> (repeat' split) <;> first | exact hj | (exfalso; omega) | cases hj), inv ⟨hlt, by simp, fun i hi => by cases hi; omega⟩, by simp only; omega⟩
    · have hid := hso id rfl
      have fb1 : ¬cc + 1 = id := by omega
      have fb2 : ¬cc + 2 = id := by omega
      have fb3 : ¬cc + 3 = id := by omega
      have fb4 : ¬cc + 4 = id := by omega
      have fb5 : ¬cc + 5 = id := by omega
      have fb6 : ¬cc + 6 = id := by omega
      have fb7 : ¬cc + 7 = id := by omega
      have fb8 : ¬cc + 8 = id := by omega
      have fb9 : ¬cc + 9 = id := by omega
      have fb10 : ¬cc + 10 = id := by omega
      have fb11 : ¬cc + 11 = id := by omega
      have fb12 : ¬cc + 12 = id := by omega
      have fb13 : ¬cc + 13 = id := by omega
      have fb14 : ¬cc + 14 = id := by omega
      have fb15 : ¬cc + 15 = id := by omega
      have fb16 : ¬cc + 16 = id := by omega
      have fb17 : ¬cc + 17 = id := by omega
      have fb18 : ¬cc + 18 = id := by omega
      have fb0 : ¬cc = id := by omega
      have fc1 : ¬id = cc + 1 := by omega
      have fc2 : ¬id = cc + 2 := by omega
      have fc3 : ¬id = cc + 3 := by omega
      have fc4 : ¬id = cc + 4 := by omega
      have fc5 : ¬id = cc + 5 := by omega
      have fc6 : ¬id = cc + 6 := by omega
      have fc7 : ¬id = cc + 7 := by omega
      have fc8 : ¬id = cc + 8 := by omega
      have fc9 : ¬id = cc + 9 := by omega
      have fc10 : ¬id = cc + 10 := by omega
      have fc11 : ¬id = cc + 11 := by omega
      have fc12 : ¬id = cc + 12 := by omega
      have fc13 : ¬id = cc + 13 := by omega
      have fc14 : ¬id = cc + 14 := by omega
      have fc15 : ¬id = cc + 15 := by omega
      have fc16 : ¬id = cc + 16 := by omega
      have fc17 : ¬id = cc + 17 := by omega
      have fc18 : ¬id = cc + 18 := by omega
      have fc0 : ¬id = cc := by omega
      repeat' ((first | with_reducible refine wr ?_ | ((with_reducible refine wb2 ?_ ?_) <;> (intro hb; try simp only [hb])) | ((with_reducible refine k_eval (b_appx hL (by omega) (by omega)) ?_)) | ((with_reducible refine x_eval (b_appx hL (by omega) (by omega)) ?_)) | ((with_reducible refine AC.call ((c_ItoaS' (k : Int) (by omega) (by omega)).at _ _) ?_); rintro _ _ _ ⟨rfl, rfl, rfl⟩ -) | ((with_reducible refine AC.call ((c_ItoaS' _ hx.1.1 hx.1.2).at _ _) ?_); rintro _ _ _ ⟨rfl, rfl, rfl⟩ -) | ((with_reducible refine AC.call ((c_ItoaS' _ hx.2.1 hx.2.2).at _ _) ?_); rintro _ _ _ ⟨rfl, rfl, rfl⟩ -) | fail) <;> try simp only [go_sem, seval, hd, hg, hw, a1, a2, a3, a4, a5, fa1, fa2, fa3, fa4, fa5, fa6, fa7, fa8, fa9, fa10, fa11, fa12, fa13, fa14, fa15, fa16, fa17, fa18, fb0, fc0, fb1, fc1, fb2, fc2, fb3, fc3, fb4, fc4, fb5, fc5, fb6, fc6, fb7, fc7, fb8, fc8, fb9, fc9, fb10, fc10, fb11, fc11, fb12, fc12, fb13, fc13, fb14, fc14, fb15, fc15, fb16, fc16, fb17, fc17, fb18, fc18])
      exact ⟨(k + 1, some (cc + 1 + 17)), ⟨rfl, rfl⟩, by simp only [est, lineB]; (intro j b hj; simp only [optH, Hp.upd, Hp.del, Sym.nil] at hj ⊢; (repeat' split at hj) <;> (repeat' split) <;> first | exact hj | (exfalso; omega) | cases hj), inv ⟨hlt, by simp, fun i hi => by cases hi; omega⟩, by simp only; omega⟩
  have hd : decide ((k : Int) < c.instrs.length) = false := by simpa using hlt
  rw [List.take_of_length_le (by omega)] at hkl ⊢
  have hll := lstF_len c.instrs 0 (by omega) (fun i hi => by have := hb i hi; exact ⟨⟨by omega, by omega⟩, by omega, by omega⟩)
  have hj := c_Join (lnM c.instrs 0) (by omega) (by rw [lnM_flat]; omega)
  rw [lnM_flat] at hj
  have hkn : k = c.instrs.length := by omega
  rcases o with _ | id
  · have hk0 := hno rfl
    have h00 : c.instrs = [] := List.eq_nil_of_length_eq_zero (by omega)
    repeat' ((first | with_reducible refine wr ?_ | ((with_reducible refine wb2 ?_ ?_) <;> (intro hb; try simp only [hb])) | fail) <;> try simp only [go_sem, seval, hd])
    refine AC.call (hj.give (H0 := Sym.nil) ⟨fun _ h => h, fun ρ w vs h1 h2 => ⟨ρ, rfl, h1, ?_, Ext.refl _ _ _⟩⟩) ?_
    · rw [h00]
      exact ⟨h2.1, fun i x y hx hy => by
        match i with
        | 0 => cases hx; exact (h2.2 0 _ y rfl hy).snil_lst
        | 1 => cases hx; exact h2.2 1 _ y rfl hy
        | _ + 2 => cases hx⟩
    · rintro v H' c' ⟨rfl, rfl, rfl⟩ -
      simp only [go_sem, seval]
      repeat' ((first | with_reducible refine wr ?_ | ((with_reducible refine wb2 ?_ ?_) <;> (intro hb; try simp only [hb])) | fail) <;> try simp only [go_sem, seval])
      exact pc_ret rfl
  · repeat' ((first | with_reducible refine wr ?_ | ((with_reducible refine wb2 ?_ ?_) <;> (intro hb; try simp only [hb])) | fail) <;> try simp only [go_sem, seval, hd])
    refine AC.call (hj.give (H0 := Sym.nil) (GL.one (id := id) h_same rfl (.cons _ _ _ _ (fz_slc (u := 1) (by rw [List.length_map, hkl]) (str_unit _) ⟨[], by simp⟩) (.cons _ _ _ _ (.same _) .nil)))) ?_
    rintro v H' c' ⟨rfl, rfl, rfl⟩ -
    simp only [go_sem, seval]
    repeat' ((first | with_reducible refine wr ?_ | ((with_reducible refine wb2 ?_ ?_) <;> (intro hb; try simp only [hb])) | fail) <;> try simp only [go_sem, seval])
    exact pc_ret rfl
end Go.Proofs.YtcallbfckjlagaaDoor
set_option maxHeartbeats 4000000
set_option maxRecDepth 100000
set_option linter.unusedSimpArgs false
set_option linter.unusedVariables false
namespace Go.Proofs.YtcallbfckjlagaaDoor
open Go.Eng (IC IOper DReg IFn IsFn Callable)
open Go.Sym Go.Pb Go.RowKit
noncomputable section
def u13_9r : List IOper := [oP 44 (.mv (.t 3)), oP 45 (.bin .eql (.t 44) (.k (.int .i64 0))), oP 46 (.mv (.t 45)), oG 47 (.mv (.t 2)) 46, ⟨some 48, .new (.bsl 1 3 #[.int .i64 0] [(0, .k (.int .i64 0)), (1, .k (.int .i64 1)), (2, .k (.int .i64 0))]), some (46, true)⟩, ⟨some 49, .call 24 [.t 47, .t 48], some (46, true)⟩, oP 50 (.pick (.t 46) (.t 49) (.k (.bool false))), oP 51 (.mv (.t 50)), oG 52 (.ld 7 true (.t 4)) 51, ⟨some 53, .call 14 [.t 52], some (51, true)⟩, oG 54 (.bin .eql (.t 53) (.k (.int .i64 53))) 51, oP 55 (.pick (.t 51) (.t 54) (.k (.bool false))), oP 56 (.mv (.t 55)), oG 57 (.mv (.t 6)) 56, oG 58 (.bin .eql (.t 57) (.k (.int .i64 0))) 56, oP 59 (.pick (.t 56) (.t 58) (.k (.bool false))), oP 60 (.mv (.t 59)), oG 61 (.mv (.t 5)) 60, oG 62 (.lens (.t 61)) 60, oG 63 (.bin .eql (.t 62) (.k (.int .i64 18))) 60, oP 64 (.pick (.t 60) (.t 63) (.k (.bool false))), oP 65 (.mv (.t 64)), oG 66 (.mv (.t 8)) 65, oG 67 (.bin .eql (.t 66) (.k (.int .i64 0))) 65, oP 68 (.pick (.t 65) (.t 67) (.k (.bool false))), oP 69 (.mv (.t 68)), oG 70 (.ld 7 true (.t 7)) 69, oG 71 (.ld 7 true (.t 1)) 69, ⟨some 72, .call 18 [.t 70, .t 71], some (69, true)⟩, oP 73 (.pick (.t 69) (.t 72) (.k (.bool false))), oP 74 (.mv (.t 73)), oG 75 (.mv (.t 9)) 74, oG 76 (.bin .eql (.t 75) (.k (.int .i64 0))) 74, oP 77 (.pick (.t 74) (.t 76) (.k (.bool false))), oP 78 (.mv (.t 77)), oG 79 (.mv (.t 10)) 78, oP 80 (.pick (.t 78) (.t 79) (.k (.bool false))), oP 81 (.mv (.t 80)), oG 82 (.ld 7 true (.t 4)) 81, ⟨some 83, .call 25 [.t 82], some (81, true)⟩, oG 84 (.bin .eql (.t 83) (.k (.string ⟨#[48, 32, 49, 53, 32, 48, 10, 49, 32, 51, 49, 32, 48, 10]⟩))) 81, oP 85 (.pick (.t 81) (.t 84) (.k (.bool false))), oP 0 (.mv (.t 85))]
def u13_9 : IC := .seq (.reg u13_9r) .ret
def u13_8r : List IOper := [oP 40 (.ld 7 true (.t 1)), ⟨some 41, .call 29 [.t 40, .k (.int .i64 0), .k (.int .i64 1), .k (.int .i64 0)], none⟩, oP 39 (.mv (.t 41)), oP 42 (.ext (.t 39) 0), oP 43 (.ext (.t 39) 1), oP 9 (.mv (.t 42)), oP 10 (.mv (.t 43))]
def u13_8 : IC := .seq (.reg u13_8r) u13_9
def u13_7r : List IOper := [oP 35 (.mv (.t 5)), ⟨some 36, .call 16 [.t 35], none⟩, oP 34 (.mv (.t 36)), oP 37 (.ext (.t 34) 0), oP 38 (.ext (.t 34) 1), ⟨some 7, .new (.box (.k (.agg #[.slice none 0 0, .slice none 0 0, .slice none 0 0, .slice none 0 0, .slice none 0 0, .int .i64 0, .int .i64 0]))), none⟩, ⟨none, .eff (.st 7 (.t 7) (.t 37)), none⟩, oP 8 (.mv (.t 38))]
def u13_7 : IC := .seq (.reg u13_7r) u13_8
def u13_6r : List IOper := [oP 30 (.ld 7 true (.t 1)), ⟨some 31, .call 19 [.t 30], none⟩, oP 29 (.mv (.t 31)), oP 32 (.ext (.t 29) 0), oP 33 (.ext (.t 29) 1), oP 5 (.mv (.t 32)), oP 6 (.mv (.t 33))]
def u13_6 : IC := .seq (.reg u13_6r) u13_7
def u13_5r : List IOper := [oP 25 (.fad 0 (.t 1)), oP 26 (.ld 1 false (.t 25)), oP 27 (.slc 2 (.t 26) (some (.k (.int .i64 1))) none), oP 28 (.fad 0 (.t 4)), ⟨none, .eff (.st 1 (.t 28) (.t 27)), none⟩]
def u13_5 : IC := .seq (.reg u13_5r) u13_6
def u13_4r : List IOper := [oP 24 (.ld 7 true (.t 1)), ⟨some 4, .new (.box (.k (.agg #[.slice none 0 0, .slice none 0 0, .slice none 0 0, .slice none 0 0, .slice none 0 0, .int .i64 0, .int .i64 0]))), none⟩, ⟨none, .eff (.st 7 (.t 4) (.t 24)), none⟩]
def u13_4 : IC := .seq (.reg u13_4r) u13_5
def u13_3r : List IOper := [oP 20 (.ld 7 true (.t 1)), ⟨some 21, .call 20 [.t 20], none⟩, oP 19 (.mv (.t 21)), oP 22 (.ext (.t 19) 0), oP 23 (.ext (.t 19) 1), oP 2 (.mv (.t 22)), oP 3 (.mv (.t 23))]
def u13_3 : IC := .seq (.reg u13_3r) u13_4
def u13_2r : List IOper := [oP 11 (.bld #[.int .i64 0, .int .i64 0] [(0, 1), (1, 1)] [(0, .k (.int .i64 1)), (1, .k (.int .i64 5))]), oP 12 (.bld #[.int .i64 0, .int .i64 0] [(0, 1), (1, 1)] [(0, .k (.int .i64 15))]), oP 13 (.bld #[.int .i64 0, .int .i64 0] [(0, 1), (1, 1)] [(0, .k (.int .i64 31))]), ⟨some 14, .new (.bsl 2 3 #[.int .i64 0, .int .i64 0] [(0, .t 11), (1, .t 12), (2, .t 13)]), none⟩, oP 15 (.bld #[.int .i64 0, .int .i64 0, .int .i64 0, .int .i64 0] [(0, 1), (1, 1), (2, 1), (3, 1)] [(1, .k (.int .i64 1))]), ⟨some 16, .new (.bsl 4 1 #[.int .i64 0, .int .i64 0, .int .i64 0, .int .i64 0] [(0, .t 15)]), none⟩, ⟨some 17, .new (.bsl 1 1 #[.int .i64 0] [(0, .k (.int .i64 1))]), none⟩, oP 18 (.bld #[.slice none 0 0, .slice none 0 0, .slice none 0 0, .slice none 0 0, .slice none 0 0, .int .i64 0, .int .i64 0] [(0, 1), (1, 1), (2, 1), (3, 1), (4, 1), (5, 1), (6, 1)] [(0, .t 14), (2, .t 16), (3, .t 17)]), ⟨some 1, .new (.box (.k (.agg #[.slice none 0 0, .slice none 0 0, .slice none 0 0, .slice none 0 0, .slice none 0 0, .int .i64 0, .int .i64 0]))), none⟩, ⟨none, .eff (.st 7 (.t 1) (.t 18)), none⟩]
def u13_2 : IC := .seq (.reg u13_2r) u13_3
def u13_1r : List IOper := [oP 0 (.mv (.k (.bool false)))]
def u13_1 : IC := .seq (.reg u13_1r) u13_2
def u13 : IFn := ⟨86, u13_1, [.tmp 0]⟩
end
theorem isU13 : IsFn Tryd.prog 13 u13 := by unfold IsFn; kernel_rfl
instance i13_9 : WR Tryd.prog 86 u13_9 (rS u13_9r .ret [1, 2, 3, 4, 5, 6, 7, 8, 9, 10]) := ⟨mkS⟩
instance i13_8 : WR Tryd.prog 86 u13_8 (rS u13_8r u13_9 [1, 2, 3, 4, 5, 6, 7, 8]) := ⟨mkS⟩
instance i13_7 : WR Tryd.prog 86 u13_7 (rS u13_7r u13_8 [1, 2, 3, 4, 5, 6]) := ⟨mkS⟩
instance i13_6 : WR Tryd.prog 86 u13_6 (rS u13_6r u13_7 [1, 2, 3, 4]) := ⟨mkS⟩
instance i13_5 : WR Tryd.prog 86 u13_5 (rS u13_5r u13_6 [1, 2, 3, 4]) := ⟨mkS⟩
instance i13_4 : WR Tryd.prog 86 u13_4 (rS u13_4r u13_5 [1, 2, 3]) := ⟨mkS⟩
instance i13_3 : WR Tryd.prog 86 u13_3 (rS u13_3r u13_4 [1]) := ⟨mkS⟩
instance i13_2 : WR Tryd.prog 86 u13_2 (rS u13_2r u13_3 []) := ⟨mkS⟩
instance i13_1 : WR Tryd.prog 86 u13_1 (rS u13_1r u13_2 []) := ⟨mkS⟩
attribute [go_sem] u13_9r u13_8r u13_7r u13_6r u13_5r u13_4r u13_3r u13_2r u13_1r
def sn1 : Prg := ⟨[⟨1, 5⟩, ⟨15, 0⟩, ⟨31, 0⟩], [], [⟨0, 1, 0, 0⟩], [1], [], 0, 0⟩
def sn2 : Prg := ⟨[⟨15, 0⟩, ⟨31, 0⟩], [], [⟨0, 1, 0, 0⟩], [1], [], 0, 0⟩
theorem sn1_valid : validM sn1 = 0 := by decide +kernel
theorem sn2_valid : validM sn2 = 53 := by decide +kernel
theorem sn1_hts : vHts sn1 = [0, 1, 0] := by decide +kernel
theorem numI_lt {n : Int} (h : zig n < 128) : numI n = [UInt8.ofNat (zig n)] := numB_lt h
theorem sn1_enc : encV sn1 = [6, 2, 10, 30, 0, 62, 0, 0, 2, 0, 2, 0, 0, 2, 2, 0, 0, 0] := by
  rw [encV, if_pos sn1_valid]
  simp [encM, sn1, insB, entB, numsB, numI_lt, zig]
theorem sn1_dec : decP [6, 2, 10, 30, 0, 62, 0, 0, 2, 0, 2, 0, 0, 2, 2, 0, 0, 0] = some sn1 := by
  have e : rdPrg ([6, 2, 10, 30, 0, 62, 0, 0, 2, 0, 2, 0, 0, 2, 2, 0, 0, 0], false) = (sn1, ([], false)) := by decide +kernel
  rw [decP, e]
  simp [sn1_valid, sn1_enc]
theorem sn2_list : lstF sn2.instrs 0 = [48, 32, 49, 53, 32, 48, 10, 49, 32, 51, 49, 32, 48, 10] := by
  have d0 : decI 0 = [48] := by rw [decI, if_neg (by omega), decB_lt (by decide)]; rfl
  have d1 : decI 1 = [49] := by rw [decI, if_neg (by omega), decB_lt (by decide)]; rfl
  have d15 : decI 15 = [49, 53] := by rw [decI, if_neg (by omega), decB_ge (by decide), decB_lt (by decide)]; rfl
  have d31 : decI 31 = [51, 49] := by rw [decI, if_neg (by omega), decB_ge (by decide), decB_lt (by decide)]; rfl
  simp [lstF, sn2, lineB, d0, d1, d15, d31]
theorem c_sane : PC Tryd.prog 13 [] (.bool true) := by
  refine PC.of mixedU isU13 (Nat.le_of_ble_eq_true rfl) (by simp [DV.nlL, DV.nl, nlL_ints, nlL_strs, nlL_instrs, nlL_entries, nlL_stp]) (by simp [DV.nlL, DV.nl, nlL_ints, nlL_strs, nlL_instrs, nlL_entries, nlL_stp]) ?_
  show IW Tryd.prog 86 u13_1 ⟨argT _, _, _⟩ (rt [.tmp 0] _)
  repeat' ((first | with_reducible refine wr ?_ | ((with_reducible refine wb2 ?_ ?_) <;> (intro hb; try simp only [hb])) | fail) <;> try simp only [go_sem, seval])
  refine AC.ghost ((g_one (a := 0) (k := 3) (u := 2) (u' := 2) (pre := []) (suf := [.snil, .slc 1 0 1, .slc 2 0 1, .snil, I64 0, I64 0]) (xs := sn1.instrs.map Ins.v) (junk := []) rfl rfl (by simp [DV.one]) rfl (ins_unit _) (by decide)).trans
    ((g_one (a := 1) (k := 3) (u := 4) (u' := 4) (pre := [inssV sn1.instrs, .snil]) (suf := [.slc 2 0 1, .snil, I64 0, I64 0]) (xs := sn1.entries.map Ent.v) (junk := []) rfl rfl (by simp [DV.one]) rfl (ent_unit _) (by decide)).trans
    ((g_one (a := 2) (k := 3) (u := 1) (u' := 1) (pre := [inssV sn1.instrs, .snil, entsV sn1.entries]) (suf := [.snil, I64 0, I64 0]) (xs := sn1.prios.map I64) (junk := []) rfl rfl (by simp [DV.one]) rfl (ints_unit _) (by decide)).trans
    ((g_nil (k := 3) (pre := [inssV sn1.instrs]) (suf := [entsV sn1.entries, ints sn1.prios, .snil, I64 0, I64 0]) rfl).trans
    ((g_nil (k := 3) (pre := [inssV sn1.instrs, strs [], entsV sn1.entries, ints sn1.prios]) (suf := [I64 0, I64 0]) rfl).trans
    (GL.less (H0 := Sym.nil.upd 3 ⟨0, true, [inssV sn1.instrs, strs [], entsV sn1.entries, ints sn1.prios, ints [], I64 0, I64 0]⟩) fun j => ?_)))))) ?_
  · by_cases ej : j = 3
    · subst ej; exact .inr rfl
    · left; rw [h_ne ej]; rfl
  have h18 : (((18 : Nat) : Int) == 18) = true := rfl
  have hsl : ∀ H, slcR H 2 (inssV sn1.instrs) (some (I64 1)) none = some (inssV sn2.instrs) := fun H => rfl
  refine AC.call ((c_Heights sn1 (by simp [sn1]) (by simp [sn1])).at _ _) ?_
  rintro _ _ _ ⟨rfl, rfl, rfl⟩ -
  rw [sn1_valid, sn1_hts]
  simp only [go_sem, seval, h18]
  repeat' ((first | with_reducible refine wr ?_ | ((with_reducible refine wb2 ?_ ?_) <;> (intro hb; try simp only [hb])) | fail) <;> try simp only [go_sem, seval, hsl, h18])
  refine AC.call ((c_Encode sn1 (by simp [sn1]) (by simp [sn1])).at _ _) ?_
  rintro _ _ _ ⟨rfl, rfl, rfl⟩ -
  rw [sn1_valid, sn1_enc]
  simp only [go_sem, seval, h18]
  repeat' ((first | with_reducible refine wr ?_ | ((with_reducible refine wb2 ?_ ?_) <;> (intro hb; try simp only [hb])) | fail) <;> try simp only [go_sem, seval, hsl, h18])
  refine AC.call ((c_Decode _ (by simp)).at _ _) ?_
  rintro _ _ _ ⟨rfl, rfl, rfl⟩ -
  have hdv : decV (some sn1) = .tup [.agg [inssV sn1.instrs, strs [], entsV sn1.entries, ints sn1.prios, ints [], I64 0, I64 0], I64 0] := rfl
  rw [sn1_dec, hdv]
  simp only [go_sem, seval, h18]
  repeat' ((first | with_reducible refine wr ?_ | ((with_reducible refine wb2 ?_ ?_) <;> (intro hb; try simp only [hb])) | fail) <;> try simp only [go_sem, seval, hsl, h18])
  refine AC.call ((c_Find sn1 (by simp [sn1]) 0 1 0).at _ _) ?_
  rintro _ _ _ ⟨rfl, rfl, rfl⟩ -
  have hfd : findV (findM 0 1 0 sn1.entries) = .tup [I64 0, .bool true] := rfl
  rw [hfd]
  simp only [go_sem, seval, h18]
  repeat' ((first | with_reducible refine wr ?_ | ((with_reducible refine wb2 ?_ ?_) <;> (intro hb; try simp only [hb])) | fail) <;> try simp only [go_sem, seval, hsl, h18])
  refine AC.call ((c_SameInts [0, 1, 0] [0, 1, 0] (by simp)).lend (H0 := Sym.nil) rfl (GL.one (id := 6) h_same rfl (.cons _ _ _ _ (.same _) (.cons _ _ _ _ (fz_slc (u := 1) rfl (ints_unit [0, 1, 0]) ⟨[], rfl⟩) .nil)))) ?_
  rintro _ _ _ ⟨rfl, rfl, rfl⟩ -
  simp only [go_sem, seval, h18]
  repeat' ((first | with_reducible refine wr ?_ | ((with_reducible refine wb2 ?_ ?_) <;> (intro hb; try simp only [hb])) | fail) <;> try simp only [go_sem, seval, hsl, h18])
  refine AC.call ((c_valid sn2 (by simp [sn2]) (by simp [sn2])).at _ _) ?_
  rintro _ _ _ ⟨rfl, rfl, rfl⟩ -
  rw [sn2_valid]
  simp only [go_sem, seval, h18]
  repeat' ((first | with_reducible refine wr ?_ | ((with_reducible refine wb2 ?_ ?_) <;> (intro hb; try simp only [hb])) | fail) <;> try simp only [go_sem, seval, hsl, h18])
  refine AC.call ((c_SameR sn1 sn1 (by simp [sn1]) (by simp [sn1]) (by simp [sn1]) (by simp [sn1]) (by simp [sn1])).at _ _) ?_
  rintro _ _ _ ⟨rfl, rfl, rfl⟩ -
  simp only [go_sem, seval, h18]
  repeat' ((first | with_reducible refine wr ?_ | ((with_reducible refine wb2 ?_ ?_) <;> (intro hb; try simp only [hb])) | fail) <;> try simp only [go_sem, seval, hsl, h18])
  refine AC.call ((c_ListingS sn2 (by simp [sn2]) (by simp [sn2])).at _ _) ?_
  rintro _ _ _ ⟨rfl, rfl, rfl⟩ -
  rw [sn2_list]
  simp only [go_sem, seval, h18]
  repeat' ((first | with_reducible refine wr ?_ | ((with_reducible refine wb2 ?_ ?_) <;> (intro hb; try simp only [hb])) | fail) <;> try simp only [go_sem, seval, hsl, h18])
  exact pc_ret rfl
end Go.Proofs.YtcallbfckjlagaaDoor
set_option maxHeartbeats 4000000
set_option maxRecDepth 100000
set_option linter.unusedSimpArgs false
set_option linter.unusedVariables false
namespace Go.Proofs.YtcallbfckjlagaaDoor
open Go.Eng (IC IOper DReg IFn IsFn)
open Go.Sym Go.Pb
noncomputable section
def u52_6r : List IOper := [oP 5 (.mv (.k (.int .i64 0)))]
def u52_6 : IC := .reg u52_6r
def u52_5 : IC := .cond (.t 15) u52_6 .skip
def u52_4r : List IOper := [oP 10 (.mv (.t 1)), oP 11 (.bin .leq (.t 10) (.k (.int .i64 0))), oP 12 (.mv (.t 11)), oG 13 (.mv (.t 5)) 12, oG 14 (.bin .gtr (.t 13) (.k (.int .i64 5))) 12, oP 15 (.pick (.t 12) (.t 14) (.k (.bool false)))]
def u52_4 : IC := .seq (.reg u52_4r) u52_5
def u52_12r : List IOper := [oP 19 (.mv (.t 0)), ⟨some 20, .call 27 [.t 19, .k (.int .i64 3)], none⟩, oP 21 (.bld #[.int .i64 0, .int .i64 0] [(0, 1), (1, 1)] [(0, .k (.int .i64 2)), (1, .t 20)]), ⟨some 22, .new (.bsl 2 1 #[.int .i64 0, .int .i64 0] [(0, .t 21)]), none⟩, oP 4 (.mv (.t 22))]
def u52_12 : IC := .seq (.reg u52_12r) .ret
def u52_15r : List IOper := [oP 25 (.mv (.t 0)), ⟨some 26, .call 27 [.t 25, .k (.int .i64 64)], none⟩, oP 27 (.bld #[.int .i64 0, .int .i64 0] [(0, 1), (1, 1)] [(0, .k (.int .i64 4)), (1, .t 26)]), ⟨some 28, .new (.bsl 2 1 #[.int .i64 0, .int .i64 0] [(0, .t 27)]), none⟩, oP 4 (.mv (.t 28))]
def u52_15 : IC := .seq (.reg u52_15r) .ret
def u52_18r : List IOper := [oP 31 (.mv (.t 0)), ⟨some 32, .call 27 [.t 31, .k (.int .i64 2)], none⟩, oP 33 (.bld #[.int .i64 0, .int .i64 0] [(0, 1), (1, 1)] [(0, .k (.int .i64 5)), (1, .t 32)]), ⟨some 34, .new (.bsl 2 1 #[.int .i64 0, .int .i64 0] [(0, .t 33)]), none⟩, oP 4 (.mv (.t 34))]
def u52_18 : IC := .seq (.reg u52_18r) .ret
def u52_21r : List IOper := [oP 37 (.mv (.t 0)), ⟨some 38, .call 27 [.t 37, .k (.int .i64 2)], none⟩, oP 39 (.bld #[.int .i64 0, .int .i64 0] [(0, 1), (1, 1)] [(0, .k (.int .i64 6)), (1, .t 38)]), ⟨some 40, .new (.bsl 2 1 #[.int .i64 0, .int .i64 0] [(0, .t 39)]), none⟩, oP 4 (.mv (.t 40))]
def u52_21 : IC := .seq (.reg u52_21r) .ret
def u52_24r : List IOper := [oP 43 (.mv (.t 0)), ⟨some 44, .call 27 [.t 43, .k (.int .i64 2)], none⟩, oP 45 (.bin .add (.k (.int .i64 7)) (.t 44)), oP 46 (.bld #[.int .i64 0, .int .i64 0] [(0, 1), (1, 1)] [(0, .t 45)]), ⟨some 47, .new (.bsl 2 1 #[.int .i64 0, .int .i64 0] [(0, .t 46)]), none⟩, oP 4 (.mv (.t 47))]
def u52_24 : IC := .seq (.reg u52_24r) .ret
def u52_27r : List IOper := [oP 50 (.mv (.t 0)), oP 51 (.mv (.t 1)), oP 52 (.bin .sub (.t 51) (.k (.int .i64 1))), ⟨some 53, .call 52 [.t 50, .t 52], none⟩, oP 54 (.mv (.t 0)), ⟨some 55, .call 27 [.t 54, .k (.int .i64 2)], none⟩, oP 56 (.bin .add (.k (.int .i64 9)) (.t 55)), oP 57 (.bld #[.int .i64 0, .int .i64 0] [(0, 1), (1, 1)] [(0, .t 56)]), ⟨some 58, .new (.bsl 2 1 #[.int .i64 0, .int .i64 0] [(0, .t 57)]), none⟩, ⟨some 59, .eff (.app 2 16 (.t 53) (.t 58)), none⟩, oP 4 (.mv (.t 59))]
def u52_27 : IC := .seq (.reg u52_27r) .ret
def u52_31r : List IOper := [oP 62 (.bin .eql (.t 16) (.k (.int .i64 8))), oP 60 (.mv (.t 62))]
def u52_31 : IC := .reg u52_31r
def u52_30 : IC := .cond (.t 60) .skip u52_31
def u52_29r : List IOper := [oP 61 (.bin .eql (.t 16) (.k (.int .i64 7))), oP 60 (.mv (.t 61))]
def u52_29 : IC := .seq (.reg u52_29r) u52_30
def u52_35r : List IOper := [oP 71 (.mv (.t 6)), oP 72 (.mv (.t 7)), ⟨some 73, .eff (.app 2 16 (.t 71) (.t 72)), none⟩, oP 74 (.mv (.t 0)), ⟨some 75, .call 27 [.t 74, .k (.int .i64 13)], none⟩, oP 76 (.bin .add (.k (.int .i64 12)) (.t 75)), oP 77 (.bld #[.int .i64 0, .int .i64 0] [(0, 1), (1, 1)] [(0, .k (.int .i64 11)), (1, .t 76)]), ⟨some 78, .new (.bsl 2 1 #[.int .i64 0, .int .i64 0] [(0, .t 77)]), none⟩, ⟨some 79, .eff (.app 2 16 (.t 73) (.t 78)), none⟩, oP 4 (.mv (.t 79))]
def u52_35 : IC := .seq (.reg u52_35r) .ret
def u52_34r : List IOper := [oP 67 (.mv (.t 0)), oP 68 (.mv (.t 1)), oP 69 (.bin .sub (.t 68) (.k (.int .i64 1))), ⟨some 70, .call 52 [.t 67, .t 69], none⟩, oP 7 (.mv (.t 70))]
def u52_34 : IC := .seq (.reg u52_34r) u52_35
def u52_33r : List IOper := [oP 63 (.mv (.t 0)), oP 64 (.mv (.t 1)), oP 65 (.bin .sub (.t 64) (.k (.int .i64 1))), ⟨some 66, .call 52 [.t 63, .t 65], none⟩, oP 6 (.mv (.t 66))]
def u52_33 : IC := .seq (.reg u52_33r) u52_34
def u52_32 : IC := .cond (.t 60) u52_33 .skip
def u52_28 : IC := .seq u52_29 u52_32
def u52_26 : IC := .cond (.t 48) u52_27 u52_28
def u52_25r : List IOper := [oP 49 (.bin .eql (.t 16) (.k (.int .i64 6))), oP 48 (.mv (.t 49))]
def u52_25 : IC := .seq (.reg u52_25r) u52_26
def u52_23 : IC := .cond (.t 41) u52_24 u52_25
def u52_22r : List IOper := [oP 42 (.bin .eql (.t 16) (.k (.int .i64 5))), oP 41 (.mv (.t 42))]
def u52_22 : IC := .seq (.reg u52_22r) u52_23
def u52_20 : IC := .cond (.t 35) u52_21 u52_22
def u52_19r : List IOper := [oP 36 (.bin .eql (.t 16) (.k (.int .i64 4))), oP 35 (.mv (.t 36))]
def u52_19 : IC := .seq (.reg u52_19r) u52_20
def u52_17 : IC := .cond (.t 29) u52_18 u52_19
def u52_16r : List IOper := [oP 30 (.bin .eql (.t 16) (.k (.int .i64 3))), oP 29 (.mv (.t 30))]
def u52_16 : IC := .seq (.reg u52_16r) u52_17
def u52_14 : IC := .cond (.t 23) u52_15 u52_16
def u52_13r : List IOper := [oP 24 (.bin .eql (.t 16) (.k (.int .i64 2))), oP 23 (.mv (.t 24))]
def u52_13 : IC := .seq (.reg u52_13r) u52_14
def u52_11 : IC := .cond (.t 17) u52_12 u52_13
def u52_10r : List IOper := [oP 18 (.bin .eql (.t 16) (.k (.int .i64 1))), oP 17 (.mv (.t 18))]
def u52_10 : IC := .seq (.reg u52_10r) u52_11
def u52_9 : IC := .blk 0 u52_10
def u52_8r : List IOper := [oP 16 (.mv (.t 5))]
def u52_8 : IC := .seq (.reg u52_8r) u52_9
def u52_36r : List IOper := [⟨some 80, .new (.bsl 1 10 #[.int .i64 0] [(0, .k (.int .i64 0)), (1, .k (.int .i64 1)), (2, .k (.int .i64 2)), (3, .k (.int .i64 3)), (4, .k (.int .i64 (-1))), (5, .k (.int .i64 7)), (6, .k (.int .i64 1000)), (7, .k (.int .i64 2147483647)), (8, .k (.int .i64 (-2147483647))), (9, .k (.int .i64 65536))]), none⟩, oP 81 (.mv (.t 0)), ⟨some 82, .call 27 [.t 81, .k (.int .i64 10)], none⟩, oP 83 (.iad 1 (.t 80) (.t 82)), oP 84 (.ld 1 false (.t 83)), oP 85 (.bld #[.int .i64 0, .int .i64 0] [(0, 1), (1, 1)] [(0, .k (.int .i64 1)), (1, .t 84)]), ⟨some 86, .new (.bsl 2 1 #[.int .i64 0, .int .i64 0] [(0, .t 85)]), none⟩, oP 4 (.mv (.t 86))]
def u52_36 : IC := .seq (.reg u52_36r) .ret
def u52_7 : IC := .seq u52_8 u52_36
def u52_3 : IC := .seq u52_4 u52_7
def u52_2r : List IOper := [oP 8 (.mv (.t 0)), ⟨some 9, .call 27 [.t 8, .k (.int .i64 9)], none⟩, oP 5 (.mv (.t 9))]
def u52_2 : IC := .seq (.reg u52_2r) u52_3
def u52_1r : List IOper := [oP 4 (.mv (.k (.slice none 0 0)))]
def u52_1 : IC := .seq (.reg u52_1r) u52_2
def u52 : IFn := ⟨87, u52_1, [.tmp 4]⟩
end
theorem isU52 : IsFn Tryd.prog 52 u52 := by unfold IsFn; kernel_rfl
instance i52_6 : WR Tryd.prog 87 u52_6 (rE u52_6r [0, 1]) := ⟨mkE⟩
instance i52_5 : WR Tryd.prog 87 u52_5 (rCE (.t 15) u52_6 .skip [0, 1, 5, 15]) := ⟨mkCE⟩
instance i52_4 : WR Tryd.prog 87 u52_4 (rS u52_4r u52_5 [0, 1, 5]) := ⟨mkS⟩
instance i52_12 : WR Tryd.prog 87 u52_12 (rS u52_12r .ret [0]) := ⟨mkS⟩
instance i52_15 : WR Tryd.prog 87 u52_15 (rS u52_15r .ret [0]) := ⟨mkS⟩
instance i52_18 : WR Tryd.prog 87 u52_18 (rS u52_18r .ret [0]) := ⟨mkS⟩
instance i52_21 : WR Tryd.prog 87 u52_21 (rS u52_21r .ret [0]) := ⟨mkS⟩
instance i52_24 : WR Tryd.prog 87 u52_24 (rS u52_24r .ret [0]) := ⟨mkS⟩
instance i52_27 : WR Tryd.prog 87 u52_27 (rS u52_27r .ret [0, 1]) := ⟨mkS⟩
instance i52_31 : WR Tryd.prog 87 u52_31 (rE u52_31r [0, 1, 16]) := ⟨mkE⟩
instance i52_30 : WR Tryd.prog 87 u52_30 (rCE (.t 60) .skip u52_31 [0, 1, 16, 60]) := ⟨mkCE⟩
instance i52_29 : WR Tryd.prog 87 u52_29 (rS u52_29r u52_30 [0, 1, 16]) := ⟨mkS⟩
instance i52_35 : WR Tryd.prog 87 u52_35 (rS u52_35r .ret [0, 6, 7]) := ⟨mkS⟩
instance i52_34 : WR Tryd.prog 87 u52_34 (rS u52_34r u52_35 [0, 1, 6]) := ⟨mkS⟩
instance i52_33 : WR Tryd.prog 87 u52_33 (rS u52_33r u52_34 [0, 1]) := ⟨mkS⟩
instance i52_32 : WR Tryd.prog 87 u52_32 (rCE (.t 60) u52_33 .skip [0, 1, 60]) := ⟨mkCE⟩
instance i52_28 : WR Tryd.prog 87 u52_28 (rQ u52_29 u52_32 [0, 1, 16]) := ⟨mkQ⟩
instance i52_26 : WR Tryd.prog 87 u52_26 (rCE (.t 48) u52_27 u52_28 [0, 1, 16, 48]) := ⟨mkCE⟩
instance i52_25 : WR Tryd.prog 87 u52_25 (rS u52_25r u52_26 [0, 1, 16]) := ⟨mkS⟩
instance i52_23 : WR Tryd.prog 87 u52_23 (rCE (.t 41) u52_24 u52_25 [0, 1, 16, 41]) := ⟨mkCE⟩
instance i52_22 : WR Tryd.prog 87 u52_22 (rS u52_22r u52_23 [0, 1, 16]) := ⟨mkS⟩
instance i52_20 : WR Tryd.prog 87 u52_20 (rCE (.t 35) u52_21 u52_22 [0, 1, 16, 35]) := ⟨mkCE⟩
instance i52_19 : WR Tryd.prog 87 u52_19 (rS u52_19r u52_20 [0, 1, 16]) := ⟨mkS⟩
instance i52_17 : WR Tryd.prog 87 u52_17 (rCE (.t 29) u52_18 u52_19 [0, 1, 16, 29]) := ⟨mkCE⟩
instance i52_16 : WR Tryd.prog 87 u52_16 (rS u52_16r u52_17 [0, 1, 16]) := ⟨mkS⟩
instance i52_14 : WR Tryd.prog 87 u52_14 (rCE (.t 23) u52_15 u52_16 [0, 1, 16, 23]) := ⟨mkCE⟩
instance i52_13 : WR Tryd.prog 87 u52_13 (rS u52_13r u52_14 [0, 1, 16]) := ⟨mkS⟩
instance i52_11 : WR Tryd.prog 87 u52_11 (rCE (.t 17) u52_12 u52_13 [0, 1, 16, 17]) := ⟨mkCE⟩
instance i52_10 : WR Tryd.prog 87 u52_10 (rS u52_10r u52_11 [0, 1, 16]) := ⟨mkS⟩
instance i52_9 : WR Tryd.prog 87 u52_9 (rBE 0 u52_10 [0, 1, 16]) := ⟨mkBE⟩
instance i52_8 : WR Tryd.prog 87 u52_8 (rS u52_8r u52_9 [0, 1, 5]) := ⟨mkS⟩
instance i52_36 : WR Tryd.prog 87 u52_36 (rS u52_36r .ret [0]) := ⟨mkS⟩
instance i52_7 : WR Tryd.prog 87 u52_7 (rQ u52_8 u52_36 [0, 1, 5]) := ⟨mkQ⟩
instance i52_3 : WR Tryd.prog 87 u52_3 (rQ u52_4 u52_7 [0, 1, 5]) := ⟨mkQ⟩
instance i52_2 : WR Tryd.prog 87 u52_2 (rS u52_2r u52_3 [0, 1]) := ⟨mkS⟩
instance i52_1 : WR Tryd.prog 87 u52_1 (rS u52_1r u52_2 [0, 1]) := ⟨mkS⟩
attribute [go_sem] u52_6r u52_4r u52_12r u52_15r u52_18r u52_21r u52_24r u52_27r u52_31r u52_29r u52_35r u52_34r u52_33r u52_25r u52_22r u52_19r u52_16r u52_13r u52_10r u52_8r u52_36r u52_2r u52_1r
theorem v_end {l : List UInt8} {H H' : Hp} {cc t id c' p : Nat} {L : List Ins} {d : DV} (hfr : ∀ id, cc ≤ id → H id = none) (h1 : cc ≤ id) (h2 : id < c') (htc : t < cc) (hd : d = .slc id 0 L.length)
    (hT : H' t = some (tapeB l p)) (hI : H' id = some ⟨2, true, insC L⟩) (hO : ∀ j, j < cc → j ≠ t → H' j = H j) :
    ∃ v2 H2, GL H' [d] H2 [v2] ∧ ∃ id, cc ≤ id ∧ id < c' ∧ v2 = .slc id 0 L.length ∧ H2 = (H.upd t (tapeB l p)).upd id ⟨2, true, insC L⟩ := by
  subst hd
  refine ⟨_, (H.upd t (tapeB l p)).upd id ⟨2, true, insC L⟩, GL.less fun j => ?_, id, h1, h2, rfl, rfl⟩
  by_cases e1 : j = id
  · subst e1; right; rw [h_same, hI]
  rw [h_ne e1]
  by_cases e2 : j = t
  · subst e2; right; rw [h_same, hT]
  rw [h_ne e2]
  by_cases e3 : j < cc
  · right; exact (hO j e3 e2).symm
  · left; exact hfr j (by omega)
theorem c_value (l : List UInt8) (hl : l.length ≤ 100000) : ∀ (d : Nat), d ≤ 2 → ∀ (p : Nat), p ≤ l.length → ∀ (H : Hp) (cc t : Nat), H t = some (tapeB l p) → t < cc →
    AC Tryd.prog 52 [.ptr t 0, I64 d] H cc (fun v H' c' => ∃ id, cc ≤ id ∧ id < c' ∧ v = .slc id 0 (valueM l d p).1.length ∧ H' = (H.upd t (tapeB l (valueM l d p).2)).upd id ⟨2, true, insC (valueM l d p).1⟩) := by
  intro d
  induction d with
  | zero =>
    intro hd2 p hp H cc t ht htc
    refine AC.body mixedU isU52 (Nat.le_of_ble_eq_true rfl) fun hfr => ?_
    show IW Tryd.prog 87 u52_1 ⟨argT _, _, _⟩ (rt [.tmp 4] _)
    repeat' ((first | with_reducible refine wr ?_ | ((with_reducible refine wb2 ?_ ?_) <;> (intro hb; try simp only [hb])) | fail) <;> try simp only [go_sem, seval])
    refine AC.call (c_next l hl p hp 9 (by omega) (by omega) H cc t ht htc) ?_
    rintro v H' c' ⟨rfl, rfl⟩ hcc
    have hp1 := nextM_le (n := 9) hp
    have hk := nextM_lt (l := l) (p := p) (n := 9) (by omega)
    obtain ⟨k0, p1, e0⟩ : ∃ k0 p1, nextM l p 9 = (k0, p1) := ⟨_, _, rfl⟩
    rw [e0] at hp1 hk ⊢
    simp only at hp1 hk
    have hv : k0 = 1 ∨ k0 = 2 ∨ k0 = 3 ∨ k0 = 4 ∨ k0 = 5 ∨ (k0 = 0 ∨ k0 = 6 ∨ k0 = 7 ∨ k0 = 8) := by omega
    have n0 : ((0 : Nat) : Int) = 0 := rfl
    have n1 : ((1 : Nat) : Int) = 1 := rfl
    have n2 : ((2 : Nat) : Int) = 2 := rfl
    have n3 : ((3 : Nat) : Int) = 3 := rfl
    have n4 : ((4 : Nat) : Int) = 4 := rfl
    have n5 : ((5 : Nat) : Int) = 5 := rfl
    have n6 : ((6 : Nat) : Int) = 6 := rfl
    have n7 : ((7 : Nat) : Int) = 7 := rfl
    have n8 : ((8 : Nat) : Int) = 8 := rfl
    rcases hv with rfl | rfl | rfl | rfl | rfl | hv
    · simp only [go_sem, seval, n0, n1, n2, n3, n4, n5, Int.reduceGT, Int.reduceBEq, Int.reduceLE, decide_true, decide_false]
      repeat' ((first | with_reducible refine wr ?_ | ((with_reducible refine wb2 ?_ ?_) <;> (intro hb; try simp only [hb])) | fail) <;> try simp only [go_sem, seval, n0, n1, n2, n3, n4, n5, Int.reduceGT, Int.reduceBEq, Int.reduceLE, decide_true, decide_false])
      refine AC.call (c_next l hl p1 hp1 3 (by omega) (by omega) (H.upd t (tapeB l p1)) c' t h_same (by omega)) ?_
      rintro v H' c2 ⟨rfl, rfl⟩ hcc2
      have hq := nextM_lt (l := l) (p := p1) (n := 3) (by omega)
      have hadd := w64 (n := 7 + ((nextM l p1 3).1 : Int)) (by omega) (by omega)
      simp only [go_sem, seval]
      repeat' ((first | with_reducible refine wr ?_ | ((with_reducible refine wb2 ?_ ?_) <;> (intro hb; try simp only [hb])) | fail) <;> try simp only [go_sem, seval, hadd])
      have ev : valueM l 0 p = ([⟨2, ((nextM l p1 3).1 : Int)⟩], (nextM l p1 3).2) := by simp [valueM, e0]
      rw [ev]
      refine v_end hfr (by omega) (by omega) htc rfl ?_ ?_ fun j h1 h2 => ?_
      · rw [h_ne (by omega), h_same]
      · rw [h_same, insC_one]
      · rw [h_ne (by omega), h_ne h2, h_ne h2]
    · simp only [go_sem, seval, n0, n1, n2, n3, n4, n5, Int.reduceGT, Int.reduceBEq, Int.reduceLE, decide_true, decide_false]
      repeat' ((first | with_reducible refine wr ?_ | ((with_reducible refine wb2 ?_ ?_) <;> (intro hb; try simp only [hb])) | fail) <;> try simp only [go_sem, seval, n0, n1, n2, n3, n4, n5, Int.reduceGT, Int.reduceBEq, Int.reduceLE, decide_true, decide_false])
      refine AC.call (c_next l hl p1 hp1 64 (by omega) (by omega) (H.upd t (tapeB l p1)) c' t h_same (by omega)) ?_
      rintro v H' c2 ⟨rfl, rfl⟩ hcc2
      have hq := nextM_lt (l := l) (p := p1) (n := 64) (by omega)
      have hadd := w64 (n := 7 + ((nextM l p1 64).1 : Int)) (by omega) (by omega)
      simp only [go_sem, seval]
      repeat' ((first | with_reducible refine wr ?_ | ((with_reducible refine wb2 ?_ ?_) <;> (intro hb; try simp only [hb])) | fail) <;> try simp only [go_sem, seval, hadd])
      have ev : valueM l 0 p = ([⟨4, ((nextM l p1 64).1 : Int)⟩], (nextM l p1 64).2) := by simp [valueM, e0]
      rw [ev]
      refine v_end hfr (by omega) (by omega) htc rfl ?_ ?_ fun j h1 h2 => ?_
      · rw [h_ne (by omega), h_same]
      · rw [h_same, insC_one]
      · rw [h_ne (by omega), h_ne h2, h_ne h2]
    · simp only [go_sem, seval, n0, n1, n2, n3, n4, n5, Int.reduceGT, Int.reduceBEq, Int.reduceLE, decide_true, decide_false]
      repeat' ((first | with_reducible refine wr ?_ | ((with_reducible refine wb2 ?_ ?_) <;> (intro hb; try simp only [hb])) | fail) <;> try simp only [go_sem, seval, n0, n1, n2, n3, n4, n5, Int.reduceGT, Int.reduceBEq, Int.reduceLE, decide_true, decide_false])
      refine AC.call (c_next l hl p1 hp1 2 (by omega) (by omega) (H.upd t (tapeB l p1)) c' t h_same (by omega)) ?_
      rintro v H' c2 ⟨rfl, rfl⟩ hcc2
      have hq := nextM_lt (l := l) (p := p1) (n := 2) (by omega)
      have hadd := w64 (n := 7 + ((nextM l p1 2).1 : Int)) (by omega) (by omega)
      simp only [go_sem, seval]
      repeat' ((first | with_reducible refine wr ?_ | ((with_reducible refine wb2 ?_ ?_) <;> (intro hb; try simp only [hb])) | fail) <;> try simp only [go_sem, seval, hadd])
      have ev : valueM l 0 p = ([⟨5, ((nextM l p1 2).1 : Int)⟩], (nextM l p1 2).2) := by simp [valueM, e0]
      rw [ev]
      refine v_end hfr (by omega) (by omega) htc rfl ?_ ?_ fun j h1 h2 => ?_
      · rw [h_ne (by omega), h_same]
      · rw [h_same, insC_one]
      · rw [h_ne (by omega), h_ne h2, h_ne h2]
    · simp only [go_sem, seval, n0, n1, n2, n3, n4, n5, Int.reduceGT, Int.reduceBEq, Int.reduceLE, decide_true, decide_false]
      repeat' ((first | with_reducible refine wr ?_ | ((with_reducible refine wb2 ?_ ?_) <;> (intro hb; try simp only [hb])) | fail) <;> try simp only [go_sem, seval, n0, n1, n2, n3, n4, n5, Int.reduceGT, Int.reduceBEq, Int.reduceLE, decide_true, decide_false])
      refine AC.call (c_next l hl p1 hp1 2 (by omega) (by omega) (H.upd t (tapeB l p1)) c' t h_same (by omega)) ?_
      rintro v H' c2 ⟨rfl, rfl⟩ hcc2
      have hq := nextM_lt (l := l) (p := p1) (n := 2) (by omega)
      have hadd := w64 (n := 7 + ((nextM l p1 2).1 : Int)) (by omega) (by omega)
      simp only [go_sem, seval]
      repeat' ((first | with_reducible refine wr ?_ | ((with_reducible refine wb2 ?_ ?_) <;> (intro hb; try simp only [hb])) | fail) <;> try simp only [go_sem, seval, hadd])
      have ev : valueM l 0 p = ([⟨6, ((nextM l p1 2).1 : Int)⟩], (nextM l p1 2).2) := by simp [valueM, e0]
      rw [ev]
      refine v_end hfr (by omega) (by omega) htc rfl ?_ ?_ fun j h1 h2 => ?_
      · rw [h_ne (by omega), h_same]
      · rw [h_same, insC_one]
      · rw [h_ne (by omega), h_ne h2, h_ne h2]
    · simp only [go_sem, seval, n0, n1, n2, n3, n4, n5, Int.reduceGT, Int.reduceBEq, Int.reduceLE, decide_true, decide_false]
      repeat' ((first | with_reducible refine wr ?_ | ((with_reducible refine wb2 ?_ ?_) <;> (intro hb; try simp only [hb])) | fail) <;> try simp only [go_sem, seval, n0, n1, n2, n3, n4, n5, Int.reduceGT, Int.reduceBEq, Int.reduceLE, decide_true, decide_false])
      refine AC.call (c_next l hl p1 hp1 2 (by omega) (by omega) (H.upd t (tapeB l p1)) c' t h_same (by omega)) ?_
      rintro v H' c2 ⟨rfl, rfl⟩ hcc2
      have hq := nextM_lt (l := l) (p := p1) (n := 2) (by omega)
      have hadd := w64 (n := 7 + ((nextM l p1 2).1 : Int)) (by omega) (by omega)
      simp only [go_sem, seval]
      repeat' ((first | with_reducible refine wr ?_ | ((with_reducible refine wb2 ?_ ?_) <;> (intro hb; try simp only [hb])) | fail) <;> try simp only [go_sem, seval, hadd])
      have ev : valueM l 0 p = ([⟨7 + ((nextM l p1 2).1 : Int), 0⟩], (nextM l p1 2).2) := by simp [valueM, e0]
      rw [ev]
      refine v_end hfr (by omega) (by omega) htc rfl ?_ ?_ fun j h1 h2 => ?_
      · rw [h_ne (by omega), h_same]
      · rw [h_same, insC_one]
      · rw [h_ne (by omega), h_ne h2, h_ne h2]
    · rcases hv with rfl | rfl | rfl | rfl
      all_goals
        simp only [go_sem, seval, n0, n1, n2, n3, n4, n5, n6, n7, n8, Int.reduceGT, Int.reduceBEq, Int.reduceLE, decide_true, decide_false]
        repeat' ((first | with_reducible refine wr ?_ | ((with_reducible refine wb2 ?_ ?_) <;> (intro hb; try simp only [hb])) | fail) <;> try simp only [go_sem, seval, n0, n1, n2, n3, n4, n5, n6, n7, n8, Int.reduceGT, Int.reduceBEq, Int.reduceLE, decide_true, decide_false])
        refine AC.call (c_next l hl p1 hp1 10 (by omega) (by omega) _ (c' + 1) t ((h_ne (by omega)).trans h_same) (by omega)) ?_
        rintro v H' c2 ⟨rfl, rfl⟩ hcc2
        have hq := nextM_lt (l := l) (p := p1) (n := 10) (by omega)
        have hget := push_get hq
        have ne0 : ¬ t = c' := by omega
        have ne1 : ¬ t = c2 := by omega
        have ne2 : ¬ c' = t := by omega
        have ne3 : ¬ c' = c2 := by omega
        have ne4 : ¬ c2 = t := by omega
        have ne5 : ¬ c2 = c' := by omega
        simp only [go_sem, seval, hget, hq, ne0, ne1, ne2, ne3, ne4, ne5]
        repeat' ((first | with_reducible refine wr ?_ | ((with_reducible refine wb2 ?_ ?_) <;> (intro hb; try simp only [hb])) | fail) <;> try simp only [go_sem, seval, hget, hq, ne0, ne1, ne2, ne3, ne4, ne5])
        have ev : valueM l 0 p = ([⟨1, pushT.getD (nextM l p1 10).1 0⟩], (nextM l p1 10).2) := by simp [valueM, e0]
        rw [ev]
        refine v_end hfr (by omega) (by omega) htc rfl ?_ ?_ fun j h1 h2 => ?_
        · rw [h_ne (by omega), h_same]
        · rw [h_same, insC_one]
        · rw [h_ne (by omega), h_ne h2, h_ne (by omega), h_ne h2]
  | succ d ih =>
    intro hd2 p hp H cc t ht htc
    refine AC.body mixedU isU52 (Nat.le_of_ble_eq_true rfl) fun hfr => ?_
    show IW Tryd.prog 87 u52_1 ⟨argT _, _, _⟩ (rt [.tmp 4] _)
    repeat' ((first | with_reducible refine wr ?_ | ((with_reducible refine wb2 ?_ ?_) <;> (intro hb; try simp only [hb])) | fail) <;> try simp only [go_sem, seval])
    refine AC.call (c_next l hl p hp 9 (by omega) (by omega) H cc t ht htc) ?_
    rintro v H' c' ⟨rfl, rfl⟩ hcc
    have hp1 := nextM_le (n := 9) hp
    have hk := nextM_lt (l := l) (p := p) (n := 9) (by omega)
    have hdl : decide (((d + 1 : Nat) : Int) ≤ 0) = false := decide_eq_false (by omega)
    have hw1 := w64 (n := ((d + 1 : Nat) : Int) - 1) (by omega) (by omega)
    have hw2 : ((d + 1 : Nat) : Int) - 1 = (d : Int) := by omega
    rw [hw2] at hw1
    obtain ⟨k0, p1, e0⟩ : ∃ k0 p1, nextM l p 9 = (k0, p1) := ⟨_, _, rfl⟩
    rw [e0] at hp1 hk ⊢
    simp only at hp1 hk
    have hv : k0 = 1 ∨ k0 = 2 ∨ k0 = 3 ∨ k0 = 4 ∨ k0 = 5 ∨ k0 = 6 ∨ k0 = 7 ∨ k0 = 8 ∨ k0 = 0 := by omega
    have n0 : ((0 : Nat) : Int) = 0 := rfl
    have n1 : ((1 : Nat) : Int) = 1 := rfl
    have n2 : ((2 : Nat) : Int) = 2 := rfl
    have n3 : ((3 : Nat) : Int) = 3 := rfl
    have n4 : ((4 : Nat) : Int) = 4 := rfl
    have n5 : ((5 : Nat) : Int) = 5 := rfl
    have n6 : ((6 : Nat) : Int) = 6 := rfl
    have n7 : ((7 : Nat) : Int) = 7 := rfl
    have n8 : ((8 : Nat) : Int) = 8 := rfl
    rcases hv with rfl | rfl | rfl | rfl | rfl | rfl | rfl | rfl | rfl
    · simp only [go_sem, seval, hdl, hw2, hw1, n0, n1, n2, n3, n4, n5, Int.reduceGT, Int.reduceBEq, Int.reduceLE, decide_true, decide_false]
      repeat' ((first | with_reducible refine wr ?_ | ((with_reducible refine wb2 ?_ ?_) <;> (intro hb; try simp only [hb])) | fail) <;> try simp only [go_sem, seval, hdl, hw2, hw1, n0, n1, n2, n3, n4, n5, Int.reduceGT, Int.reduceBEq, Int.reduceLE, decide_true, decide_false])
      refine AC.call (c_next l hl p1 hp1 3 (by omega) (by omega) (H.upd t (tapeB l p1)) c' t h_same (by omega)) ?_
      rintro v H' c2 ⟨rfl, rfl⟩ hcc2
      have hq := nextM_lt (l := l) (p := p1) (n := 3) (by omega)
      have hadd := w64 (n := 7 + ((nextM l p1 3).1 : Int)) (by omega) (by omega)
      simp only [go_sem, seval]
      repeat' ((first | with_reducible refine wr ?_ | ((with_reducible refine wb2 ?_ ?_) <;> (intro hb; try simp only [hb])) | fail) <;> try simp only [go_sem, seval, hadd])
      have ev : valueM l (d + 1) p = ([⟨2, ((nextM l p1 3).1 : Int)⟩], (nextM l p1 3).2) := by simp [valueM, e0]
      rw [ev]
      refine v_end hfr (by omega) (by omega) htc rfl ?_ ?_ fun j h1 h2 => ?_
      · rw [h_ne (by omega), h_same]
      · rw [h_same, insC_one]
      · rw [h_ne (by omega), h_ne h2, h_ne h2]
    · simp only [go_sem, seval, hdl, hw2, hw1, n0, n1, n2, n3, n4, n5, Int.reduceGT, Int.reduceBEq, Int.reduceLE, decide_true, decide_false]
      repeat' ((first | with_reducible refine wr ?_ | ((with_reducible refine wb2 ?_ ?_) <;> (intro hb; try simp only [hb])) | fail) <;> try simp only [go_sem, seval, hdl, hw2, hw1, n0, n1, n2, n3, n4, n5, Int.reduceGT, Int.reduceBEq, Int.reduceLE, decide_true, decide_false])
      refine AC.call (c_next l hl p1 hp1 64 (by omega) (by omega) (H.upd t (tapeB l p1)) c' t h_same (by omega)) ?_
      rintro v H' c2 ⟨rfl, rfl⟩ hcc2
      have hq := nextM_lt (l := l) (p := p1) (n := 64) (by omega)
      have hadd := w64 (n := 7 + ((nextM l p1 64).1 : Int)) (by omega) (by omega)
      simp only [go_sem, seval]
      repeat' ((first | with_reducible refine wr ?_ | ((with_reducible refine wb2 ?_ ?_) <;> (intro hb; try simp only [hb])) | fail) <;> try simp only [go_sem, seval, hadd])
      have ev : valueM l (d + 1) p = ([⟨4, ((nextM l p1 64).1 : Int)⟩], (nextM l p1 64).2) := by simp [valueM, e0]
      rw [ev]
      refine v_end hfr (by omega) (by omega) htc rfl ?_ ?_ fun j h1 h2 => ?_
      · rw [h_ne (by omega), h_same]
      · rw [h_same, insC_one]
      · rw [h_ne (by omega), h_ne h2, h_ne h2]
    · simp only [go_sem, seval, hdl, hw2, hw1, n0, n1, n2, n3, n4, n5, Int.reduceGT, Int.reduceBEq, Int.reduceLE, decide_true, decide_false]
      repeat' ((first | with_reducible refine wr ?_ | ((with_reducible refine wb2 ?_ ?_) <;> (intro hb; try simp only [hb])) | fail) <;> try simp only [go_sem, seval, hdl, hw2, hw1, n0, n1, n2, n3, n4, n5, Int.reduceGT, Int.reduceBEq, Int.reduceLE, decide_true, decide_false])
      refine AC.call (c_next l hl p1 hp1 2 (by omega) (by omega) (H.upd t (tapeB l p1)) c' t h_same (by omega)) ?_
      rintro v H' c2 ⟨rfl, rfl⟩ hcc2
      have hq := nextM_lt (l := l) (p := p1) (n := 2) (by omega)
      have hadd := w64 (n := 7 + ((nextM l p1 2).1 : Int)) (by omega) (by omega)
      simp only [go_sem, seval]
      repeat' ((first | with_reducible refine wr ?_ | ((with_reducible refine wb2 ?_ ?_) <;> (intro hb; try simp only [hb])) | fail) <;> try simp only [go_sem, seval, hadd])
      have ev : valueM l (d + 1) p = ([⟨5, ((nextM l p1 2).1 : Int)⟩], (nextM l p1 2).2) := by simp [valueM, e0]
      rw [ev]
      refine v_end hfr (by omega) (by omega) htc rfl ?_ ?_ fun j h1 h2 => ?_
      · rw [h_ne (by omega), h_same]
      · rw [h_same, insC_one]
      · rw [h_ne (by omega), h_ne h2, h_ne h2]
    · simp only [go_sem, seval, hdl, hw2, hw1, n0, n1, n2, n3, n4, n5, Int.reduceGT, Int.reduceBEq, Int.reduceLE, decide_true, decide_false]
      repeat' ((first | with_reducible refine wr ?_ | ((with_reducible refine wb2 ?_ ?_) <;> (intro hb; try simp only [hb])) | fail) <;> try simp only [go_sem, seval, hdl, hw2, hw1, n0, n1, n2, n3, n4, n5, Int.reduceGT, Int.reduceBEq, Int.reduceLE, decide_true, decide_false])
      refine AC.call (c_next l hl p1 hp1 2 (by omega) (by omega) (H.upd t (tapeB l p1)) c' t h_same (by omega)) ?_
      rintro v H' c2 ⟨rfl, rfl⟩ hcc2
      have hq := nextM_lt (l := l) (p := p1) (n := 2) (by omega)
      have hadd := w64 (n := 7 + ((nextM l p1 2).1 : Int)) (by omega) (by omega)
      simp only [go_sem, seval]
      repeat' ((first | with_reducible refine wr ?_ | ((with_reducible refine wb2 ?_ ?_) <;> (intro hb; try simp only [hb])) | fail) <;> try simp only [go_sem, seval, hadd])
      have ev : valueM l (d + 1) p = ([⟨6, ((nextM l p1 2).1 : Int)⟩], (nextM l p1 2).2) := by simp [valueM, e0]
      rw [ev]
      refine v_end hfr (by omega) (by omega) htc rfl ?_ ?_ fun j h1 h2 => ?_
      · rw [h_ne (by omega), h_same]
      · rw [h_same, insC_one]
      · rw [h_ne (by omega), h_ne h2, h_ne h2]
    · simp only [go_sem, seval, hdl, hw2, hw1, n0, n1, n2, n3, n4, n5, Int.reduceGT, Int.reduceBEq, Int.reduceLE, decide_true, decide_false]
      repeat' ((first | with_reducible refine wr ?_ | ((with_reducible refine wb2 ?_ ?_) <;> (intro hb; try simp only [hb])) | fail) <;> try simp only [go_sem, seval, hdl, hw2, hw1, n0, n1, n2, n3, n4, n5, Int.reduceGT, Int.reduceBEq, Int.reduceLE, decide_true, decide_false])
      refine AC.call (c_next l hl p1 hp1 2 (by omega) (by omega) (H.upd t (tapeB l p1)) c' t h_same (by omega)) ?_
      rintro v H' c2 ⟨rfl, rfl⟩ hcc2
      have hq := nextM_lt (l := l) (p := p1) (n := 2) (by omega)
      have hadd := w64 (n := 7 + ((nextM l p1 2).1 : Int)) (by omega) (by omega)
      simp only [go_sem, seval]
      repeat' ((first | with_reducible refine wr ?_ | ((with_reducible refine wb2 ?_ ?_) <;> (intro hb; try simp only [hb])) | fail) <;> try simp only [go_sem, seval, hadd])
      have ev : valueM l (d + 1) p = ([⟨7 + ((nextM l p1 2).1 : Int), 0⟩], (nextM l p1 2).2) := by simp [valueM, e0]
      rw [ev]
      refine v_end hfr (by omega) (by omega) htc rfl ?_ ?_ fun j h1 h2 => ?_
      · rw [h_ne (by omega), h_same]
      · rw [h_same, insC_one]
      · rw [h_ne (by omega), h_ne h2, h_ne h2]
    · simp only [go_sem, seval, hdl, hw2, hw1, n0, n1, n2, n3, n4, n5, n6, n7, n8, Int.reduceGT, Int.reduceBEq, Int.reduceLE, decide_true, decide_false]
      repeat' ((first | with_reducible refine wr ?_ | ((with_reducible refine wb2 ?_ ?_) <;> (intro hb; try simp only [hb])) | fail) <;> try simp only [go_sem, seval, hdl, hw2, hw1, n0, n1, n2, n3, n4, n5, n6, n7, n8, Int.reduceGT, Int.reduceBEq, Int.reduceLE, decide_true, decide_false])
      refine AC.call (ih (by omega) p1 hp1 (H.upd t (tapeB l p1)) c' t h_same (by omega)) ?_
      rintro v H' c2 ⟨id1, i1, i2, rfl, rfl⟩ hcc2
      have hp2 := valueM_le l d p1 hp1
      simp only [go_sem, seval]
      repeat' ((first | with_reducible refine wr ?_ | ((with_reducible refine wb2 ?_ ?_) <;> (intro hb; try simp only [hb])) | fail) <;> try simp only [go_sem, seval])
      refine AC.call (c_next l hl _ hp2 2 (by omega) (by omega) _ c2 t ((h_ne (by omega)).trans h_same) (by omega)) ?_
      rintro v H' c3 ⟨rfl, rfl⟩ hcc3
      have hq := nextM_lt (l := l) (p := (valueM l d p1).2) (n := 2) (by omega)
      have hadd := w64 (n := 9 + ((nextM l (valueM l d p1).2 2).1 : Int)) (by omega) (by omega)
      have hvl := valueM_len l d p1
      have hpw : 2 ^ (d + 1) ≤ 2 ^ 3 := Nat.pow_le_pow_right (by omega) (by omega)
      have ne0 : ¬ t = id1 := by omega
      have ne1 : ¬ t = c3 := by omega
      have ne2 : ¬ t = c3 + 1 := by omega
      have ne3 : ¬ id1 = t := by omega
      have ne4 : ¬ id1 = c3 := by omega
      have ne5 : ¬ id1 = c3 + 1 := by omega
      have ne6 : ¬ c3 = t := by omega
      have ne7 : ¬ c3 = id1 := by omega
      have ne8 : ¬ c3 = c3 + 1 := by omega
      have ne9 : ¬ c3 + 1 = t := by omega
      have ne10 : ¬ c3 + 1 = id1 := by omega
      have ne11 : ¬ c3 + 1 = c3 := by omega
      simp only [go_sem, seval, hadd, ne0, ne1, ne2, ne3, ne4, ne5, ne6, ne7, ne8, ne9, ne10, ne11]
      repeat' ((first | with_reducible refine wr ?_ | ((with_reducible refine wb2 ?_ ?_) <;> (intro hb; try simp only [hb])) | ((with_reducible refine k_eval (b_appx (insC_len2 _) (by omega) (by omega)) ?_)) | fail) <;> try simp only [go_sem, seval, hadd, ne0, ne1, ne2, ne3, ne4, ne5, ne6, ne7, ne8, ne9, ne10, ne11])
      rw [valueM_6 e0]
      refine v_end (id := c3 + 1) hfr (by omega) (by omega) htc (by rw [List.length_append]; rfl) ?_ ?_ fun j h1 h2 => ?_
      · simp only [go_sem, seval, ne0, ne1, ne2, ne3, ne4, ne5, ne6, ne7, ne8, ne9, ne10, ne11]
      · rw [h_same, insC_app, insC_one]
      · have q1 : ¬j = id1 := by omega
        have q2 : ¬j = c3 := by omega
        have q3 : ¬j = c3 + 1 := by omega
        simp only [go_sem, seval, h2, q1, q2, q3]
    · simp only [go_sem, seval, hdl, hw2, hw1, n0, n1, n2, n3, n4, n5, n6, n7, n8, Int.reduceGT, Int.reduceBEq, Int.reduceLE, decide_true, decide_false]
      repeat' ((first | with_reducible refine wr ?_ | ((with_reducible refine wb2 ?_ ?_) <;> (intro hb; try simp only [hb])) | fail) <;> try simp only [go_sem, seval, hdl, hw2, hw1, n0, n1, n2, n3, n4, n5, n6, n7, n8, Int.reduceGT, Int.reduceBEq, Int.reduceLE, decide_true, decide_false])
      refine AC.call (ih (by omega) p1 hp1 (H.upd t (tapeB l p1)) c' t h_same (by omega)) ?_
      rintro v H' c2 ⟨id1, i1, i2, rfl, rfl⟩ hcc2
      have hp2 := valueM_le l d p1 hp1
      simp only [go_sem, seval, hw2, hw1]
      repeat' ((first | with_reducible refine wr ?_ | ((with_reducible refine wb2 ?_ ?_) <;> (intro hb; try simp only [hb])) | fail) <;> try simp only [go_sem, seval, hw2, hw1])
      refine AC.call (ih (by omega) _ hp2 _ c2 t ((h_ne (by omega)).trans h_same) (by omega)) ?_
      rintro v H' c3 ⟨id2, j1, j2, rfl, rfl⟩ hcc3
      have hp3 := valueM_le l d _ hp2
      have hvl := valueM_len l d p1
      have hvl2 := valueM_len l d (valueM l d p1).2
      have hpw : 2 ^ (d + 1) ≤ 2 ^ 3 := Nat.pow_le_pow_right (by omega) (by omega)
      have hl2 := insC_len2 (valueM l d (valueM l d p1).2).1
      have hle2 : (valueM l d (valueM l d p1).2).1.length * 2 ≤ (insC (valueM l d (valueM l d p1).2).1).length := by omega
      have htk := List.take_of_length_le (l := insC (valueM l d (valueM l d p1).2).1) (i := (valueM l d (valueM l d p1).2).1.length * 2) (by omega)
      have ne0 : ¬ t = id1 := by omega
      have ne1 : ¬ t = id2 := by omega
      have ne2 : ¬ t = c3 := by omega
      have ne3 : ¬ id1 = t := by omega
      have ne4 : ¬ id1 = id2 := by omega
      have ne5 : ¬ id1 = c3 := by omega
      have ne6 : ¬ id2 = t := by omega
      have ne7 : ¬ id2 = id1 := by omega
      have ne8 : ¬ id2 = c3 := by omega
      have ne9 : ¬ c3 = t := by omega
      have ne10 : ¬ c3 = id1 := by omega
      have ne11 : ¬ c3 = id2 := by omega
      simp only [go_sem, seval, ne0, ne1, ne2, ne3, ne4, ne5, ne6, ne7, ne8, ne9, ne10, ne11, hle2, htk]
      repeat' ((first | with_reducible refine wr ?_ | ((with_reducible refine wb2 ?_ ?_) <;> (intro hb; try simp only [hb])) | ((with_reducible refine k_eval (b_appx (insC_len2 _) (by omega) (by omega)) ?_)) | fail) <;> try simp only [go_sem, seval, ne0, ne1, ne2, ne3, ne4, ne5, ne6, ne7, ne8, ne9, ne10, ne11, hle2, htk])
      refine AC.call (c_next l hl _ hp3 13 (by omega) (by omega) _ (c3 + 1) t (by repeat (first | exact h_same | rw [h_ne (by omega)] | rw [h_dne (by omega)])) (by omega)) ?_
      rintro v H' c4 ⟨rfl, rfl⟩ hcc4
      have hq := nextM_lt (l := l) (p := (valueM l d (valueM l d p1).2).2) (n := 13) (by omega)
      have hadd := w64 (n := 12 + ((nextM l (valueM l d (valueM l d p1).2).2 13).1 : Int)) (by omega) (by omega)
      have hl3 : (insC (valueM l d p1).1 ++ insC (valueM l d (valueM l d p1).2).1).length = ((valueM l d p1).1.length + (valueM l d (valueM l d p1).2).1.length) * 2 := by rw [List.length_append, insC_len, insC_len]; omega
      have ne0 : ¬ t = c3 := by omega
      have ne1 : ¬ t = c4 := by omega
      have ne2 : ¬ t = c4 + 1 := by omega
      have ne3 : ¬ c3 = t := by omega
      have ne4 : ¬ c3 = c4 := by omega
      have ne5 : ¬ c3 = c4 + 1 := by omega
      have ne6 : ¬ c4 = t := by omega
      have ne7 : ¬ c4 = c3 := by omega
      have ne8 : ¬ c4 = c4 + 1 := by omega
      have ne9 : ¬ c4 + 1 = t := by omega
      have ne10 : ¬ c4 + 1 = c3 := by omega
      have ne11 : ¬ c4 + 1 = c4 := by omega
      simp only [go_sem, seval, hadd, ne0, ne1, ne2, ne3, ne4, ne5, ne6, ne7, ne8, ne9, ne10, ne11]
      repeat' ((first | with_reducible refine wr ?_ | ((with_reducible refine wb2 ?_ ?_) <;> (intro hb; try simp only [hb])) | ((with_reducible refine k_eval (b_appx hl3 (by omega) (by omega)) ?_)) | fail) <;> try simp only [go_sem, seval, hadd, ne0, ne1, ne2, ne3, ne4, ne5, ne6, ne7, ne8, ne9, ne10, ne11])
      rw [valueM_7 e0]
      refine v_end (id := c4 + 1) hfr (by omega) (by omega) htc (by simp only [List.length_append, List.length_singleton]) ?_ ?_ fun j h1 h2 => ?_
      · repeat (first | exact h_same | rw [h_ne (by omega)] | rw [h_dne (by omega)])
      · rw [h_same, insC_app, insC_app, insC_one]
      · repeat (first | rfl | rw [h_ne (by omega)] | rw [h_dne (by omega)])
    · simp only [go_sem, seval, hdl, hw2, hw1, n0, n1, n2, n3, n4, n5, n6, n7, n8, Int.reduceGT, Int.reduceBEq, Int.reduceLE, decide_true, decide_false]
      repeat' ((first | with_reducible refine wr ?_ | ((with_reducible refine wb2 ?_ ?_) <;> (intro hb; try simp only [hb])) | fail) <;> try simp only [go_sem, seval, hdl, hw2, hw1, n0, n1, n2, n3, n4, n5, n6, n7, n8, Int.reduceGT, Int.reduceBEq, Int.reduceLE, decide_true, decide_false])
      refine AC.call (ih (by omega) p1 hp1 (H.upd t (tapeB l p1)) c' t h_same (by omega)) ?_
      rintro v H' c2 ⟨id1, i1, i2, rfl, rfl⟩ hcc2
      have hp2 := valueM_le l d p1 hp1
      simp only [go_sem, seval, hw2, hw1]
      repeat' ((first | with_reducible refine wr ?_ | ((with_reducible refine wb2 ?_ ?_) <;> (intro hb; try simp only [hb])) | fail) <;> try simp only [go_sem, seval, hw2, hw1])
      refine AC.call (ih (by omega) _ hp2 _ c2 t ((h_ne (by omega)).trans h_same) (by omega)) ?_
      rintro v H' c3 ⟨id2, j1, j2, rfl, rfl⟩ hcc3
      have hp3 := valueM_le l d _ hp2
      have hvl := valueM_len l d p1
      have hvl2 := valueM_len l d (valueM l d p1).2
      have hpw : 2 ^ (d + 1) ≤ 2 ^ 3 := Nat.pow_le_pow_right (by omega) (by omega)
      have hl2 := insC_len2 (valueM l d (valueM l d p1).2).1
      have hle2 : (valueM l d (valueM l d p1).2).1.length * 2 ≤ (insC (valueM l d (valueM l d p1).2).1).length := by omega
      have htk := List.take_of_length_le (l := insC (valueM l d (valueM l d p1).2).1) (i := (valueM l d (valueM l d p1).2).1.length * 2) (by omega)
      have ne0 : ¬ t = id1 := by omega
      have ne1 : ¬ t = id2 := by omega
      have ne2 : ¬ t = c3 := by omega
      have ne3 : ¬ id1 = t := by omega
      have ne4 : ¬ id1 = id2 := by omega
      have ne5 : ¬ id1 = c3 := by omega
      have ne6 : ¬ id2 = t := by omega
      have ne7 : ¬ id2 = id1 := by omega
      have ne8 : ¬ id2 = c3 := by omega
      have ne9 : ¬ c3 = t := by omega
      have ne10 : ¬ c3 = id1 := by omega
      have ne11 : ¬ c3 = id2 := by omega
      simp only [go_sem, seval, ne0, ne1, ne2, ne3, ne4, ne5, ne6, ne7, ne8, ne9, ne10, ne11, hle2, htk]
      repeat' ((first | with_reducible refine wr ?_ | ((with_reducible refine wb2 ?_ ?_) <;> (intro hb; try simp only [hb])) | ((with_reducible refine k_eval (b_appx (insC_len2 _) (by omega) (by omega)) ?_)) | fail) <;> try simp only [go_sem, seval, ne0, ne1, ne2, ne3, ne4, ne5, ne6, ne7, ne8, ne9, ne10, ne11, hle2, htk])
      refine AC.call (c_next l hl _ hp3 13 (by omega) (by omega) _ (c3 + 1) t (by repeat (first | exact h_same | rw [h_ne (by omega)] | rw [h_dne (by omega)])) (by omega)) ?_
      rintro v H' c4 ⟨rfl, rfl⟩ hcc4
      have hq := nextM_lt (l := l) (p := (valueM l d (valueM l d p1).2).2) (n := 13) (by omega)
      have hadd := w64 (n := 12 + ((nextM l (valueM l d (valueM l d p1).2).2 13).1 : Int)) (by omega) (by omega)
      have hl3 : (insC (valueM l d p1).1 ++ insC (valueM l d (valueM l d p1).2).1).length = ((valueM l d p1).1.length + (valueM l d (valueM l d p1).2).1.length) * 2 := by rw [List.length_append, insC_len, insC_len]; omega
      have ne0 : ¬ t = c3 := by omega
      have ne1 : ¬ t = c4 := by omega
      have ne2 : ¬ t = c4 + 1 := by omega
      have ne3 : ¬ c3 = t := by omega
      have ne4 : ¬ c3 = c4 := by omega
      have ne5 : ¬ c3 = c4 + 1 := by omega
      have ne6 : ¬ c4 = t := by omega
      have ne7 : ¬ c4 = c3 := by omega
      have ne8 : ¬ c4 = c4 + 1 := by omega
      have ne9 : ¬ c4 + 1 = t := by omega
      have ne10 : ¬ c4 + 1 = c3 := by omega
      have ne11 : ¬ c4 + 1 = c4 := by omega
      simp only [go_sem, seval, hadd, ne0, ne1, ne2, ne3, ne4, ne5, ne6, ne7, ne8, ne9, ne10, ne11]
      repeat' ((first | with_reducible refine wr ?_ | ((with_reducible refine wb2 ?_ ?_) <;> (intro hb; try simp only [hb])) | ((with_reducible refine k_eval (b_appx hl3 (by omega) (by omega)) ?_)) | fail) <;> try simp only [go_sem, seval, hadd, ne0, ne1, ne2, ne3, ne4, ne5, ne6, ne7, ne8, ne9, ne10, ne11])
      rw [valueM_8 e0]
      refine v_end (id := c4 + 1) hfr (by omega) (by omega) htc (by simp only [List.length_append, List.length_singleton]) ?_ ?_ fun j h1 h2 => ?_
      · repeat (first | exact h_same | rw [h_ne (by omega)] | rw [h_dne (by omega)])
      · rw [h_same, insC_app, insC_app, insC_one]
      · repeat (first | rfl | rw [h_ne (by omega)] | rw [h_dne (by omega)])
    · simp only [go_sem, seval, hdl, hw2, hw1, n0, n1, n2, n3, n4, n5, n6, n7, n8, Int.reduceGT, Int.reduceBEq, Int.reduceLE, decide_true, decide_false]
      repeat' ((first | with_reducible refine wr ?_ | ((with_reducible refine wb2 ?_ ?_) <;> (intro hb; try simp only [hb])) | fail) <;> try simp only [go_sem, seval, hdl, hw2, hw1, n0, n1, n2, n3, n4, n5, n6, n7, n8, Int.reduceGT, Int.reduceBEq, Int.reduceLE, decide_true, decide_false])
      refine AC.call (c_next l hl p1 hp1 10 (by omega) (by omega) _ (c' + 1) t ((h_ne (by omega)).trans h_same) (by omega)) ?_
      rintro v H' c2 ⟨rfl, rfl⟩ hcc2
      have hq := nextM_lt (l := l) (p := p1) (n := 10) (by omega)
      have hget := push_get hq
      have ne0 : ¬ t = c' := by omega
      have ne1 : ¬ t = c2 := by omega
      have ne2 : ¬ c' = t := by omega
      have ne3 : ¬ c' = c2 := by omega
      have ne4 : ¬ c2 = t := by omega
      have ne5 : ¬ c2 = c' := by omega
      simp only [go_sem, seval, hget, hq, ne0, ne1, ne2, ne3, ne4, ne5]
      repeat' ((first | with_reducible refine wr ?_ | ((with_reducible refine wb2 ?_ ?_) <;> (intro hb; try simp only [hb])) | fail) <;> try simp only [go_sem, seval, hget, hq, ne0, ne1, ne2, ne3, ne4, ne5])
      have ev : valueM l (d + 1) p = ([⟨1, pushT.getD (nextM l p1 10).1 0⟩], (nextM l p1 10).2) := by simp [valueM, e0]
      rw [ev]
      refine v_end hfr (by omega) (by omega) htc rfl ?_ ?_ fun j h1 h2 => ?_
      · rw [h_ne (by omega), h_same]
      · rw [h_same, insC_one]
      · rw [h_ne (by omega), h_ne h2, h_ne (by omega), h_ne h2]
end Go.Proofs.YtcallbfckjlagaaDoor
set_option maxHeartbeats 4000000
set_option maxRecDepth 100000
set_option linter.unusedSimpArgs false
set_option linter.unusedVariables false
namespace Go.Proofs.YtcallbfckjlagaaDoor
open Go.Eng (IC IOper DReg IFn IsFn)
open Go.Sym Go.Pb
noncomputable section
def u28_6r : List IOper := [oP 7 (.mv (.k (.int .i64 0)))]
def u28_6 : IC := .reg u28_6r
def u28_5 : IC := .cond (.t 21) u28_6 .skip
def u28_4r : List IOper := [oP 16 (.mv (.t 2)), oP 17 (.bin .leq (.t 16) (.k (.int .i64 0))), oP 18 (.mv (.t 17)), oG 19 (.mv (.t 7)) 18, oG 20 (.bin .gtr (.t 19) (.k (.int .i64 11))) 18, oP 21 (.pick (.t 18) (.t 20) (.k (.bool false)))]
def u28_4 : IC := .seq (.reg u28_4r) u28_5
def u28_12r : List IOper := [oP 25 (.mv (.t 0)), ⟨some 26, .call 52 [.t 25, .k (.int .i64 1)], none⟩, oP 27 (.bld #[.int .i64 0, .int .i64 0] [(0, 1), (1, 1)] [(0, .k (.int .i64 15))]), ⟨some 28, .new (.bsl 2 1 #[.int .i64 0, .int .i64 0] [(0, .t 27)]), none⟩, ⟨some 29, .eff (.app 2 16 (.t 26) (.t 28)), none⟩, oP 6 (.mv (.t 29))]
def u28_12 : IC := .seq (.reg u28_12r) .ret
def u28_15r : List IOper := [oP 32 (.mv (.t 0)), ⟨some 33, .call 27 [.t 32, .k (.int .i64 3)], none⟩, oP 34 (.bin .add (.k (.int .i64 16)) (.t 33)), oP 35 (.mv (.t 0)), ⟨some 36, .call 27 [.t 35, .k (.int .i64 32)], none⟩, oP 37 (.bld #[.int .i64 0, .int .i64 0] [(0, 1), (1, 1)] [(0, .t 34), (1, .t 36)]), ⟨some 38, .new (.bsl 2 1 #[.int .i64 0, .int .i64 0] [(0, .t 37)]), none⟩, oP 6 (.mv (.t 38))]
def u28_15 : IC := .seq (.reg u28_15r) .ret
def u28_18r : List IOper := [oP 41 (.mv (.t 0)), ⟨some 42, .call 52 [.t 41, .k (.int .i64 0)], none⟩, oP 43 (.mv (.t 0)), ⟨some 44, .call 27 [.t 43, .k (.int .i64 64)], none⟩, oP 45 (.bld #[.int .i64 0, .int .i64 0] [(0, 1), (1, 1)] [(0, .k (.int .i64 19)), (1, .t 44)]), ⟨some 46, .new (.bsl 2 1 #[.int .i64 0, .int .i64 0] [(0, .t 45)]), none⟩, ⟨some 47, .eff (.app 2 16 (.t 42) (.t 46)), none⟩, oP 6 (.mv (.t 47))]
def u28_18 : IC := .seq (.reg u28_18r) .ret
def u28_22r : List IOper := [oP 52 (.mv (.t 8)), oP 53 (.mv (.t 0)), ⟨some 54, .call 52 [.t 53, .k (.int .i64 0)], none⟩, ⟨some 55, .eff (.app 2 16 (.t 52) (.t 54)), none⟩, oP 56 (.mv (.t 0)), ⟨some 57, .call 27 [.t 56, .k (.int .i64 64)], none⟩, oP 58 (.bld #[.int .i64 0, .int .i64 0] [(0, 1), (1, 1)] [(0, .k (.int .i64 20)), (1, .t 57)]), ⟨some 59, .new (.bsl 2 1 #[.int .i64 0, .int .i64 0] [(0, .t 58)]), none⟩, ⟨some 60, .eff (.app 2 16 (.t 55) (.t 59)), none⟩, oP 6 (.mv (.t 60))]
def u28_22 : IC := .seq (.reg u28_22r) .ret
def u28_21r : List IOper := [oP 50 (.mv (.t 0)), ⟨some 51, .call 52 [.t 50, .k (.int .i64 0)], none⟩, oP 8 (.mv (.t 51))]
def u28_21 : IC := .seq (.reg u28_21r) u28_22
def u28_25r : List IOper := [oP 63 (.mv (.t 0)), ⟨some 64, .call 52 [.t 63, .k (.int .i64 1)], none⟩, oP 65 (.mv (.t 0)), ⟨some 66, .call 27 [.t 65, .k (.int .i64 2)], none⟩, oP 67 (.bld #[.int .i64 0, .int .i64 0] [(0, 1), (1, 1)] [(0, .k (.int .i64 21)), (1, .t 66)]), ⟨some 68, .new (.bsl 2 1 #[.int .i64 0, .int .i64 0] [(0, .t 67)]), none⟩, ⟨some 69, .eff (.app 2 16 (.t 64) (.t 68)), none⟩, oP 6 (.mv (.t 69))]
def u28_25 : IC := .seq (.reg u28_25r) .ret
def u28_28r : List IOper := [oP 72 (.mv (.t 0)), ⟨some 73, .call 27 [.t 72, .k (.int .i64 2)], none⟩, oP 74 (.bld #[.int .i64 0, .int .i64 0] [(0, 1), (1, 1)] [(0, .k (.int .i64 22)), (1, .t 73)]), ⟨some 75, .new (.bsl 2 1 #[.int .i64 0, .int .i64 0] [(0, .t 74)]), none⟩, oP 6 (.mv (.t 75))]
def u28_28 : IC := .seq (.reg u28_28r) .ret
def u28_31r : List IOper := [oP 78 (.mv (.t 0)), ⟨some 79, .call 27 [.t 78, .k (.int .i64 2)], none⟩, oP 80 (.bin .add (.k (.int .i64 23)) (.t 79)), oP 81 (.mv (.t 0)), ⟨some 82, .call 27 [.t 81, .k (.int .i64 2)], none⟩, oP 83 (.bld #[.int .i64 0, .int .i64 0] [(0, 1), (1, 1)] [(0, .t 80), (1, .t 82)]), ⟨some 84, .new (.bsl 2 1 #[.int .i64 0, .int .i64 0] [(0, .t 83)]), none⟩, oP 6 (.mv (.t 84))]
def u28_31 : IC := .seq (.reg u28_31r) .ret
def u28_34r : List IOper := [oP 87 (.mv (.t 0)), ⟨some 88, .call 27 [.t 87, .k (.int .i64 2)], none⟩, oP 89 (.bld #[.int .i64 0, .int .i64 0] [(0, 1), (1, 1)] [(0, .k (.int .i64 25)), (1, .t 88)]), ⟨some 90, .new (.bsl 2 1 #[.int .i64 0, .int .i64 0] [(0, .t 89)]), none⟩, oP 6 (.mv (.t 90))]
def u28_34 : IC := .seq (.reg u28_34r) .ret
def u28_37r : List IOper := [oP 93 (.mv (.t 0)), ⟨some 94, .call 27 [.t 93, .k (.int .i64 3)], none⟩, oP 95 (.bin .add (.k (.int .i64 26)) (.t 94)), oP 96 (.mv (.t 0)), ⟨some 97, .call 27 [.t 96, .k (.int .i64 64)], none⟩, oP 98 (.bld #[.int .i64 0, .int .i64 0] [(0, 1), (1, 1)] [(0, .t 95), (1, .t 97)]), ⟨some 99, .new (.bsl 2 1 #[.int .i64 0, .int .i64 0] [(0, .t 98)]), none⟩, oP 6 (.mv (.t 99))]
def u28_37 : IC := .seq (.reg u28_37r) .ret
def u28_40r : List IOper := [oP 102 (.mv (.t 0)), ⟨some 103, .call 52 [.t 102, .k (.int .i64 1)], none⟩, oP 104 (.mv (.t 0)), ⟨some 105, .call 27 [.t 104, .k (.int .i64 2)], none⟩, oP 106 (.bld #[.int .i64 0, .int .i64 0] [(0, 1), (1, 1)] [(0, .k (.int .i64 29)), (1, .t 105)]), ⟨some 107, .new (.bsl 2 1 #[.int .i64 0, .int .i64 0] [(0, .t 106)]), none⟩, ⟨some 108, .eff (.app 2 16 (.t 103) (.t 107)), none⟩, oP 6 (.mv (.t 108))]
def u28_40 : IC := .seq (.reg u28_40r) .ret
def u28_43r : List IOper := [oP 111 (.bld #[.int .i64 0, .int .i64 0] [(0, 1), (1, 1)] [(0, .k (.int .i64 30))]), ⟨some 112, .new (.bsl 2 1 #[.int .i64 0, .int .i64 0] [(0, .t 111)]), none⟩, oP 6 (.mv (.t 112))]
def u28_43 : IC := .seq (.reg u28_43r) .ret
def u28_48r : List IOper := [oP 126 (.mv (.t 9)), oP 127 (.mv (.t 1)), oP 128 (.mv (.t 9)), oP 129 (.len (.t 128)), oP 130 (.bin .add (.t 127) (.t 129)), oP 131 (.bin .add (.t 130) (.k (.int .i64 1))), oP 132 (.mv (.t 10)), oP 133 (.len (.t 132)), oP 134 (.bin .add (.t 131) (.t 133)), oP 135 (.bld #[.int .i64 0, .int .i64 0] [(0, 1), (1, 1)] [(0, .k (.int .i64 13)), (1, .t 134)]), ⟨some 136, .new (.bsl 2 1 #[.int .i64 0, .int .i64 0] [(0, .t 135)]), none⟩, ⟨some 137, .eff (.app 2 16 (.t 126) (.t 136)), none⟩, oP 138 (.mv (.t 10)), ⟨some 139, .eff (.app 2 16 (.t 137) (.t 138)), none⟩, oP 6 (.mv (.t 139))]
def u28_48 : IC := .seq (.reg u28_48r) .ret
def u28_47r : List IOper := [oP 117 (.mv (.t 0)), oP 118 (.mv (.t 1)), oP 119 (.mv (.t 9)), oP 120 (.len (.t 119)), oP 121 (.bin .add (.t 118) (.t 120)), oP 122 (.bin .add (.t 121) (.k (.int .i64 1))), oP 123 (.mv (.t 2)), oP 124 (.bin .sub (.t 123) (.k (.int .i64 1))), ⟨some 125, .call 28 [.t 117, .t 122, .t 124], none⟩, oP 10 (.mv (.t 125))]
def u28_47 : IC := .seq (.reg u28_47r) u28_48
def u28_46r : List IOper := [oP 115 (.mv (.t 0)), ⟨some 116, .call 52 [.t 115, .k (.int .i64 1)], none⟩, oP 9 (.mv (.t 116))]
def u28_46 : IC := .seq (.reg u28_46r) u28_47
def u28_52r : List IOper := [oP 142 (.bin .eql (.t 22) (.k (.int .i64 14))), oP 140 (.mv (.t 142))]
def u28_52 : IC := .reg u28_52r
def u28_51 : IC := .cond (.t 140) .skip u28_52
def u28_50r : List IOper := [oP 141 (.bin .eql (.t 22) (.k (.int .i64 13))), oP 140 (.mv (.t 141))]
def u28_50 : IC := .seq (.reg u28_50r) u28_51
def u28_57r : List IOper := [oP 162 (.mv (.t 11)), oP 163 (.mv (.t 13)), oP 164 (.bld #[.int .i64 0, .int .i64 0] [(0, 1), (1, 1)] [(0, .k (.int .i64 14)), (1, .t 163)]), ⟨some 165, .new (.bsl 2 1 #[.int .i64 0, .int .i64 0] [(0, .t 164)]), none⟩, ⟨some 166, .eff (.app 2 16 (.t 162) (.t 165)), none⟩, oP 167 (.mv (.t 12)), ⟨some 168, .eff (.app 2 16 (.t 166) (.t 167)), none⟩, oP 169 (.mv (.t 1)), oP 170 (.mv (.t 11)), oP 171 (.len (.t 170)), oP 172 (.bin .add (.t 169) (.t 171)), oP 173 (.bld #[.int .i64 0, .int .i64 0] [(0, 1), (1, 1)] [(0, .k (.int .i64 12)), (1, .t 172)]), ⟨some 174, .new (.bsl 2 1 #[.int .i64 0, .int .i64 0] [(0, .t 173)]), none⟩, ⟨some 175, .eff (.app 2 16 (.t 168) (.t 174)), none⟩, oP 6 (.mv (.t 175))]
def u28_57 : IC := .seq (.reg u28_57r) .ret
def u28_56r : List IOper := [oP 154 (.mv (.t 1)), oP 155 (.mv (.t 11)), oP 156 (.len (.t 155)), oP 157 (.bin .add (.t 154) (.t 156)), oP 158 (.bin .add (.t 157) (.k (.int .i64 2))), oP 159 (.mv (.t 12)), oP 160 (.len (.t 159)), oP 161 (.bin .add (.t 158) (.t 160)), oP 13 (.mv (.t 161))]
def u28_56 : IC := .seq (.reg u28_56r) u28_57
def u28_55r : List IOper := [oP 145 (.mv (.t 0)), oP 146 (.mv (.t 1)), oP 147 (.mv (.t 11)), oP 148 (.len (.t 147)), oP 149 (.bin .add (.t 146) (.t 148)), oP 150 (.bin .add (.t 149) (.k (.int .i64 1))), oP 151 (.mv (.t 2)), oP 152 (.bin .sub (.t 151) (.k (.int .i64 1))), ⟨some 153, .call 28 [.t 145, .t 150, .t 152], none⟩, oP 12 (.mv (.t 153))]
def u28_55 : IC := .seq (.reg u28_55r) u28_56
def u28_54r : List IOper := [oP 143 (.mv (.t 0)), ⟨some 144, .call 52 [.t 143, .k (.int .i64 0)], none⟩, oP 11 (.mv (.t 144))]
def u28_54 : IC := .seq (.reg u28_54r) u28_55
def u28_53 : IC := .cond (.t 140) u28_54 .skip
def u28_49 : IC := .seq u28_50 u28_53
def u28_45 : IC := .cond (.t 113) u28_46 u28_49
def u28_44r : List IOper := [oP 114 (.bin .eql (.t 22) (.k (.int .i64 12))), oP 113 (.mv (.t 114))]
def u28_44 : IC := .seq (.reg u28_44r) u28_45
def u28_42 : IC := .cond (.t 109) u28_43 u28_44
def u28_41r : List IOper := [oP 110 (.bin .eql (.t 22) (.k (.int .i64 11))), oP 109 (.mv (.t 110))]
def u28_41 : IC := .seq (.reg u28_41r) u28_42
def u28_39 : IC := .cond (.t 100) u28_40 u28_41
def u28_38r : List IOper := [oP 101 (.bin .eql (.t 22) (.k (.int .i64 10))), oP 100 (.mv (.t 101))]
def u28_38 : IC := .seq (.reg u28_38r) u28_39
def u28_36 : IC := .cond (.t 91) u28_37 u28_38
def u28_35r : List IOper := [oP 92 (.bin .eql (.t 22) (.k (.int .i64 9))), oP 91 (.mv (.t 92))]
def u28_35 : IC := .seq (.reg u28_35r) u28_36
def u28_33 : IC := .cond (.t 85) u28_34 u28_35
def u28_32r : List IOper := [oP 86 (.bin .eql (.t 22) (.k (.int .i64 8))), oP 85 (.mv (.t 86))]
def u28_32 : IC := .seq (.reg u28_32r) u28_33
def u28_30 : IC := .cond (.t 76) u28_31 u28_32
def u28_29r : List IOper := [oP 77 (.bin .eql (.t 22) (.k (.int .i64 7))), oP 76 (.mv (.t 77))]
def u28_29 : IC := .seq (.reg u28_29r) u28_30
def u28_27 : IC := .cond (.t 70) u28_28 u28_29
def u28_26r : List IOper := [oP 71 (.bin .eql (.t 22) (.k (.int .i64 6))), oP 70 (.mv (.t 71))]
def u28_26 : IC := .seq (.reg u28_26r) u28_27
def u28_24 : IC := .cond (.t 61) u28_25 u28_26
def u28_23r : List IOper := [oP 62 (.bin .eql (.t 22) (.k (.int .i64 5))), oP 61 (.mv (.t 62))]
def u28_23 : IC := .seq (.reg u28_23r) u28_24
def u28_20 : IC := .cond (.t 48) u28_21 u28_23
def u28_19r : List IOper := [oP 49 (.bin .eql (.t 22) (.k (.int .i64 4))), oP 48 (.mv (.t 49))]
def u28_19 : IC := .seq (.reg u28_19r) u28_20
def u28_17 : IC := .cond (.t 39) u28_18 u28_19
def u28_16r : List IOper := [oP 40 (.bin .eql (.t 22) (.k (.int .i64 3))), oP 39 (.mv (.t 40))]
def u28_16 : IC := .seq (.reg u28_16r) u28_17
def u28_14 : IC := .cond (.t 30) u28_15 u28_16
def u28_13r : List IOper := [oP 31 (.bin .eql (.t 22) (.k (.int .i64 2))), oP 30 (.mv (.t 31))]
def u28_13 : IC := .seq (.reg u28_13r) u28_14
def u28_11 : IC := .cond (.t 23) u28_12 u28_13
def u28_10r : List IOper := [oP 24 (.bin .eql (.t 22) (.k (.int .i64 1))), oP 23 (.mv (.t 24))]
def u28_10 : IC := .seq (.reg u28_10r) u28_11
def u28_9 : IC := .blk 0 u28_10
def u28_8r : List IOper := [oP 22 (.mv (.t 7))]
def u28_8 : IC := .seq (.reg u28_8r) u28_9
def u28_58r : List IOper := [oP 176 (.mv (.t 0)), ⟨some 177, .call 52 [.t 176, .k (.int .i64 2)], none⟩, oP 178 (.mv (.t 0)), ⟨some 179, .call 27 [.t 178, .k (.int .i64 3)], none⟩, oP 180 (.bld #[.int .i64 0, .int .i64 0] [(0, 1), (1, 1)] [(0, .k (.int .i64 3)), (1, .t 179)]), ⟨some 181, .new (.bsl 2 1 #[.int .i64 0, .int .i64 0] [(0, .t 180)]), none⟩, ⟨some 182, .eff (.app 2 16 (.t 177) (.t 181)), none⟩, oP 6 (.mv (.t 182))]
def u28_58 : IC := .seq (.reg u28_58r) .ret
def u28_7 : IC := .seq u28_8 u28_58
def u28_3 : IC := .seq u28_4 u28_7
def u28_2r : List IOper := [oP 14 (.mv (.t 0)), ⟨some 15, .call 27 [.t 14, .k (.int .i64 15)], none⟩, oP 7 (.mv (.t 15))]
def u28_2 : IC := .seq (.reg u28_2r) u28_3
def u28_1r : List IOper := [oP 6 (.mv (.k (.slice none 0 0)))]
def u28_1 : IC := .seq (.reg u28_1r) u28_2
def u28 : IFn := ⟨183, u28_1, [.tmp 6]⟩
end
theorem isU28 : IsFn Tryd.prog 28 u28 := by unfold IsFn; kernel_rfl
instance i28_6 : WR Tryd.prog 183 u28_6 (rE u28_6r [0, 1, 2]) := ⟨mkE⟩
instance i28_5 : WR Tryd.prog 183 u28_5 (rCE (.t 21) u28_6 .skip [0, 1, 2, 7, 21]) := ⟨mkCE⟩
instance i28_4 : WR Tryd.prog 183 u28_4 (rS u28_4r u28_5 [0, 1, 2, 7]) := ⟨mkS⟩
instance i28_12 : WR Tryd.prog 183 u28_12 (rS u28_12r .ret [0]) := ⟨mkS⟩
instance i28_15 : WR Tryd.prog 183 u28_15 (rS u28_15r .ret [0]) := ⟨mkS⟩
instance i28_18 : WR Tryd.prog 183 u28_18 (rS u28_18r .ret [0]) := ⟨mkS⟩
instance i28_22 : WR Tryd.prog 183 u28_22 (rS u28_22r .ret [0, 8]) := ⟨mkS⟩
instance i28_21 : WR Tryd.prog 183 u28_21 (rS u28_21r u28_22 [0]) := ⟨mkS⟩
instance i28_25 : WR Tryd.prog 183 u28_25 (rS u28_25r .ret [0]) := ⟨mkS⟩
instance i28_28 : WR Tryd.prog 183 u28_28 (rS u28_28r .ret [0]) := ⟨mkS⟩
instance i28_31 : WR Tryd.prog 183 u28_31 (rS u28_31r .ret [0]) := ⟨mkS⟩
instance i28_34 : WR Tryd.prog 183 u28_34 (rS u28_34r .ret [0]) := ⟨mkS⟩
instance i28_37 : WR Tryd.prog 183 u28_37 (rS u28_37r .ret [0]) := ⟨mkS⟩
instance i28_40 : WR Tryd.prog 183 u28_40 (rS u28_40r .ret [0]) := ⟨mkS⟩
instance i28_43 : WR Tryd.prog 183 u28_43 (rS u28_43r .ret []) := ⟨mkS⟩
instance i28_48 : WR Tryd.prog 183 u28_48 (rS u28_48r .ret [1, 9, 10]) := ⟨mkS⟩
instance i28_47 : WR Tryd.prog 183 u28_47 (rS u28_47r u28_48 [0, 1, 2, 9]) := ⟨mkS⟩
instance i28_46 : WR Tryd.prog 183 u28_46 (rS u28_46r u28_47 [0, 1, 2]) := ⟨mkS⟩
instance i28_52 : WR Tryd.prog 183 u28_52 (rE u28_52r [0, 1, 2, 22]) := ⟨mkE⟩
instance i28_51 : WR Tryd.prog 183 u28_51 (rCE (.t 140) .skip u28_52 [0, 1, 2, 22, 140]) := ⟨mkCE⟩
instance i28_50 : WR Tryd.prog 183 u28_50 (rS u28_50r u28_51 [0, 1, 2, 22]) := ⟨mkS⟩
instance i28_57 : WR Tryd.prog 183 u28_57 (rS u28_57r .ret [1, 11, 12, 13]) := ⟨mkS⟩
instance i28_56 : WR Tryd.prog 183 u28_56 (rS u28_56r u28_57 [1, 11, 12]) := ⟨mkS⟩
instance i28_55 : WR Tryd.prog 183 u28_55 (rS u28_55r u28_56 [0, 1, 2, 11]) := ⟨mkS⟩
instance i28_54 : WR Tryd.prog 183 u28_54 (rS u28_54r u28_55 [0, 1, 2]) := ⟨mkS⟩
instance i28_53 : WR Tryd.prog 183 u28_53 (rCE (.t 140) u28_54 .skip [0, 1, 2, 140]) := ⟨mkCE⟩
instance i28_49 : WR Tryd.prog 183 u28_49 (rQ u28_50 u28_53 [0, 1, 2, 22]) := ⟨mkQ⟩
instance i28_45 : WR Tryd.prog 183 u28_45 (rCE (.t 113) u28_46 u28_49 [0, 1, 2, 22, 113]) := ⟨mkCE⟩
instance i28_44 : WR Tryd.prog 183 u28_44 (rS u28_44r u28_45 [0, 1, 2, 22]) := ⟨mkS⟩
instance i28_42 : WR Tryd.prog 183 u28_42 (rCE (.t 109) u28_43 u28_44 [0, 1, 2, 22, 109]) := ⟨mkCE⟩
instance i28_41 : WR Tryd.prog 183 u28_41 (rS u28_41r u28_42 [0, 1, 2, 22]) := ⟨mkS⟩
instance i28_39 : WR Tryd.prog 183 u28_39 (rCE (.t 100) u28_40 u28_41 [0, 1, 2, 22, 100]) := ⟨mkCE⟩
instance i28_38 : WR Tryd.prog 183 u28_38 (rS u28_38r u28_39 [0, 1, 2, 22]) := ⟨mkS⟩
instance i28_36 : WR Tryd.prog 183 u28_36 (rCE (.t 91) u28_37 u28_38 [0, 1, 2, 22, 91]) := ⟨mkCE⟩
instance i28_35 : WR Tryd.prog 183 u28_35 (rS u28_35r u28_36 [0, 1, 2, 22]) := ⟨mkS⟩
instance i28_33 : WR Tryd.prog 183 u28_33 (rCE (.t 85) u28_34 u28_35 [0, 1, 2, 22, 85]) := ⟨mkCE⟩
instance i28_32 : WR Tryd.prog 183 u28_32 (rS u28_32r u28_33 [0, 1, 2, 22]) := ⟨mkS⟩
instance i28_30 : WR Tryd.prog 183 u28_30 (rCE (.t 76) u28_31 u28_32 [0, 1, 2, 22, 76]) := ⟨mkCE⟩
instance i28_29 : WR Tryd.prog 183 u28_29 (rS u28_29r u28_30 [0, 1, 2, 22]) := ⟨mkS⟩
instance i28_27 : WR Tryd.prog 183 u28_27 (rCE (.t 70) u28_28 u28_29 [0, 1, 2, 22, 70]) := ⟨mkCE⟩
instance i28_26 : WR Tryd.prog 183 u28_26 (rS u28_26r u28_27 [0, 1, 2, 22]) := ⟨mkS⟩
instance i28_24 : WR Tryd.prog 183 u28_24 (rCE (.t 61) u28_25 u28_26 [0, 1, 2, 22, 61]) := ⟨mkCE⟩
instance i28_23 : WR Tryd.prog 183 u28_23 (rS u28_23r u28_24 [0, 1, 2, 22]) := ⟨mkS⟩
instance i28_20 : WR Tryd.prog 183 u28_20 (rCE (.t 48) u28_21 u28_23 [0, 1, 2, 22, 48]) := ⟨mkCE⟩
instance i28_19 : WR Tryd.prog 183 u28_19 (rS u28_19r u28_20 [0, 1, 2, 22]) := ⟨mkS⟩
instance i28_17 : WR Tryd.prog 183 u28_17 (rCE (.t 39) u28_18 u28_19 [0, 1, 2, 22, 39]) := ⟨mkCE⟩
instance i28_16 : WR Tryd.prog 183 u28_16 (rS u28_16r u28_17 [0, 1, 2, 22]) := ⟨mkS⟩
instance i28_14 : WR Tryd.prog 183 u28_14 (rCE (.t 30) u28_15 u28_16 [0, 1, 2, 22, 30]) := ⟨mkCE⟩
instance i28_13 : WR Tryd.prog 183 u28_13 (rS u28_13r u28_14 [0, 1, 2, 22]) := ⟨mkS⟩
instance i28_11 : WR Tryd.prog 183 u28_11 (rCE (.t 23) u28_12 u28_13 [0, 1, 2, 22, 23]) := ⟨mkCE⟩
instance i28_10 : WR Tryd.prog 183 u28_10 (rS u28_10r u28_11 [0, 1, 2, 22]) := ⟨mkS⟩
instance i28_9 : WR Tryd.prog 183 u28_9 (rBE 0 u28_10 [0, 1, 2, 22]) := ⟨mkBE⟩
instance i28_8 : WR Tryd.prog 183 u28_8 (rS u28_8r u28_9 [0, 1, 2, 7]) := ⟨mkS⟩
instance i28_58 : WR Tryd.prog 183 u28_58 (rS u28_58r .ret [0]) := ⟨mkS⟩
instance i28_7 : WR Tryd.prog 183 u28_7 (rQ u28_8 u28_58 [0, 1, 2, 7]) := ⟨mkQ⟩
instance i28_3 : WR Tryd.prog 183 u28_3 (rQ u28_4 u28_7 [0, 1, 2, 7]) := ⟨mkQ⟩
instance i28_2 : WR Tryd.prog 183 u28_2 (rS u28_2r u28_3 [0, 1, 2]) := ⟨mkS⟩
instance i28_1 : WR Tryd.prog 183 u28_1 (rS u28_1r u28_2 [0, 1, 2]) := ⟨mkS⟩
attribute [go_sem] u28_6r u28_4r u28_12r u28_15r u28_18r u28_22r u28_21r u28_25r u28_28r u28_31r u28_34r u28_37r u28_40r u28_43r u28_48r u28_47r u28_46r u28_52r u28_50r u28_57r u28_56r u28_55r u28_54r u28_44r u28_41r u28_38r u28_35r u28_32r u28_29r u28_26r u28_23r u28_19r u28_16r u28_13r u28_10r u28_8r u28_58r u28_2r u28_1r
theorem c_stmt (l : List UInt8) (hl : l.length ≤ 100000) : ∀ (d : Nat), d ≤ 2 → ∀ (base p : Nat), base + 10 * d ≤ 100000 → p ≤ l.length → ∀ (H : Hp) (cc t : Nat), H t = some (tapeB l p) → t < cc →
    AC Tryd.prog 28 [.ptr t 0, I64 (base : Int), I64 (d : Int)] H cc (fun v H' c' => ∃ id, cc ≤ id ∧ id < c' ∧ v = .slc id 0 (stmtM l d base p).1.length ∧ H' = (H.upd t (tapeB l (stmtM l d base p).2)).upd id ⟨2, true, insC (stmtM l d base p).1⟩) := by
  intro d
  induction d with
  | zero =>
    intro hd2 base p hbase hp H cc t ht htc
    refine AC.body mixedU isU28 (Nat.le_of_ble_eq_true rfl) fun hfr => ?_
    show IW Tryd.prog 183 u28_1 ⟨argT _, _, _⟩ (rt [.tmp 6] _)
    repeat' ((first | with_reducible refine wr ?_ | ((with_reducible refine wb2 ?_ ?_) <;> (intro hb; try simp only [hb])) | fail) <;> try simp only [go_sem, seval])
    refine AC.call (c_next l hl p hp 15 (by omega) (by omega) H cc t ht htc) ?_
    rintro v H' c1 ⟨rfl, rfl⟩ hcc
    have hp1 := nextM_le (n := 15) hp
    have hk := nextM_lt (l := l) (p := p) (n := 15) (by omega)
    have hdl : decide (((0 : Nat) : Int) ≤ 0) = true := rfl
    obtain ⟨k0, p1, e0⟩ : ∃ k0 p1, nextM l p 15 = (k0, p1) := ⟨_, _, rfl⟩
    rw [e0] at hp1 hk ⊢
    simp only at hp1 hk
    have hv : k0 = 1 ∨ k0 = 2 ∨ k0 = 3 ∨ k0 = 4 ∨ k0 = 5 ∨ k0 = 6 ∨ k0 = 7 ∨ k0 = 8 ∨ k0 = 9 ∨ k0 = 10 ∨ k0 = 11 ∨ k0 = 0 ∨ k0 = 12 ∨ k0 = 13 ∨ k0 = 14 := by omega
    rcases hv with rfl | rfl | rfl | rfl | rfl | rfl | rfl | rfl | rfl | rfl | rfl | rfl | rfl | rfl | rfl
    · have nk : ((1 : Nat) : Int) = 1 := rfl
      simp only [go_sem, seval, hdl, nk, Int.reduceGT, Int.reduceBEq, Int.reduceLE, decide_true, decide_false]
      repeat' ((first | with_reducible refine wr ?_ | ((with_reducible refine wb2 ?_ ?_) <;> (intro hb; try simp only [hb])) | fail) <;> try simp only [go_sem, seval, hdl, nk, Int.reduceGT, Int.reduceBEq, Int.reduceLE, decide_true, decide_false])
      refine AC.call (c_value l hl 1 (by omega) (p1) hp1 _ _ t (by repeat (first | exact h_same | rw [h_ne (by omega)] | rw [h_dne (by omega)])) (by omega)) ?_
      rintro v H' c2 ⟨id1, ia1, ib1, rfl, rfl⟩ hcc2
      have hb1 := valueM_l1 l (p1)
      have hp2 := valueM_le l 1 (p1) hp1
      have ne0 : ¬ t = id1 := by omega
      have ne1 : ¬ t = c2 := by omega
      have ne2 : ¬ t = c2 + 1 := by omega
      have ne3 : ¬ id1 = t := by omega
      have ne4 : ¬ id1 = c2 := by omega
      have ne5 : ¬ id1 = c2 + 1 := by omega
      have ne6 : ¬ c2 = t := by omega
      have ne7 : ¬ c2 = id1 := by omega
      have ne8 : ¬ c2 = c2 + 1 := by omega
      have ne9 : ¬ c2 + 1 = t := by omega
      have ne10 : ¬ c2 + 1 = id1 := by omega
      have ne11 : ¬ c2 + 1 = c2 := by omega
      simp only [go_sem, seval, ne0, ne1, ne2, ne3, ne4, ne5, ne6, ne7, ne8, ne9, ne10, ne11]
      repeat' ((first | with_reducible refine wr ?_ | ((with_reducible refine wb2 ?_ ?_) <;> (intro hb; try simp only [hb])) | ((with_reducible refine k_eval (b_appx (insC_len2 _) (by omega) (by omega)) ?_)) | fail) <;> try simp only [go_sem, seval, ne0, ne1, ne2, ne3, ne4, ne5, ne6, ne7, ne8, ne9, ne10, ne11])
      have es : stmtM l 0 base p = stK l (fun _ p => ([], p)) base 1 p1 := by simp only [stmtM]; rw [e0]; try rfl
      rw [es]
      refine v_end (id := c2 + 1) hfr (by omega) (by omega) htc (by first | rfl | simp only [stK, List.length_append, List.length_singleton]) ?_ ?_ fun j h1 h2 => ?_
      · repeat (first | exact h_same | rw [h_ne (by omega)] | rw [h_dne (by omega)])
      · rw [h_same]; simp only [stK, insC_app, insC_one]
      · repeat (first | rfl | rw [h_ne (by omega)] | rw [h_dne (by omega)])
    · have nk : ((2 : Nat) : Int) = 2 := rfl
      simp only [go_sem, seval, hdl, nk, Int.reduceGT, Int.reduceBEq, Int.reduceLE, decide_true, decide_false]
      repeat' ((first | with_reducible refine wr ?_ | ((with_reducible refine wb2 ?_ ?_) <;> (intro hb; try simp only [hb])) | fail) <;> try simp only [go_sem, seval, hdl, nk, Int.reduceGT, Int.reduceBEq, Int.reduceLE, decide_true, decide_false])
      refine AC.call (c_next l hl (p1) hp1 3 (by omega) (by omega) _ _ t (by repeat (first | exact h_same | rw [h_ne (by omega)] | rw [h_dne (by omega)])) (by omega)) ?_
      rintro v H' c2 ⟨rfl, rfl⟩ hcc2
      have hq2 := nextM_lt (l := l) (p := p1) (n := 3) (by omega)
      have hp2 := nextM_le (l := l) (p := p1) (n := 3) hp1
      have hadd := w64 (n := 16 + ((nextM l p1 3).1 : Int)) (by omega) (by omega)
      have ne0 : ¬ t = c2 := by omega
      have ne1 : ¬ t = c2 + 1 := by omega
      have ne2 : ¬ c2 = t := by omega
      have ne3 : ¬ c2 = c2 + 1 := by omega
      have ne4 : ¬ c2 + 1 = t := by omega
      have ne5 : ¬ c2 + 1 = c2 := by omega
      simp only [go_sem, seval, hadd, ne0, ne1, ne2, ne3, ne4, ne5]
      repeat' ((first | with_reducible refine wr ?_ | ((with_reducible refine wb2 ?_ ?_) <;> (intro hb; try simp only [hb])) | ((with_reducible refine k_eval (b_appx (insC_len2 _) (by omega) (by omega)) ?_)) | fail) <;> try simp only [go_sem, seval, hadd, ne0, ne1, ne2, ne3, ne4, ne5])
      refine AC.call (c_next l hl ((nextM l p1 3).2) hp2 32 (by omega) (by omega) _ _ t (by repeat (first | exact h_same | rw [h_ne (by omega)] | rw [h_dne (by omega)])) (by omega)) ?_
      rintro v H' c3 ⟨rfl, rfl⟩ hcc3
      have hq3 := nextM_lt (l := l) (p := (nextM l p1 3).2) (n := 32) (by omega)
      have hp3 := nextM_le (l := l) (p := (nextM l p1 3).2) (n := 32) hp2
      have ne0 : ¬ t = c3 := by omega
      have ne1 : ¬ t = c3 + 1 := by omega
      have ne2 : ¬ c3 = t := by omega
      have ne3 : ¬ c3 = c3 + 1 := by omega
      have ne4 : ¬ c3 + 1 = t := by omega
      have ne5 : ¬ c3 + 1 = c3 := by omega
      simp only [go_sem, seval, hadd, ne0, ne1, ne2, ne3, ne4, ne5]
      repeat' ((first | with_reducible refine wr ?_ | ((with_reducible refine wb2 ?_ ?_) <;> (intro hb; try simp only [hb])) | ((with_reducible refine k_eval (b_appx (insC_len2 _) (by omega) (by omega)) ?_)) | fail) <;> try simp only [go_sem, seval, hadd, ne0, ne1, ne2, ne3, ne4, ne5])
      have es : stmtM l 0 base p = stK l (fun _ p => ([], p)) base 2 p1 := by simp only [stmtM]; rw [e0]; try rfl
      rw [es]
      refine v_end (id := c3) hfr (by omega) (by omega) htc (by first | rfl | simp only [stK, List.length_append, List.length_singleton]) ?_ ?_ fun j h1 h2 => ?_
      · repeat (first | exact h_same | rw [h_ne (by omega)] | rw [h_dne (by omega)])
      · rw [h_same]; simp only [stK, insC_app, insC_one]
      · repeat (first | rfl | rw [h_ne (by omega)] | rw [h_dne (by omega)])
    · have nk : ((3 : Nat) : Int) = 3 := rfl
      simp only [go_sem, seval, hdl, nk, Int.reduceGT, Int.reduceBEq, Int.reduceLE, decide_true, decide_false]
      repeat' ((first | with_reducible refine wr ?_ | ((with_reducible refine wb2 ?_ ?_) <;> (intro hb; try simp only [hb])) | fail) <;> try simp only [go_sem, seval, hdl, nk, Int.reduceGT, Int.reduceBEq, Int.reduceLE, decide_true, decide_false])
      refine AC.call (c_value l hl 0 (by omega) (p1) hp1 _ _ t (by repeat (first | exact h_same | rw [h_ne (by omega)] | rw [h_dne (by omega)])) (by omega)) ?_
      rintro v H' c2 ⟨id1, ia1, ib1, rfl, rfl⟩ hcc2
      have hb1 := valueM_l0 l (p1)
      have hp2 := valueM_le l 0 (p1) hp1
      have ne0 : ¬ t = id1 := by omega
      have ne1 : ¬ t = c2 := by omega
      have ne2 : ¬ t = c2 + 1 := by omega
      have ne3 : ¬ id1 = t := by omega
      have ne4 : ¬ id1 = c2 := by omega
      have ne5 : ¬ id1 = c2 + 1 := by omega
      have ne6 : ¬ c2 = t := by omega
      have ne7 : ¬ c2 = id1 := by omega
      have ne8 : ¬ c2 = c2 + 1 := by omega
      have ne9 : ¬ c2 + 1 = t := by omega
      have ne10 : ¬ c2 + 1 = id1 := by omega
      have ne11 : ¬ c2 + 1 = c2 := by omega
      simp only [go_sem, seval, ne0, ne1, ne2, ne3, ne4, ne5, ne6, ne7, ne8, ne9, ne10, ne11]
      repeat' ((first | with_reducible refine wr ?_ | ((with_reducible refine wb2 ?_ ?_) <;> (intro hb; try simp only [hb])) | ((with_reducible refine k_eval (b_appx (insC_len2 _) (by omega) (by omega)) ?_)) | fail) <;> try simp only [go_sem, seval, ne0, ne1, ne2, ne3, ne4, ne5, ne6, ne7, ne8, ne9, ne10, ne11])
      refine AC.call (c_next l hl ((valueM l 0 p1).2) hp2 64 (by omega) (by omega) _ _ t (by repeat (first | exact h_same | rw [h_ne (by omega)] | rw [h_dne (by omega)])) (by omega)) ?_
      rintro v H' c3 ⟨rfl, rfl⟩ hcc3
      have hq3 := nextM_lt (l := l) (p := (valueM l 0 p1).2) (n := 64) (by omega)
      have hp3 := nextM_le (l := l) (p := (valueM l 0 p1).2) (n := 64) hp2
      have ne0 : ¬ t = id1 := by omega
      have ne1 : ¬ t = c3 := by omega
      have ne2 : ¬ t = c3 + 1 := by omega
      have ne3 : ¬ id1 = t := by omega
      have ne4 : ¬ id1 = c3 := by omega
      have ne5 : ¬ id1 = c3 + 1 := by omega
      have ne6 : ¬ c3 = t := by omega
      have ne7 : ¬ c3 = id1 := by omega
      have ne8 : ¬ c3 = c3 + 1 := by omega
      have ne9 : ¬ c3 + 1 = t := by omega
      have ne10 : ¬ c3 + 1 = id1 := by omega
      have ne11 : ¬ c3 + 1 = c3 := by omega
      simp only [go_sem, seval, ne0, ne1, ne2, ne3, ne4, ne5, ne6, ne7, ne8, ne9, ne10, ne11]
      repeat' ((first | with_reducible refine wr ?_ | ((with_reducible refine wb2 ?_ ?_) <;> (intro hb; try simp only [hb])) | ((with_reducible refine k_eval (b_appx (insC_len2 _) (by omega) (by omega)) ?_)) | fail) <;> try simp only [go_sem, seval, ne0, ne1, ne2, ne3, ne4, ne5, ne6, ne7, ne8, ne9, ne10, ne11])
      have es : stmtM l 0 base p = stK l (fun _ p => ([], p)) base 3 p1 := by simp only [stmtM]; rw [e0]; try rfl
      rw [es]
      refine v_end (id := c3 + 1) hfr (by omega) (by omega) htc (by first | rfl | simp only [stK, List.length_append, List.length_singleton]) ?_ ?_ fun j h1 h2 => ?_
      · repeat (first | exact h_same | rw [h_ne (by omega)] | rw [h_dne (by omega)])
      · rw [h_same]; simp only [stK, insC_app, insC_one]
      · repeat (first | rfl | rw [h_ne (by omega)] | rw [h_dne (by omega)])
    · have nk : ((4 : Nat) : Int) = 4 := rfl
      simp only [go_sem, seval, hdl, nk, Int.reduceGT, Int.reduceBEq, Int.reduceLE, decide_true, decide_false]
      repeat' ((first | with_reducible refine wr ?_ | ((with_reducible refine wb2 ?_ ?_) <;> (intro hb; try simp only [hb])) | fail) <;> try simp only [go_sem, seval, hdl, nk, Int.reduceGT, Int.reduceBEq, Int.reduceLE, decide_true, decide_false])
      refine AC.call (c_value l hl 0 (by omega) (p1) hp1 _ _ t (by repeat (first | exact h_same | rw [h_ne (by omega)] | rw [h_dne (by omega)])) (by omega)) ?_
      rintro v H' c2 ⟨id1, ia1, ib1, rfl, rfl⟩ hcc2
      have hb1 := valueM_l0 l (p1)
      have hp2 := valueM_le l 0 (p1) hp1
      have ne0 : ¬ t = id1 := by omega
      have ne1 : ¬ t = c2 := by omega
      have ne2 : ¬ t = c2 + 1 := by omega
      have ne3 : ¬ id1 = t := by omega
      have ne4 : ¬ id1 = c2 := by omega
      have ne5 : ¬ id1 = c2 + 1 := by omega
      have ne6 : ¬ c2 = t := by omega
      have ne7 : ¬ c2 = id1 := by omega
      have ne8 : ¬ c2 = c2 + 1 := by omega
      have ne9 : ¬ c2 + 1 = t := by omega
      have ne10 : ¬ c2 + 1 = id1 := by omega
      have ne11 : ¬ c2 + 1 = c2 := by omega
      simp only [go_sem, seval, ne0, ne1, ne2, ne3, ne4, ne5, ne6, ne7, ne8, ne9, ne10, ne11]
      repeat' ((first | with_reducible refine wr ?_ | ((with_reducible refine wb2 ?_ ?_) <;> (intro hb; try simp only [hb])) | ((with_reducible refine k_eval (b_appx (insC_len2 _) (by omega) (by omega)) ?_)) | fail) <;> try simp only [go_sem, seval, ne0, ne1, ne2, ne3, ne4, ne5, ne6, ne7, ne8, ne9, ne10, ne11])
      refine AC.call (c_value l hl 0 (by omega) ((valueM l 0 p1).2) hp2 _ _ t (by repeat (first | exact h_same | rw [h_ne (by omega)] | rw [h_dne (by omega)])) (by omega)) ?_
      rintro v H' c3 ⟨id2, ia2, ib2, rfl, rfl⟩ hcc3
      have hb2 := valueM_l0 l ((valueM l 0 p1).2)
      have hp3 := valueM_le l 0 ((valueM l 0 p1).2) hp2
      have hl2 := insC_len2 (valueM l 0 ((valueM l 0 p1).2)).1
      have hle2 : (valueM l 0 ((valueM l 0 p1).2)).1.length * 2 ≤ (insC (valueM l 0 ((valueM l 0 p1).2)).1).length := by omega
      have htk := List.take_of_length_le (l := insC (valueM l 0 ((valueM l 0 p1).2)).1) (i := (valueM l 0 ((valueM l 0 p1).2)).1.length * 2) (by omega)
      have ne0 : ¬ t = id1 := by omega
      have ne1 : ¬ t = id2 := by omega
      have ne2 : ¬ t = c3 := by omega
      have ne3 : ¬ t = c3 + 1 := by omega
      have ne4 : ¬ id1 = t := by omega
      have ne5 : ¬ id1 = id2 := by omega
      have ne6 : ¬ id1 = c3 := by omega
      have ne7 : ¬ id1 = c3 + 1 := by omega
      have ne8 : ¬ id2 = t := by omega
      have ne9 : ¬ id2 = id1 := by omega
      have ne10 : ¬ id2 = c3 := by omega
      have ne11 : ¬ id2 = c3 + 1 := by omega
      have ne12 : ¬ c3 = t := by omega
      have ne13 : ¬ c3 = id1 := by omega
      have ne14 : ¬ c3 = id2 := by omega
      have ne15 : ¬ c3 = c3 + 1 := by omega
      have ne16 : ¬ c3 + 1 = t := by omega
      have ne17 : ¬ c3 + 1 = id1 := by omega
      have ne18 : ¬ c3 + 1 = id2 := by omega
      have ne19 : ¬ c3 + 1 = c3 := by omega
      simp only [go_sem, seval, hle2, htk, ne0, ne1, ne2, ne3, ne4, ne5, ne6, ne7, ne8, ne9, ne10, ne11, ne12, ne13, ne14, ne15, ne16, ne17, ne18, ne19]
      repeat' ((first | with_reducible refine wr ?_ | ((with_reducible refine wb2 ?_ ?_) <;> (intro hb; try simp only [hb])) | ((with_reducible refine k_eval (b_appx (insC_len2 _) (by omega) (by omega)) ?_)) | fail) <;> try simp only [go_sem, seval, hle2, htk, ne0, ne1, ne2, ne3, ne4, ne5, ne6, ne7, ne8, ne9, ne10, ne11, ne12, ne13, ne14, ne15, ne16, ne17, ne18, ne19])
      refine AC.call (c_next l hl ((valueM l 0 ((valueM l 0 p1).2)).2) hp3 64 (by omega) (by omega) _ _ t (by repeat (first | exact h_same | rw [h_ne (by omega)] | rw [h_dne (by omega)])) (by omega)) ?_
      rintro v H' c4 ⟨rfl, rfl⟩ hcc4
      have hq4 := nextM_lt (l := l) (p := (valueM l 0 ((valueM l 0 p1).2)).2) (n := 64) (by omega)
      have hp4 := nextM_le (l := l) (p := (valueM l 0 ((valueM l 0 p1).2)).2) (n := 64) hp3
      have hl3 := insL2 (valueM l 0 p1).1 (valueM l 0 ((valueM l 0 p1).2)).1
      have ne0 : ¬ t = c3 := by omega
      have ne1 : ¬ t = c4 := by omega
      have ne2 : ¬ t = c4 + 1 := by omega
      have ne3 : ¬ c3 = t := by omega
      have ne4 : ¬ c3 = c4 := by omega
      have ne5 : ¬ c3 = c4 + 1 := by omega
      have ne6 : ¬ c4 = t := by omega
      have ne7 : ¬ c4 = c3 := by omega
      have ne8 : ¬ c4 = c4 + 1 := by omega
      have ne9 : ¬ c4 + 1 = t := by omega
      have ne10 : ¬ c4 + 1 = c3 := by omega
      have ne11 : ¬ c4 + 1 = c4 := by omega
      simp only [go_sem, seval, ne0, ne1, ne2, ne3, ne4, ne5, ne6, ne7, ne8, ne9, ne10, ne11]
      repeat' ((first | with_reducible refine wr ?_ | ((with_reducible refine wb2 ?_ ?_) <;> (intro hb; try simp only [hb])) | ((with_reducible refine k_eval (b_appx (insC_len2 _) (by omega) (by omega)) ?_)) | ((with_reducible refine k_eval (b_appx hl3 (by omega) (by omega)) ?_)) | fail) <;> try simp only [go_sem, seval, ne0, ne1, ne2, ne3, ne4, ne5, ne6, ne7, ne8, ne9, ne10, ne11])
      have es : stmtM l 0 base p = stK l (fun _ p => ([], p)) base 4 p1 := by simp only [stmtM]; rw [e0]; try rfl
      rw [es]
      refine v_end (id := c4 + 1) hfr (by omega) (by omega) htc (by first | rfl | simp only [stK, List.length_append, List.length_singleton]) ?_ ?_ fun j h1 h2 => ?_
      · repeat (first | exact h_same | rw [h_ne (by omega)] | rw [h_dne (by omega)])
      · rw [h_same]; simp only [stK, insC_app, insC_one]
      · repeat (first | rfl | rw [h_ne (by omega)] | rw [h_dne (by omega)])
    · have nk : ((5 : Nat) : Int) = 5 := rfl
      simp only [go_sem, seval, hdl, nk, Int.reduceGT, Int.reduceBEq, Int.reduceLE, decide_true, decide_false]
      repeat' ((first | with_reducible refine wr ?_ | ((with_reducible refine wb2 ?_ ?_) <;> (intro hb; try simp only [hb])) | fail) <;> try simp only [go_sem, seval, hdl, nk, Int.reduceGT, Int.reduceBEq, Int.reduceLE, decide_true, decide_false])
      refine AC.call (c_value l hl 1 (by omega) (p1) hp1 _ _ t (by repeat (first | exact h_same | rw [h_ne (by omega)] | rw [h_dne (by omega)])) (by omega)) ?_
      rintro v H' c2 ⟨id1, ia1, ib1, rfl, rfl⟩ hcc2
      have hb1 := valueM_l1 l (p1)
      have hp2 := valueM_le l 1 (p1) hp1
      have ne0 : ¬ t = id1 := by omega
      have ne1 : ¬ t = c2 := by omega
      have ne2 : ¬ t = c2 + 1 := by omega
      have ne3 : ¬ id1 = t := by omega
      have ne4 : ¬ id1 = c2 := by omega
      have ne5 : ¬ id1 = c2 + 1 := by omega
      have ne6 : ¬ c2 = t := by omega
      have ne7 : ¬ c2 = id1 := by omega
      have ne8 : ¬ c2 = c2 + 1 := by omega
      have ne9 : ¬ c2 + 1 = t := by omega
      have ne10 : ¬ c2 + 1 = id1 := by omega
      have ne11 : ¬ c2 + 1 = c2 := by omega
      simp only [go_sem, seval, ne0, ne1, ne2, ne3, ne4, ne5, ne6, ne7, ne8, ne9, ne10, ne11]
      repeat' ((first | with_reducible refine wr ?_ | ((with_reducible refine wb2 ?_ ?_) <;> (intro hb; try simp only [hb])) | ((with_reducible refine k_eval (b_appx (insC_len2 _) (by omega) (by omega)) ?_)) | fail) <;> try simp only [go_sem, seval, ne0, ne1, ne2, ne3, ne4, ne5, ne6, ne7, ne8, ne9, ne10, ne11])
      refine AC.call (c_next l hl ((valueM l 1 p1).2) hp2 2 (by omega) (by omega) _ _ t (by repeat (first | exact h_same | rw [h_ne (by omega)] | rw [h_dne (by omega)])) (by omega)) ?_
      rintro v H' c3 ⟨rfl, rfl⟩ hcc3
      have hq3 := nextM_lt (l := l) (p := (valueM l 1 p1).2) (n := 2) (by omega)
      have hp3 := nextM_le (l := l) (p := (valueM l 1 p1).2) (n := 2) hp2
      have ne0 : ¬ t = id1 := by omega
      have ne1 : ¬ t = c3 := by omega
      have ne2 : ¬ t = c3 + 1 := by omega
      have ne3 : ¬ id1 = t := by omega
      have ne4 : ¬ id1 = c3 := by omega
      have ne5 : ¬ id1 = c3 + 1 := by omega
      have ne6 : ¬ c3 = t := by omega
      have ne7 : ¬ c3 = id1 := by omega
      have ne8 : ¬ c3 = c3 + 1 := by omega
      have ne9 : ¬ c3 + 1 = t := by omega
      have ne10 : ¬ c3 + 1 = id1 := by omega
      have ne11 : ¬ c3 + 1 = c3 := by omega
      simp only [go_sem, seval, ne0, ne1, ne2, ne3, ne4, ne5, ne6, ne7, ne8, ne9, ne10, ne11]
      repeat' ((first | with_reducible refine wr ?_ | ((with_reducible refine wb2 ?_ ?_) <;> (intro hb; try simp only [hb])) | ((with_reducible refine k_eval (b_appx (insC_len2 _) (by omega) (by omega)) ?_)) | fail) <;> try simp only [go_sem, seval, ne0, ne1, ne2, ne3, ne4, ne5, ne6, ne7, ne8, ne9, ne10, ne11])
      have es : stmtM l 0 base p = stK l (fun _ p => ([], p)) base 5 p1 := by simp only [stmtM]; rw [e0]; try rfl
      rw [es]
      refine v_end (id := c3 + 1) hfr (by omega) (by omega) htc (by first | rfl | simp only [stK, List.length_append, List.length_singleton]) ?_ ?_ fun j h1 h2 => ?_
      · repeat (first | exact h_same | rw [h_ne (by omega)] | rw [h_dne (by omega)])
      · rw [h_same]; simp only [stK, insC_app, insC_one]
      · repeat (first | rfl | rw [h_ne (by omega)] | rw [h_dne (by omega)])
    · have nk : ((6 : Nat) : Int) = 6 := rfl
      simp only [go_sem, seval, hdl, nk, Int.reduceGT, Int.reduceBEq, Int.reduceLE, decide_true, decide_false]
      repeat' ((first | with_reducible refine wr ?_ | ((with_reducible refine wb2 ?_ ?_) <;> (intro hb; try simp only [hb])) | fail) <;> try simp only [go_sem, seval, hdl, nk, Int.reduceGT, Int.reduceBEq, Int.reduceLE, decide_true, decide_false])
      refine AC.call (c_next l hl (p1) hp1 2 (by omega) (by omega) _ _ t (by repeat (first | exact h_same | rw [h_ne (by omega)] | rw [h_dne (by omega)])) (by omega)) ?_
      rintro v H' c2 ⟨rfl, rfl⟩ hcc2
      have hq2 := nextM_lt (l := l) (p := p1) (n := 2) (by omega)
      have hp2 := nextM_le (l := l) (p := p1) (n := 2) hp1
      have ne0 : ¬ t = c2 := by omega
      have ne1 : ¬ t = c2 + 1 := by omega
      have ne2 : ¬ c2 = t := by omega
      have ne3 : ¬ c2 = c2 + 1 := by omega
      have ne4 : ¬ c2 + 1 = t := by omega
      have ne5 : ¬ c2 + 1 = c2 := by omega
      simp only [go_sem, seval, ne0, ne1, ne2, ne3, ne4, ne5]
      repeat' ((first | with_reducible refine wr ?_ | ((with_reducible refine wb2 ?_ ?_) <;> (intro hb; try simp only [hb])) | ((with_reducible refine k_eval (b_appx (insC_len2 _) (by omega) (by omega)) ?_)) | fail) <;> try simp only [go_sem, seval, ne0, ne1, ne2, ne3, ne4, ne5])
      have es : stmtM l 0 base p = stK l (fun _ p => ([], p)) base 6 p1 := by simp only [stmtM]; rw [e0]; try rfl
      rw [es]
      refine v_end (id := c2) hfr (by omega) (by omega) htc (by first | rfl | simp only [stK, List.length_append, List.length_singleton]) ?_ ?_ fun j h1 h2 => ?_
      · repeat (first | exact h_same | rw [h_ne (by omega)] | rw [h_dne (by omega)])
      · rw [h_same]; simp only [stK, insC_app, insC_one]
      · repeat (first | rfl | rw [h_ne (by omega)] | rw [h_dne (by omega)])
    · have nk : ((7 : Nat) : Int) = 7 := rfl
      simp only [go_sem, seval, hdl, nk, Int.reduceGT, Int.reduceBEq, Int.reduceLE, decide_true, decide_false]
      repeat' ((first | with_reducible refine wr ?_ | ((with_reducible refine wb2 ?_ ?_) <;> (intro hb; try simp only [hb])) | fail) <;> try simp only [go_sem, seval, hdl, nk, Int.reduceGT, Int.reduceBEq, Int.reduceLE, decide_true, decide_false])
      refine AC.call (c_next l hl (p1) hp1 2 (by omega) (by omega) _ _ t (by repeat (first | exact h_same | rw [h_ne (by omega)] | rw [h_dne (by omega)])) (by omega)) ?_
      rintro v H' c2 ⟨rfl, rfl⟩ hcc2
      have hq2 := nextM_lt (l := l) (p := p1) (n := 2) (by omega)
      have hp2 := nextM_le (l := l) (p := p1) (n := 2) hp1
      have hadd := w64 (n := 23 + ((nextM l p1 2).1 : Int)) (by omega) (by omega)
      have ne0 : ¬ t = c2 := by omega
      have ne1 : ¬ t = c2 + 1 := by omega
      have ne2 : ¬ c2 = t := by omega
      have ne3 : ¬ c2 = c2 + 1 := by omega
      have ne4 : ¬ c2 + 1 = t := by omega
      have ne5 : ¬ c2 + 1 = c2 := by omega
      simp only [go_sem, seval, hadd, ne0, ne1, ne2, ne3, ne4, ne5]
      repeat' ((first | with_reducible refine wr ?_ | ((with_reducible refine wb2 ?_ ?_) <;> (intro hb; try simp only [hb])) | ((with_reducible refine k_eval (b_appx (insC_len2 _) (by omega) (by omega)) ?_)) | fail) <;> try simp only [go_sem, seval, hadd, ne0, ne1, ne2, ne3, ne4, ne5])
      refine AC.call (c_next l hl ((nextM l p1 2).2) hp2 2 (by omega) (by omega) _ _ t (by repeat (first | exact h_same | rw [h_ne (by omega)] | rw [h_dne (by omega)])) (by omega)) ?_
      rintro v H' c3 ⟨rfl, rfl⟩ hcc3
      have hq3 := nextM_lt (l := l) (p := (nextM l p1 2).2) (n := 2) (by omega)
      have hp3 := nextM_le (l := l) (p := (nextM l p1 2).2) (n := 2) hp2
      have ne0 : ¬ t = c3 := by omega
      have ne1 : ¬ t = c3 + 1 := by omega
      have ne2 : ¬ c3 = t := by omega
      have ne3 : ¬ c3 = c3 + 1 := by omega
      have ne4 : ¬ c3 + 1 = t := by omega
      have ne5 : ¬ c3 + 1 = c3 := by omega
      simp only [go_sem, seval, hadd, ne0, ne1, ne2, ne3, ne4, ne5]
      repeat' ((first | with_reducible refine wr ?_ | ((with_reducible refine wb2 ?_ ?_) <;> (intro hb; try simp only [hb])) | ((with_reducible refine k_eval (b_appx (insC_len2 _) (by omega) (by omega)) ?_)) | fail) <;> try simp only [go_sem, seval, hadd, ne0, ne1, ne2, ne3, ne4, ne5])
      have es : stmtM l 0 base p = stK l (fun _ p => ([], p)) base 7 p1 := by simp only [stmtM]; rw [e0]; try rfl
      rw [es]
      refine v_end (id := c3) hfr (by omega) (by omega) htc (by first | rfl | simp only [stK, List.length_append, List.length_singleton]) ?_ ?_ fun j h1 h2 => ?_
      · repeat (first | exact h_same | rw [h_ne (by omega)] | rw [h_dne (by omega)])
      · rw [h_same]; simp only [stK, insC_app, insC_one]
      · repeat (first | rfl | rw [h_ne (by omega)] | rw [h_dne (by omega)])
    · have nk : ((8 : Nat) : Int) = 8 := rfl
      simp only [go_sem, seval, hdl, nk, Int.reduceGT, Int.reduceBEq, Int.reduceLE, decide_true, decide_false]
      repeat' ((first | with_reducible refine wr ?_ | ((with_reducible refine wb2 ?_ ?_) <;> (intro hb; try simp only [hb])) | fail) <;> try simp only [go_sem, seval, hdl, nk, Int.reduceGT, Int.reduceBEq, Int.reduceLE, decide_true, decide_false])
      refine AC.call (c_next l hl (p1) hp1 2 (by omega) (by omega) _ _ t (by repeat (first | exact h_same | rw [h_ne (by omega)] | rw [h_dne (by omega)])) (by omega)) ?_
      rintro v H' c2 ⟨rfl, rfl⟩ hcc2
      have hq2 := nextM_lt (l := l) (p := p1) (n := 2) (by omega)
      have hp2 := nextM_le (l := l) (p := p1) (n := 2) hp1
      have ne0 : ¬ t = c2 := by omega
      have ne1 : ¬ t = c2 + 1 := by omega
      have ne2 : ¬ c2 = t := by omega
      have ne3 : ¬ c2 = c2 + 1 := by omega
      have ne4 : ¬ c2 + 1 = t := by omega
      have ne5 : ¬ c2 + 1 = c2 := by omega
      simp only [go_sem, seval, ne0, ne1, ne2, ne3, ne4, ne5]
      repeat' ((first | with_reducible refine wr ?_ | ((with_reducible refine wb2 ?_ ?_) <;> (intro hb; try simp only [hb])) | ((with_reducible refine k_eval (b_appx (insC_len2 _) (by omega) (by omega)) ?_)) | fail) <;> try simp only [go_sem, seval, ne0, ne1, ne2, ne3, ne4, ne5])
      have es : stmtM l 0 base p = stK l (fun _ p => ([], p)) base 8 p1 := by simp only [stmtM]; rw [e0]; try rfl
      rw [es]
      refine v_end (id := c2) hfr (by omega) (by omega) htc (by first | rfl | simp only [stK, List.length_append, List.length_singleton]) ?_ ?_ fun j h1 h2 => ?_
      · repeat (first | exact h_same | rw [h_ne (by omega)] | rw [h_dne (by omega)])
      · rw [h_same]; simp only [stK, insC_app, insC_one]
      · repeat (first | rfl | rw [h_ne (by omega)] | rw [h_dne (by omega)])
    · have nk : ((9 : Nat) : Int) = 9 := rfl
      simp only [go_sem, seval, hdl, nk, Int.reduceGT, Int.reduceBEq, Int.reduceLE, decide_true, decide_false]
      repeat' ((first | with_reducible refine wr ?_ | ((with_reducible refine wb2 ?_ ?_) <;> (intro hb; try simp only [hb])) | fail) <;> try simp only [go_sem, seval, hdl, nk, Int.reduceGT, Int.reduceBEq, Int.reduceLE, decide_true, decide_false])
      refine AC.call (c_next l hl (p1) hp1 3 (by omega) (by omega) _ _ t (by repeat (first | exact h_same | rw [h_ne (by omega)] | rw [h_dne (by omega)])) (by omega)) ?_
      rintro v H' c2 ⟨rfl, rfl⟩ hcc2
      have hq2 := nextM_lt (l := l) (p := p1) (n := 3) (by omega)
      have hp2 := nextM_le (l := l) (p := p1) (n := 3) hp1
      have hadd := w64 (n := 26 + ((nextM l p1 3).1 : Int)) (by omega) (by omega)
      have ne0 : ¬ t = c2 := by omega
      have ne1 : ¬ t = c2 + 1 := by omega
      have ne2 : ¬ c2 = t := by omega
      have ne3 : ¬ c2 = c2 + 1 := by omega
      have ne4 : ¬ c2 + 1 = t := by omega
      have ne5 : ¬ c2 + 1 = c2 := by omega
      simp only [go_sem, seval, hadd, ne0, ne1, ne2, ne3, ne4, ne5]
      repeat' ((first | with_reducible refine wr ?_ | ((with_reducible refine wb2 ?_ ?_) <;> (intro hb; try simp only [hb])) | ((with_reducible refine k_eval (b_appx (insC_len2 _) (by omega) (by omega)) ?_)) | fail) <;> try simp only [go_sem, seval, hadd, ne0, ne1, ne2, ne3, ne4, ne5])
      refine AC.call (c_next l hl ((nextM l p1 3).2) hp2 64 (by omega) (by omega) _ _ t (by repeat (first | exact h_same | rw [h_ne (by omega)] | rw [h_dne (by omega)])) (by omega)) ?_
      rintro v H' c3 ⟨rfl, rfl⟩ hcc3
      have hq3 := nextM_lt (l := l) (p := (nextM l p1 3).2) (n := 64) (by omega)
      have hp3 := nextM_le (l := l) (p := (nextM l p1 3).2) (n := 64) hp2
      have ne0 : ¬ t = c3 := by omega
      have ne1 : ¬ t = c3 + 1 := by omega
      have ne2 : ¬ c3 = t := by omega
      have ne3 : ¬ c3 = c3 + 1 := by omega
      have ne4 : ¬ c3 + 1 = t := by omega
      have ne5 : ¬ c3 + 1 = c3 := by omega
      simp only [go_sem, seval, hadd, ne0, ne1, ne2, ne3, ne4, ne5]
      repeat' ((first | with_reducible refine wr ?_ | ((with_reducible refine wb2 ?_ ?_) <;> (intro hb; try simp only [hb])) | ((with_reducible refine k_eval (b_appx (insC_len2 _) (by omega) (by omega)) ?_)) | fail) <;> try simp only [go_sem, seval, hadd, ne0, ne1, ne2, ne3, ne4, ne5])
      have es : stmtM l 0 base p = stK l (fun _ p => ([], p)) base 9 p1 := by simp only [stmtM]; rw [e0]; try rfl
      rw [es]
      refine v_end (id := c3) hfr (by omega) (by omega) htc (by first | rfl | simp only [stK, List.length_append, List.length_singleton]) ?_ ?_ fun j h1 h2 => ?_
      · repeat (first | exact h_same | rw [h_ne (by omega)] | rw [h_dne (by omega)])
      · rw [h_same]; simp only [stK, insC_app, insC_one]
      · repeat (first | rfl | rw [h_ne (by omega)] | rw [h_dne (by omega)])
    · have nk : ((10 : Nat) : Int) = 10 := rfl
      simp only [go_sem, seval, hdl, nk, Int.reduceGT, Int.reduceBEq, Int.reduceLE, decide_true, decide_false]
      repeat' ((first | with_reducible refine wr ?_ | ((with_reducible refine wb2 ?_ ?_) <;> (intro hb; try simp only [hb])) | fail) <;> try simp only [go_sem, seval, hdl, nk, Int.reduceGT, Int.reduceBEq, Int.reduceLE, decide_true, decide_false])
      refine AC.call (c_value l hl 1 (by omega) (p1) hp1 _ _ t (by repeat (first | exact h_same | rw [h_ne (by omega)] | rw [h_dne (by omega)])) (by omega)) ?_
      rintro v H' c2 ⟨id1, ia1, ib1, rfl, rfl⟩ hcc2
      have hb1 := valueM_l1 l (p1)
      have hp2 := valueM_le l 1 (p1) hp1
      have ne0 : ¬ t = id1 := by omega
      have ne1 : ¬ t = c2 := by omega
      have ne2 : ¬ t = c2 + 1 := by omega
      have ne3 : ¬ id1 = t := by omega
      have ne4 : ¬ id1 = c2 := by omega
      have ne5 : ¬ id1 = c2 + 1 := by omega
      have ne6 : ¬ c2 = t := by omega
      have ne7 : ¬ c2 = id1 := by omega
      have ne8 : ¬ c2 = c2 + 1 := by omega
      have ne9 : ¬ c2 + 1 = t := by omega
      have ne10 : ¬ c2 + 1 = id1 := by omega
      have ne11 : ¬ c2 + 1 = c2 := by omega
      simp only [go_sem, seval, ne0, ne1, ne2, ne3, ne4, ne5, ne6, ne7, ne8, ne9, ne10, ne11]
      repeat' ((first | with_reducible refine wr ?_ | ((with_reducible refine wb2 ?_ ?_) <;> (intro hb; try simp only [hb])) | ((with_reducible refine k_eval (b_appx (insC_len2 _) (by omega) (by omega)) ?_)) | fail) <;> try simp only [go_sem, seval, ne0, ne1, ne2, ne3, ne4, ne5, ne6, ne7, ne8, ne9, ne10, ne11])
      refine AC.call (c_next l hl ((valueM l 1 p1).2) hp2 2 (by omega) (by omega) _ _ t (by repeat (first | exact h_same | rw [h_ne (by omega)] | rw [h_dne (by omega)])) (by omega)) ?_
      rintro v H' c3 ⟨rfl, rfl⟩ hcc3
      have hq3 := nextM_lt (l := l) (p := (valueM l 1 p1).2) (n := 2) (by omega)
      have hp3 := nextM_le (l := l) (p := (valueM l 1 p1).2) (n := 2) hp2
      have ne0 : ¬ t = id1 := by omega
      have ne1 : ¬ t = c3 := by omega
      have ne2 : ¬ t = c3 + 1 := by omega
      have ne3 : ¬ id1 = t := by omega
      have ne4 : ¬ id1 = c3 := by omega
      have ne5 : ¬ id1 = c3 + 1 := by omega
      have ne6 : ¬ c3 = t := by omega
      have ne7 : ¬ c3 = id1 := by omega
      have ne8 : ¬ c3 = c3 + 1 := by omega
      have ne9 : ¬ c3 + 1 = t := by omega
      have ne10 : ¬ c3 + 1 = id1 := by omega
      have ne11 : ¬ c3 + 1 = c3 := by omega
      simp only [go_sem, seval, ne0, ne1, ne2, ne3, ne4, ne5, ne6, ne7, ne8, ne9, ne10, ne11]
      repeat' ((first | with_reducible refine wr ?_ | ((with_reducible refine wb2 ?_ ?_) <;> (intro hb; try simp only [hb])) | ((with_reducible refine k_eval (b_appx (insC_len2 _) (by omega) (by omega)) ?_)) | fail) <;> try simp only [go_sem, seval, ne0, ne1, ne2, ne3, ne4, ne5, ne6, ne7, ne8, ne9, ne10, ne11])
      have es : stmtM l 0 base p = stK l (fun _ p => ([], p)) base 10 p1 := by simp only [stmtM]; rw [e0]; try rfl
      rw [es]
      refine v_end (id := c3 + 1) hfr (by omega) (by omega) htc (by first | rfl | simp only [stK, List.length_append, List.length_singleton]) ?_ ?_ fun j h1 h2 => ?_
      · repeat (first | exact h_same | rw [h_ne (by omega)] | rw [h_dne (by omega)])
      · rw [h_same]; simp only [stK, insC_app, insC_one]
      · repeat (first | rfl | rw [h_ne (by omega)] | rw [h_dne (by omega)])
    · have nk : ((11 : Nat) : Int) = 11 := rfl
      simp only [go_sem, seval, hdl, nk, Int.reduceGT, Int.reduceBEq, Int.reduceLE, decide_true, decide_false]
      repeat' ((first | with_reducible refine wr ?_ | ((with_reducible refine wb2 ?_ ?_) <;> (intro hb; try simp only [hb])) | fail) <;> try simp only [go_sem, seval, hdl, nk, Int.reduceGT, Int.reduceBEq, Int.reduceLE, decide_true, decide_false])
      have es : stmtM l 0 base p = stK l (fun _ p => ([], p)) base 11 p1 := by simp only [stmtM]; rw [e0]; try rfl
      rw [es]
      refine v_end (id := c1) hfr (by omega) (by omega) htc (by first | rfl | simp only [stK, List.length_append, List.length_singleton]) ?_ ?_ fun j h1 h2 => ?_
      · repeat (first | exact h_same | rw [h_ne (by omega)] | rw [h_dne (by omega)])
      · rw [h_same]; simp only [stK, insC_app, insC_one]
      · repeat (first | rfl | rw [h_ne (by omega)] | rw [h_dne (by omega)])
    · have nk : ((0 : Nat) : Int) = 0 := rfl
      simp only [go_sem, seval, hdl, nk, Int.reduceGT, Int.reduceBEq, Int.reduceLE, decide_true, decide_false]
      repeat' ((first | with_reducible refine wr ?_ | ((with_reducible refine wb2 ?_ ?_) <;> (intro hb; try simp only [hb])) | fail) <;> try simp only [go_sem, seval, hdl, nk, Int.reduceGT, Int.reduceBEq, Int.reduceLE, decide_true, decide_false])
      refine AC.call (c_value l hl 2 (by omega) (p1) hp1 _ _ t (by repeat (first | exact h_same | rw [h_ne (by omega)] | rw [h_dne (by omega)])) (by omega)) ?_
      rintro v H' c2 ⟨id1, ia1, ib1, rfl, rfl⟩ hcc2
      have hb1 := valueM_l2 l (p1)
      have hp2 := valueM_le l 2 (p1) hp1
      have ne0 : ¬ t = id1 := by omega
      have ne1 : ¬ t = c2 := by omega
      have ne2 : ¬ t = c2 + 1 := by omega
      have ne3 : ¬ id1 = t := by omega
      have ne4 : ¬ id1 = c2 := by omega
      have ne5 : ¬ id1 = c2 + 1 := by omega
      have ne6 : ¬ c2 = t := by omega
      have ne7 : ¬ c2 = id1 := by omega
      have ne8 : ¬ c2 = c2 + 1 := by omega
      have ne9 : ¬ c2 + 1 = t := by omega
      have ne10 : ¬ c2 + 1 = id1 := by omega
      have ne11 : ¬ c2 + 1 = c2 := by omega
      simp only [go_sem, seval, ne0, ne1, ne2, ne3, ne4, ne5, ne6, ne7, ne8, ne9, ne10, ne11]
      repeat' ((first | with_reducible refine wr ?_ | ((with_reducible refine wb2 ?_ ?_) <;> (intro hb; try simp only [hb])) | ((with_reducible refine k_eval (b_appx (insC_len2 _) (by omega) (by omega)) ?_)) | fail) <;> try simp only [go_sem, seval, ne0, ne1, ne2, ne3, ne4, ne5, ne6, ne7, ne8, ne9, ne10, ne11])
      refine AC.call (c_next l hl ((valueM l 2 p1).2) hp2 3 (by omega) (by omega) _ _ t (by repeat (first | exact h_same | rw [h_ne (by omega)] | rw [h_dne (by omega)])) (by omega)) ?_
      rintro v H' c3 ⟨rfl, rfl⟩ hcc3
      have hq3 := nextM_lt (l := l) (p := (valueM l 2 p1).2) (n := 3) (by omega)
      have hp3 := nextM_le (l := l) (p := (valueM l 2 p1).2) (n := 3) hp2
      have ne0 : ¬ t = id1 := by omega
      have ne1 : ¬ t = c3 := by omega
      have ne2 : ¬ t = c3 + 1 := by omega
      have ne3 : ¬ id1 = t := by omega
      have ne4 : ¬ id1 = c3 := by omega
      have ne5 : ¬ id1 = c3 + 1 := by omega
      have ne6 : ¬ c3 = t := by omega
      have ne7 : ¬ c3 = id1 := by omega
      have ne8 : ¬ c3 = c3 + 1 := by omega
      have ne9 : ¬ c3 + 1 = t := by omega
      have ne10 : ¬ c3 + 1 = id1 := by omega
      have ne11 : ¬ c3 + 1 = c3 := by omega
      simp only [go_sem, seval, ne0, ne1, ne2, ne3, ne4, ne5, ne6, ne7, ne8, ne9, ne10, ne11]
      repeat' ((first | with_reducible refine wr ?_ | ((with_reducible refine wb2 ?_ ?_) <;> (intro hb; try simp only [hb])) | ((with_reducible refine k_eval (b_appx (insC_len2 _) (by omega) (by omega)) ?_)) | fail) <;> try simp only [go_sem, seval, ne0, ne1, ne2, ne3, ne4, ne5, ne6, ne7, ne8, ne9, ne10, ne11])
      have es : stmtM l 0 base p = stK l (fun _ p => ([], p)) base 0 p1 := by simp only [stmtM]; rw [e0]; try rfl
      rw [es]
      refine v_end (id := c3 + 1) hfr (by omega) (by omega) htc (by first | rfl | simp only [stK, List.length_append, List.length_singleton]) ?_ ?_ fun j h1 h2 => ?_
      · repeat (first | exact h_same | rw [h_ne (by omega)] | rw [h_dne (by omega)])
      · rw [h_same]; simp only [stK, insC_app, insC_one]
      · repeat (first | rfl | rw [h_ne (by omega)] | rw [h_dne (by omega)])
    · have nk : ((12 : Nat) : Int) = 12 := rfl
      simp only [go_sem, seval, hdl, nk, Int.reduceGT, Int.reduceBEq, Int.reduceLE, decide_true, decide_false]
      repeat' ((first | with_reducible refine wr ?_ | ((with_reducible refine wb2 ?_ ?_) <;> (intro hb; try simp only [hb])) | fail) <;> try simp only [go_sem, seval, hdl, nk, Int.reduceGT, Int.reduceBEq, Int.reduceLE, decide_true, decide_false])
      refine AC.call (c_value l hl 2 (by omega) (p1) hp1 _ _ t (by repeat (first | exact h_same | rw [h_ne (by omega)] | rw [h_dne (by omega)])) (by omega)) ?_
      rintro v H' c2 ⟨id1, ia1, ib1, rfl, rfl⟩ hcc2
      have hb1 := valueM_l2 l (p1)
      have hp2 := valueM_le l 2 (p1) hp1
      have ne0 : ¬ t = id1 := by omega
      have ne1 : ¬ t = c2 := by omega
      have ne2 : ¬ t = c2 + 1 := by omega
      have ne3 : ¬ id1 = t := by omega
      have ne4 : ¬ id1 = c2 := by omega
      have ne5 : ¬ id1 = c2 + 1 := by omega
      have ne6 : ¬ c2 = t := by omega
      have ne7 : ¬ c2 = id1 := by omega
      have ne8 : ¬ c2 = c2 + 1 := by omega
      have ne9 : ¬ c2 + 1 = t := by omega
      have ne10 : ¬ c2 + 1 = id1 := by omega
      have ne11 : ¬ c2 + 1 = c2 := by omega
      simp only [go_sem, seval, ne0, ne1, ne2, ne3, ne4, ne5, ne6, ne7, ne8, ne9, ne10, ne11]
      repeat' ((first | with_reducible refine wr ?_ | ((with_reducible refine wb2 ?_ ?_) <;> (intro hb; try simp only [hb])) | ((with_reducible refine k_eval (b_appx (insC_len2 _) (by omega) (by omega)) ?_)) | fail) <;> try simp only [go_sem, seval, ne0, ne1, ne2, ne3, ne4, ne5, ne6, ne7, ne8, ne9, ne10, ne11])
      refine AC.call (c_next l hl ((valueM l 2 p1).2) hp2 3 (by omega) (by omega) _ _ t (by repeat (first | exact h_same | rw [h_ne (by omega)] | rw [h_dne (by omega)])) (by omega)) ?_
      rintro v H' c3 ⟨rfl, rfl⟩ hcc3
      have hq3 := nextM_lt (l := l) (p := (valueM l 2 p1).2) (n := 3) (by omega)
      have hp3 := nextM_le (l := l) (p := (valueM l 2 p1).2) (n := 3) hp2
      have ne0 : ¬ t = id1 := by omega
      have ne1 : ¬ t = c3 := by omega
      have ne2 : ¬ t = c3 + 1 := by omega
      have ne3 : ¬ id1 = t := by omega
      have ne4 : ¬ id1 = c3 := by omega
      have ne5 : ¬ id1 = c3 + 1 := by omega
      have ne6 : ¬ c3 = t := by omega
      have ne7 : ¬ c3 = id1 := by omega
      have ne8 : ¬ c3 = c3 + 1 := by omega
      have ne9 : ¬ c3 + 1 = t := by omega
      have ne10 : ¬ c3 + 1 = id1 := by omega
      have ne11 : ¬ c3 + 1 = c3 := by omega
      simp only [go_sem, seval, ne0, ne1, ne2, ne3, ne4, ne5, ne6, ne7, ne8, ne9, ne10, ne11]
      repeat' ((first | with_reducible refine wr ?_ | ((with_reducible refine wb2 ?_ ?_) <;> (intro hb; try simp only [hb])) | ((with_reducible refine k_eval (b_appx (insC_len2 _) (by omega) (by omega)) ?_)) | fail) <;> try simp only [go_sem, seval, ne0, ne1, ne2, ne3, ne4, ne5, ne6, ne7, ne8, ne9, ne10, ne11])
      have es : stmtM l 0 base p = stK l (fun _ p => ([], p)) base 0 p1 := by simp only [stmtM]; rw [e0]; try rfl
      rw [es]
      refine v_end (id := c3 + 1) hfr (by omega) (by omega) htc (by first | rfl | simp only [stK, List.length_append, List.length_singleton]) ?_ ?_ fun j h1 h2 => ?_
      · repeat (first | exact h_same | rw [h_ne (by omega)] | rw [h_dne (by omega)])
      · rw [h_same]; simp only [stK, insC_app, insC_one]
      · repeat (first | rfl | rw [h_ne (by omega)] | rw [h_dne (by omega)])
    · have nk : ((13 : Nat) : Int) = 13 := rfl
      simp only [go_sem, seval, hdl, nk, Int.reduceGT, Int.reduceBEq, Int.reduceLE, decide_true, decide_false]
      repeat' ((first | with_reducible refine wr ?_ | ((with_reducible refine wb2 ?_ ?_) <;> (intro hb; try simp only [hb])) | fail) <;> try simp only [go_sem, seval, hdl, nk, Int.reduceGT, Int.reduceBEq, Int.reduceLE, decide_true, decide_false])
      refine AC.call (c_value l hl 2 (by omega) (p1) hp1 _ _ t (by repeat (first | exact h_same | rw [h_ne (by omega)] | rw [h_dne (by omega)])) (by omega)) ?_
      rintro v H' c2 ⟨id1, ia1, ib1, rfl, rfl⟩ hcc2
      have hb1 := valueM_l2 l (p1)
      have hp2 := valueM_le l 2 (p1) hp1
      have ne0 : ¬ t = id1 := by omega
      have ne1 : ¬ t = c2 := by omega
      have ne2 : ¬ t = c2 + 1 := by omega
      have ne3 : ¬ id1 = t := by omega
      have ne4 : ¬ id1 = c2 := by omega
      have ne5 : ¬ id1 = c2 + 1 := by omega
      have ne6 : ¬ c2 = t := by omega
      have ne7 : ¬ c2 = id1 := by omega
      have ne8 : ¬ c2 = c2 + 1 := by omega
      have ne9 : ¬ c2 + 1 = t := by omega
      have ne10 : ¬ c2 + 1 = id1 := by omega
      have ne11 : ¬ c2 + 1 = c2 := by omega
      simp only [go_sem, seval, ne0, ne1, ne2, ne3, ne4, ne5, ne6, ne7, ne8, ne9, ne10, ne11]
      repeat' ((first | with_reducible refine wr ?_ | ((with_reducible refine wb2 ?_ ?_) <;> (intro hb; try simp only [hb])) | ((with_reducible refine k_eval (b_appx (insC_len2 _) (by omega) (by omega)) ?_)) | fail) <;> try simp only [go_sem, seval, ne0, ne1, ne2, ne3, ne4, ne5, ne6, ne7, ne8, ne9, ne10, ne11])
      refine AC.call (c_next l hl ((valueM l 2 p1).2) hp2 3 (by omega) (by omega) _ _ t (by repeat (first | exact h_same | rw [h_ne (by omega)] | rw [h_dne (by omega)])) (by omega)) ?_
      rintro v H' c3 ⟨rfl, rfl⟩ hcc3
      have hq3 := nextM_lt (l := l) (p := (valueM l 2 p1).2) (n := 3) (by omega)
      have hp3 := nextM_le (l := l) (p := (valueM l 2 p1).2) (n := 3) hp2
      have ne0 : ¬ t = id1 := by omega
      have ne1 : ¬ t = c3 := by omega
      have ne2 : ¬ t = c3 + 1 := by omega
      have ne3 : ¬ id1 = t := by omega
      have ne4 : ¬ id1 = c3 := by omega
      have ne5 : ¬ id1 = c3 + 1 := by omega
      have ne6 : ¬ c3 = t := by omega
      have ne7 : ¬ c3 = id1 := by omega
      have ne8 : ¬ c3 = c3 + 1 := by omega
      have ne9 : ¬ c3 + 1 = t := by omega
      have ne10 : ¬ c3 + 1 = id1 := by omega
      have ne11 : ¬ c3 + 1 = c3 := by omega
      simp only [go_sem, seval, ne0, ne1, ne2, ne3, ne4, ne5, ne6, ne7, ne8, ne9, ne10, ne11]
      repeat' ((first | with_reducible refine wr ?_ | ((with_reducible refine wb2 ?_ ?_) <;> (intro hb; try simp only [hb])) | ((with_reducible refine k_eval (b_appx (insC_len2 _) (by omega) (by omega)) ?_)) | fail) <;> try simp only [go_sem, seval, ne0, ne1, ne2, ne3, ne4, ne5, ne6, ne7, ne8, ne9, ne10, ne11])
      have es : stmtM l 0 base p = stK l (fun _ p => ([], p)) base 0 p1 := by simp only [stmtM]; rw [e0]; try rfl
      rw [es]
      refine v_end (id := c3 + 1) hfr (by omega) (by omega) htc (by first | rfl | simp only [stK, List.length_append, List.length_singleton]) ?_ ?_ fun j h1 h2 => ?_
      · repeat (first | exact h_same | rw [h_ne (by omega)] | rw [h_dne (by omega)])
      · rw [h_same]; simp only [stK, insC_app, insC_one]
      · repeat (first | rfl | rw [h_ne (by omega)] | rw [h_dne (by omega)])
    · have nk : ((14 : Nat) : Int) = 14 := rfl
      simp only [go_sem, seval, hdl, nk, Int.reduceGT, Int.reduceBEq, Int.reduceLE, decide_true, decide_false]
      repeat' ((first | with_reducible refine wr ?_ | ((with_reducible refine wb2 ?_ ?_) <;> (intro hb; try simp only [hb])) | fail) <;> try simp only [go_sem, seval, hdl, nk, Int.reduceGT, Int.reduceBEq, Int.reduceLE, decide_true, decide_false])
      refine AC.call (c_value l hl 2 (by omega) (p1) hp1 _ _ t (by repeat (first | exact h_same | rw [h_ne (by omega)] | rw [h_dne (by omega)])) (by omega)) ?_
      rintro v H' c2 ⟨id1, ia1, ib1, rfl, rfl⟩ hcc2
      have hb1 := valueM_l2 l (p1)
      have hp2 := valueM_le l 2 (p1) hp1
      have ne0 : ¬ t = id1 := by omega
      have ne1 : ¬ t = c2 := by omega
      have ne2 : ¬ t = c2 + 1 := by omega
      have ne3 : ¬ id1 = t := by omega
      have ne4 : ¬ id1 = c2 := by omega
      have ne5 : ¬ id1 = c2 + 1 := by omega
      have ne6 : ¬ c2 = t := by omega
      have ne7 : ¬ c2 = id1 := by omega
      have ne8 : ¬ c2 = c2 + 1 := by omega
      have ne9 : ¬ c2 + 1 = t := by omega
      have ne10 : ¬ c2 + 1 = id1 := by omega
      have ne11 : ¬ c2 + 1 = c2 := by omega
      simp only [go_sem, seval, ne0, ne1, ne2, ne3, ne4, ne5, ne6, ne7, ne8, ne9, ne10, ne11]
      repeat' ((first | with_reducible refine wr ?_ | ((with_reducible refine wb2 ?_ ?_) <;> (intro hb; try simp only [hb])) | ((with_reducible refine k_eval (b_appx (insC_len2 _) (by omega) (by omega)) ?_)) | fail) <;> try simp only [go_sem, seval, ne0, ne1, ne2, ne3, ne4, ne5, ne6, ne7, ne8, ne9, ne10, ne11])
      refine AC.call (c_next l hl ((valueM l 2 p1).2) hp2 3 (by omega) (by omega) _ _ t (by repeat (first | exact h_same | rw [h_ne (by omega)] | rw [h_dne (by omega)])) (by omega)) ?_
      rintro v H' c3 ⟨rfl, rfl⟩ hcc3
      have hq3 := nextM_lt (l := l) (p := (valueM l 2 p1).2) (n := 3) (by omega)
      have hp3 := nextM_le (l := l) (p := (valueM l 2 p1).2) (n := 3) hp2
      have ne0 : ¬ t = id1 := by omega
      have ne1 : ¬ t = c3 := by omega
      have ne2 : ¬ t = c3 + 1 := by omega
      have ne3 : ¬ id1 = t := by omega
      have ne4 : ¬ id1 = c3 := by omega
      have ne5 : ¬ id1 = c3 + 1 := by omega
      have ne6 : ¬ c3 = t := by omega
      have ne7 : ¬ c3 = id1 := by omega
      have ne8 : ¬ c3 = c3 + 1 := by omega
      have ne9 : ¬ c3 + 1 = t := by omega
      have ne10 : ¬ c3 + 1 = id1 := by omega
      have ne11 : ¬ c3 + 1 = c3 := by omega
      simp only [go_sem, seval, ne0, ne1, ne2, ne3, ne4, ne5, ne6, ne7, ne8, ne9, ne10, ne11]
      repeat' ((first | with_reducible refine wr ?_ | ((with_reducible refine wb2 ?_ ?_) <;> (intro hb; try simp only [hb])) | ((with_reducible refine k_eval (b_appx (insC_len2 _) (by omega) (by omega)) ?_)) | fail) <;> try simp only [go_sem, seval, ne0, ne1, ne2, ne3, ne4, ne5, ne6, ne7, ne8, ne9, ne10, ne11])
      have es : stmtM l 0 base p = stK l (fun _ p => ([], p)) base 0 p1 := by simp only [stmtM]; rw [e0]; try rfl
      rw [es]
      refine v_end (id := c3 + 1) hfr (by omega) (by omega) htc (by first | rfl | simp only [stK, List.length_append, List.length_singleton]) ?_ ?_ fun j h1 h2 => ?_
      · repeat (first | exact h_same | rw [h_ne (by omega)] | rw [h_dne (by omega)])
      · rw [h_same]; simp only [stK, insC_app, insC_one]
      · repeat (first | rfl | rw [h_ne (by omega)] | rw [h_dne (by omega)])
  | succ d ih =>
    intro hd2 base p hbase hp H cc t ht htc
    refine AC.body mixedU isU28 (Nat.le_of_ble_eq_true rfl) fun hfr => ?_
    show IW Tryd.prog 183 u28_1 ⟨argT _, _, _⟩ (rt [.tmp 6] _)
    repeat' ((first | with_reducible refine wr ?_ | ((with_reducible refine wb2 ?_ ?_) <;> (intro hb; try simp only [hb])) | fail) <;> try simp only [go_sem, seval])
    refine AC.call (c_next l hl p hp 15 (by omega) (by omega) H cc t ht htc) ?_
    rintro v H' c1 ⟨rfl, rfl⟩ hcc
    have hp1 := nextM_le (n := 15) hp
    have hk := nextM_lt (l := l) (p := p) (n := 15) (by omega)
    have hdl : decide (((d + 1 : Nat) : Int) ≤ 0) = false := decide_eq_false (by omega)
    have hw1 := w64 (n := ((d + 1 : Nat) : Int) - 1) (by omega) (by omega)
    have hw2 : ((d + 1 : Nat) : Int) - 1 = (d : Int) := by omega
    rw [hw2] at hw1
    obtain ⟨k0, p1, e0⟩ : ∃ k0 p1, nextM l p 15 = (k0, p1) := ⟨_, _, rfl⟩
    rw [e0] at hp1 hk ⊢
    simp only at hp1 hk
    have hv : k0 = 1 ∨ k0 = 2 ∨ k0 = 3 ∨ k0 = 4 ∨ k0 = 5 ∨ k0 = 6 ∨ k0 = 7 ∨ k0 = 8 ∨ k0 = 9 ∨ k0 = 10 ∨ k0 = 11 ∨ k0 = 0 ∨ k0 = 12 ∨ k0 = 13 ∨ k0 = 14 := by omega
    rcases hv with rfl | rfl | rfl | rfl | rfl | rfl | rfl | rfl | rfl | rfl | rfl | rfl | rfl | rfl | rfl
    · have nk : ((1 : Nat) : Int) = 1 := rfl
      simp only [go_sem, seval, hdl, nk, Int.reduceGT, Int.reduceBEq, Int.reduceLE, decide_true, decide_false, hw2, hw1]
      repeat' ((first | with_reducible refine wr ?_ | ((with_reducible refine wb2 ?_ ?_) <;> (intro hb; try simp only [hb])) | fail) <;> try simp only [go_sem, seval, hdl, nk, Int.reduceGT, Int.reduceBEq, Int.reduceLE, decide_true, decide_false, hw2, hw1])
      refine AC.call (c_value l hl 1 (by omega) (p1) hp1 _ _ t (by repeat (first | exact h_same | rw [h_ne (by omega)] | rw [h_dne (by omega)])) (by omega)) ?_
      rintro v H' c2 ⟨id1, ia1, ib1, rfl, rfl⟩ hcc2
      have hb1 := valueM_l1 l (p1)
      have hp2 := valueM_le l 1 (p1) hp1
      have ne0 : ¬ t = id1 := by omega
      have ne1 : ¬ t = c2 := by omega
      have ne2 : ¬ t = c2 + 1 := by omega
      have ne3 : ¬ id1 = t := by omega
      have ne4 : ¬ id1 = c2 := by omega
      have ne5 : ¬ id1 = c2 + 1 := by omega
      have ne6 : ¬ c2 = t := by omega
      have ne7 : ¬ c2 = id1 := by omega
      have ne8 : ¬ c2 = c2 + 1 := by omega
      have ne9 : ¬ c2 + 1 = t := by omega
      have ne10 : ¬ c2 + 1 = id1 := by omega
      have ne11 : ¬ c2 + 1 = c2 := by omega
      simp only [go_sem, seval, ne0, ne1, ne2, ne3, ne4, ne5, ne6, ne7, ne8, ne9, ne10, ne11]
      repeat' ((first | with_reducible refine wr ?_ | ((with_reducible refine wb2 ?_ ?_) <;> (intro hb; try simp only [hb])) | ((with_reducible refine k_eval (b_appx (insC_len2 _) (by omega) (by omega)) ?_)) | fail) <;> try simp only [go_sem, seval, ne0, ne1, ne2, ne3, ne4, ne5, ne6, ne7, ne8, ne9, ne10, ne11])
      have es : stmtM l (d + 1) base p = stK l (stmtM l d) base 1 p1 := by simp only [stmtM]; rw [e0]; try rfl
      rw [es]
      refine v_end (id := c2 + 1) hfr (by omega) (by omega) htc (by first | rfl | simp only [stK, List.length_append, List.length_singleton]) ?_ ?_ fun j h1 h2 => ?_
      · repeat (first | exact h_same | rw [h_ne (by omega)] | rw [h_dne (by omega)])
      · rw [h_same]; simp only [stK, insC_app, insC_one]
      · repeat (first | rfl | rw [h_ne (by omega)] | rw [h_dne (by omega)])
    · have nk : ((2 : Nat) : Int) = 2 := rfl
      simp only [go_sem, seval, hdl, nk, Int.reduceGT, Int.reduceBEq, Int.reduceLE, decide_true, decide_false, hw2, hw1]
      repeat' ((first | with_reducible refine wr ?_ | ((with_reducible refine wb2 ?_ ?_) <;> (intro hb; try simp only [hb])) | fail) <;> try simp only [go_sem, seval, hdl, nk, Int.reduceGT, Int.reduceBEq, Int.reduceLE, decide_true, decide_false, hw2, hw1])
      refine AC.call (c_next l hl (p1) hp1 3 (by omega) (by omega) _ _ t (by repeat (first | exact h_same | rw [h_ne (by omega)] | rw [h_dne (by omega)])) (by omega)) ?_
      rintro v H' c2 ⟨rfl, rfl⟩ hcc2
      have hq2 := nextM_lt (l := l) (p := p1) (n := 3) (by omega)
      have hp2 := nextM_le (l := l) (p := p1) (n := 3) hp1
      have hadd := w64 (n := 16 + ((nextM l p1 3).1 : Int)) (by omega) (by omega)
      have ne0 : ¬ t = c2 := by omega
      have ne1 : ¬ t = c2 + 1 := by omega
      have ne2 : ¬ c2 = t := by omega
      have ne3 : ¬ c2 = c2 + 1 := by omega
      have ne4 : ¬ c2 + 1 = t := by omega
      have ne5 : ¬ c2 + 1 = c2 := by omega
      simp only [go_sem, seval, hadd, ne0, ne1, ne2, ne3, ne4, ne5]
      repeat' ((first | with_reducible refine wr ?_ | ((with_reducible refine wb2 ?_ ?_) <;> (intro hb; try simp only [hb])) | ((with_reducible refine k_eval (b_appx (insC_len2 _) (by omega) (by omega)) ?_)) | fail) <;> try simp only [go_sem, seval, hadd, ne0, ne1, ne2, ne3, ne4, ne5])
      refine AC.call (c_next l hl ((nextM l p1 3).2) hp2 32 (by omega) (by omega) _ _ t (by repeat (first | exact h_same | rw [h_ne (by omega)] | rw [h_dne (by omega)])) (by omega)) ?_
      rintro v H' c3 ⟨rfl, rfl⟩ hcc3
      have hq3 := nextM_lt (l := l) (p := (nextM l p1 3).2) (n := 32) (by omega)
      have hp3 := nextM_le (l := l) (p := (nextM l p1 3).2) (n := 32) hp2
      have ne0 : ¬ t = c3 := by omega
      have ne1 : ¬ t = c3 + 1 := by omega
      have ne2 : ¬ c3 = t := by omega
      have ne3 : ¬ c3 = c3 + 1 := by omega
      have ne4 : ¬ c3 + 1 = t := by omega
      have ne5 : ¬ c3 + 1 = c3 := by omega
      simp only [go_sem, seval, hadd, ne0, ne1, ne2, ne3, ne4, ne5]
      repeat' ((first | with_reducible refine wr ?_ | ((with_reducible refine wb2 ?_ ?_) <;> (intro hb; try simp only [hb])) | ((with_reducible refine k_eval (b_appx (insC_len2 _) (by omega) (by omega)) ?_)) | fail) <;> try simp only [go_sem, seval, hadd, ne0, ne1, ne2, ne3, ne4, ne5])
      have es : stmtM l (d + 1) base p = stK l (stmtM l d) base 2 p1 := by simp only [stmtM]; rw [e0]; try rfl
      rw [es]
      refine v_end (id := c3) hfr (by omega) (by omega) htc (by first | rfl | simp only [stK, List.length_append, List.length_singleton]) ?_ ?_ fun j h1 h2 => ?_
      · repeat (first | exact h_same | rw [h_ne (by omega)] | rw [h_dne (by omega)])
      · rw [h_same]; simp only [stK, insC_app, insC_one]
      · repeat (first | rfl | rw [h_ne (by omega)] | rw [h_dne (by omega)])
    · have nk : ((3 : Nat) : Int) = 3 := rfl
      simp only [go_sem, seval, hdl, nk, Int.reduceGT, Int.reduceBEq, Int.reduceLE, decide_true, decide_false, hw2, hw1]
      repeat' ((first | with_reducible refine wr ?_ | ((with_reducible refine wb2 ?_ ?_) <;> (intro hb; try simp only [hb])) | fail) <;> try simp only [go_sem, seval, hdl, nk, Int.reduceGT, Int.reduceBEq, Int.reduceLE, decide_true, decide_false, hw2, hw1])
      refine AC.call (c_value l hl 0 (by omega) (p1) hp1 _ _ t (by repeat (first | exact h_same | rw [h_ne (by omega)] | rw [h_dne (by omega)])) (by omega)) ?_
      rintro v H' c2 ⟨id1, ia1, ib1, rfl, rfl⟩ hcc2
      have hb1 := valueM_l0 l (p1)
      have hp2 := valueM_le l 0 (p1) hp1
      have ne0 : ¬ t = id1 := by omega
      have ne1 : ¬ t = c2 := by omega
      have ne2 : ¬ t = c2 + 1 := by omega
      have ne3 : ¬ id1 = t := by omega
      have ne4 : ¬ id1 = c2 := by omega
      have ne5 : ¬ id1 = c2 + 1 := by omega
      have ne6 : ¬ c2 = t := by omega
      have ne7 : ¬ c2 = id1 := by omega
      have ne8 : ¬ c2 = c2 + 1 := by omega
      have ne9 : ¬ c2 + 1 = t := by omega
      have ne10 : ¬ c2 + 1 = id1 := by omega
      have ne11 : ¬ c2 + 1 = c2 := by omega
      simp only [go_sem, seval, ne0, ne1, ne2, ne3, ne4, ne5, ne6, ne7, ne8, ne9, ne10, ne11]
      repeat' ((first | with_reducible refine wr ?_ | ((with_reducible refine wb2 ?_ ?_) <;> (intro hb; try simp only [hb])) | ((with_reducible refine k_eval (b_appx (insC_len2 _) (by omega) (by omega)) ?_)) | fail) <;> try simp only [go_sem, seval, ne0, ne1, ne2, ne3, ne4, ne5, ne6, ne7, ne8, ne9, ne10, ne11])
      refine AC.call (c_next l hl ((valueM l 0 p1).2) hp2 64 (by omega) (by omega) _ _ t (by repeat (first | exact h_same | rw [h_ne (by omega)] | rw [h_dne (by omega)])) (by omega)) ?_
      rintro v H' c3 ⟨rfl, rfl⟩ hcc3
      have hq3 := nextM_lt (l := l) (p := (valueM l 0 p1).2) (n := 64) (by omega)
      have hp3 := nextM_le (l := l) (p := (valueM l 0 p1).2) (n := 64) hp2
      have ne0 : ¬ t = id1 := by omega
      have ne1 : ¬ t = c3 := by omega
      have ne2 : ¬ t = c3 + 1 := by omega
      have ne3 : ¬ id1 = t := by omega
      have ne4 : ¬ id1 = c3 := by omega
      have ne5 : ¬ id1 = c3 + 1 := by omega
      have ne6 : ¬ c3 = t := by omega
      have ne7 : ¬ c3 = id1 := by omega
      have ne8 : ¬ c3 = c3 + 1 := by omega
      have ne9 : ¬ c3 + 1 = t := by omega
      have ne10 : ¬ c3 + 1 = id1 := by omega
      have ne11 : ¬ c3 + 1 = c3 := by omega
      simp only [go_sem, seval, ne0, ne1, ne2, ne3, ne4, ne5, ne6, ne7, ne8, ne9, ne10, ne11]
      repeat' ((first | with_reducible refine wr ?_ | ((with_reducible refine wb2 ?_ ?_) <;> (intro hb; try simp only [hb])) | ((with_reducible refine k_eval (b_appx (insC_len2 _) (by omega) (by omega)) ?_)) | fail) <;> try simp only [go_sem, seval, ne0, ne1, ne2, ne3, ne4, ne5, ne6, ne7, ne8, ne9, ne10, ne11])
      have es : stmtM l (d + 1) base p = stK l (stmtM l d) base 3 p1 := by simp only [stmtM]; rw [e0]; try rfl
      rw [es]
      refine v_end (id := c3 + 1) hfr (by omega) (by omega) htc (by first | rfl | simp only [stK, List.length_append, List.length_singleton]) ?_ ?_ fun j h1 h2 => ?_
      · repeat (first | exact h_same | rw [h_ne (by omega)] | rw [h_dne (by omega)])
      · rw [h_same]; simp only [stK, insC_app, insC_one]
      · repeat (first | rfl | rw [h_ne (by omega)] | rw [h_dne (by omega)])
    · have nk : ((4 : Nat) : Int) = 4 := rfl
      simp only [go_sem, seval, hdl, nk, Int.reduceGT, Int.reduceBEq, Int.reduceLE, decide_true, decide_false, hw2, hw1]
      repeat' ((first | with_reducible refine wr ?_ | ((with_reducible refine wb2 ?_ ?_) <;> (intro hb; try simp only [hb])) | fail) <;> try simp only [go_sem, seval, hdl, nk, Int.reduceGT, Int.reduceBEq, Int.reduceLE, decide_true, decide_false, hw2, hw1])
      refine AC.call (c_value l hl 0 (by omega) (p1) hp1 _ _ t (by repeat (first | exact h_same | rw [h_ne (by omega)] | rw [h_dne (by omega)])) (by omega)) ?_
      rintro v H' c2 ⟨id1, ia1, ib1, rfl, rfl⟩ hcc2
      have hb1 := valueM_l0 l (p1)
      have hp2 := valueM_le l 0 (p1) hp1
      have ne0 : ¬ t = id1 := by omega
      have ne1 : ¬ t = c2 := by omega
      have ne2 : ¬ t = c2 + 1 := by omega
      have ne3 : ¬ id1 = t := by omega
      have ne4 : ¬ id1 = c2 := by omega
      have ne5 : ¬ id1 = c2 + 1 := by omega
      have ne6 : ¬ c2 = t := by omega
      have ne7 : ¬ c2 = id1 := by omega
      have ne8 : ¬ c2 = c2 + 1 := by omega
      have ne9 : ¬ c2 + 1 = t := by omega
      have ne10 : ¬ c2 + 1 = id1 := by omega
      have ne11 : ¬ c2 + 1 = c2 := by omega
      simp only [go_sem, seval, ne0, ne1, ne2, ne3, ne4, ne5, ne6, ne7, ne8, ne9, ne10, ne11]
      repeat' ((first | with_reducible refine wr ?_ | ((with_reducible refine wb2 ?_ ?_) <;> (intro hb; try simp only [hb])) | ((with_reducible refine k_eval (b_appx (insC_len2 _) (by omega) (by omega)) ?_)) | fail) <;> try simp only [go_sem, seval, ne0, ne1, ne2, ne3, ne4, ne5, ne6, ne7, ne8, ne9, ne10, ne11])
      refine AC.call (c_value l hl 0 (by omega) ((valueM l 0 p1).2) hp2 _ _ t (by repeat (first | exact h_same | rw [h_ne (by omega)] | rw [h_dne (by omega)])) (by omega)) ?_
      rintro v H' c3 ⟨id2, ia2, ib2, rfl, rfl⟩ hcc3
      have hb2 := valueM_l0 l ((valueM l 0 p1).2)
      have hp3 := valueM_le l 0 ((valueM l 0 p1).2) hp2
      have hl2 := insC_len2 (valueM l 0 ((valueM l 0 p1).2)).1
      have hle2 : (valueM l 0 ((valueM l 0 p1).2)).1.length * 2 ≤ (insC (valueM l 0 ((valueM l 0 p1).2)).1).length := by omega
      have htk := List.take_of_length_le (l := insC (valueM l 0 ((valueM l 0 p1).2)).1) (i := (valueM l 0 ((valueM l 0 p1).2)).1.length * 2) (by omega)
      have ne0 : ¬ t = id1 := by omega
      have ne1 : ¬ t = id2 := by omega
      have ne2 : ¬ t = c3 := by omega
      have ne3 : ¬ t = c3 + 1 := by omega
      have ne4 : ¬ id1 = t := by omega
      have ne5 : ¬ id1 = id2 := by omega
      have ne6 : ¬ id1 = c3 := by omega
      have ne7 : ¬ id1 = c3 + 1 := by omega
      have ne8 : ¬ id2 = t := by omega
      have ne9 : ¬ id2 = id1 := by omega
      have ne10 : ¬ id2 = c3 := by omega
      have ne11 : ¬ id2 = c3 + 1 := by omega
      have ne12 : ¬ c3 = t := by omega
      have ne13 : ¬ c3 = id1 := by omega
      have ne14 : ¬ c3 = id2 := by omega
      have ne15 : ¬ c3 = c3 + 1 := by omega
      have ne16 : ¬ c3 + 1 = t := by omega
      have ne17 : ¬ c3 + 1 = id1 := by omega
      have ne18 : ¬ c3 + 1 = id2 := by omega
      have ne19 : ¬ c3 + 1 = c3 := by omega
      simp only [go_sem, seval, hle2, htk, ne0, ne1, ne2, ne3, ne4, ne5, ne6, ne7, ne8, ne9, ne10, ne11, ne12, ne13, ne14, ne15, ne16, ne17, ne18, ne19]
      repeat' ((first | with_reducible refine wr ?_ | ((with_reducible refine wb2 ?_ ?_) <;> (intro hb; try simp only [hb])) | ((with_reducible refine k_eval (b_appx (insC_len2 _) (by omega) (by omega)) ?_)) | fail) <;> try simp only [go_sem, seval, hle2, htk, ne0, ne1, ne2, ne3, ne4, ne5, ne6, ne7, ne8, ne9, ne10, ne11, ne12, ne13, ne14, ne15, ne16, ne17, ne18, ne19])
      refine AC.call (c_next l hl ((valueM l 0 ((valueM l 0 p1).2)).2) hp3 64 (by omega) (by omega) _ _ t (by repeat (first | exact h_same | rw [h_ne (by omega)] | rw [h_dne (by omega)])) (by omega)) ?_
      rintro v H' c4 ⟨rfl, rfl⟩ hcc4
      have hq4 := nextM_lt (l := l) (p := (valueM l 0 ((valueM l 0 p1).2)).2) (n := 64) (by omega)
      have hp4 := nextM_le (l := l) (p := (valueM l 0 ((valueM l 0 p1).2)).2) (n := 64) hp3
      have hl3 := insL2 (valueM l 0 p1).1 (valueM l 0 ((valueM l 0 p1).2)).1
      have ne0 : ¬ t = c3 := by omega
      have ne1 : ¬ t = c4 := by omega
      have ne2 : ¬ t = c4 + 1 := by omega
      have ne3 : ¬ c3 = t := by omega
      have ne4 : ¬ c3 = c4 := by omega
      have ne5 : ¬ c3 = c4 + 1 := by omega
      have ne6 : ¬ c4 = t := by omega
      have ne7 : ¬ c4 = c3 := by omega
      have ne8 : ¬ c4 = c4 + 1 := by omega
      have ne9 : ¬ c4 + 1 = t := by omega
      have ne10 : ¬ c4 + 1 = c3 := by omega
      have ne11 : ¬ c4 + 1 = c4 := by omega
      simp only [go_sem, seval, ne0, ne1, ne2, ne3, ne4, ne5, ne6, ne7, ne8, ne9, ne10, ne11]
      repeat' ((first | with_reducible refine wr ?_ | ((with_reducible refine wb2 ?_ ?_) <;> (intro hb; try simp only [hb])) | ((with_reducible refine k_eval (b_appx (insC_len2 _) (by omega) (by omega)) ?_)) | ((with_reducible refine k_eval (b_appx hl3 (by omega) (by omega)) ?_)) | fail) <;> try simp only [go_sem, seval, ne0, ne1, ne2, ne3, ne4, ne5, ne6, ne7, ne8, ne9, ne10, ne11])
      have es : stmtM l (d + 1) base p = stK l (stmtM l d) base 4 p1 := by simp only [stmtM]; rw [e0]; try rfl
      rw [es]
      refine v_end (id := c4 + 1) hfr (by omega) (by omega) htc (by first | rfl | simp only [stK, List.length_append, List.length_singleton]) ?_ ?_ fun j h1 h2 => ?_
      · repeat (first | exact h_same | rw [h_ne (by omega)] | rw [h_dne (by omega)])
      · rw [h_same]; simp only [stK, insC_app, insC_one]
      · repeat (first | rfl | rw [h_ne (by omega)] | rw [h_dne (by omega)])
    · have nk : ((5 : Nat) : Int) = 5 := rfl
      simp only [go_sem, seval, hdl, nk, Int.reduceGT, Int.reduceBEq, Int.reduceLE, decide_true, decide_false, hw2, hw1]
      repeat' ((first | with_reducible refine wr ?_ | ((with_reducible refine wb2 ?_ ?_) <;> (intro hb; try simp only [hb])) | fail) <;> try simp only [go_sem, seval, hdl, nk, Int.reduceGT, Int.reduceBEq, Int.reduceLE, decide_true, decide_false, hw2, hw1])
      refine AC.call (c_value l hl 1 (by omega) (p1) hp1 _ _ t (by repeat (first | exact h_same | rw [h_ne (by omega)] | rw [h_dne (by omega)])) (by omega)) ?_
      rintro v H' c2 ⟨id1, ia1, ib1, rfl, rfl⟩ hcc2
      have hb1 := valueM_l1 l (p1)
      have hp2 := valueM_le l 1 (p1) hp1
      have ne0 : ¬ t = id1 := by omega
      have ne1 : ¬ t = c2 := by omega
      have ne2 : ¬ t = c2 + 1 := by omega
      have ne3 : ¬ id1 = t := by omega
      have ne4 : ¬ id1 = c2 := by omega
      have ne5 : ¬ id1 = c2 + 1 := by omega
      have ne6 : ¬ c2 = t := by omega
      have ne7 : ¬ c2 = id1 := by omega
      have ne8 : ¬ c2 = c2 + 1 := by omega
      have ne9 : ¬ c2 + 1 = t := by omega
      have ne10 : ¬ c2 + 1 = id1 := by omega
      have ne11 : ¬ c2 + 1 = c2 := by omega
      simp only [go_sem, seval, ne0, ne1, ne2, ne3, ne4, ne5, ne6, ne7, ne8, ne9, ne10, ne11]
      repeat' ((first | with_reducible refine wr ?_ | ((with_reducible refine wb2 ?_ ?_) <;> (intro hb; try simp only [hb])) | ((with_reducible refine k_eval (b_appx (insC_len2 _) (by omega) (by omega)) ?_)) | fail) <;> try simp only [go_sem, seval, ne0, ne1, ne2, ne3, ne4, ne5, ne6, ne7, ne8, ne9, ne10, ne11])
      refine AC.call (c_next l hl ((valueM l 1 p1).2) hp2 2 (by omega) (by omega) _ _ t (by repeat (first | exact h_same | rw [h_ne (by omega)] | rw [h_dne (by omega)])) (by omega)) ?_
      rintro v H' c3 ⟨rfl, rfl⟩ hcc3
      have hq3 := nextM_lt (l := l) (p := (valueM l 1 p1).2) (n := 2) (by omega)
      have hp3 := nextM_le (l := l) (p := (valueM l 1 p1).2) (n := 2) hp2
      have ne0 : ¬ t = id1 := by omega
      have ne1 : ¬ t = c3 := by omega
      have ne2 : ¬ t = c3 + 1 := by omega
      have ne3 : ¬ id1 = t := by omega
      have ne4 : ¬ id1 = c3 := by omega
      have ne5 : ¬ id1 = c3 + 1 := by omega
      have ne6 : ¬ c3 = t := by omega
      have ne7 : ¬ c3 = id1 := by omega
      have ne8 : ¬ c3 = c3 + 1 := by omega
      have ne9 : ¬ c3 + 1 = t := by omega
      have ne10 : ¬ c3 + 1 = id1 := by omega
      have ne11 : ¬ c3 + 1 = c3 := by omega
      simp only [go_sem, seval, ne0, ne1, ne2, ne3, ne4, ne5, ne6, ne7, ne8, ne9, ne10, ne11]
      repeat' ((first | with_reducible refine wr ?_ | ((with_reducible refine wb2 ?_ ?_) <;> (intro hb; try simp only [hb])) | ((with_reducible refine k_eval (b_appx (insC_len2 _) (by omega) (by omega)) ?_)) | fail) <;> try simp only [go_sem, seval, ne0, ne1, ne2, ne3, ne4, ne5, ne6, ne7, ne8, ne9, ne10, ne11])
      have es : stmtM l (d + 1) base p = stK l (stmtM l d) base 5 p1 := by simp only [stmtM]; rw [e0]; try rfl
      rw [es]
      refine v_end (id := c3 + 1) hfr (by omega) (by omega) htc (by first | rfl | simp only [stK, List.length_append, List.length_singleton]) ?_ ?_ fun j h1 h2 => ?_
      · repeat (first | exact h_same | rw [h_ne (by omega)] | rw [h_dne (by omega)])
      · rw [h_same]; simp only [stK, insC_app, insC_one]
      · repeat (first | rfl | rw [h_ne (by omega)] | rw [h_dne (by omega)])
    · have nk : ((6 : Nat) : Int) = 6 := rfl
      simp only [go_sem, seval, hdl, nk, Int.reduceGT, Int.reduceBEq, Int.reduceLE, decide_true, decide_false, hw2, hw1]
      repeat' ((first | with_reducible refine wr ?_ | ((with_reducible refine wb2 ?_ ?_) <;> (intro hb; try simp only [hb])) | fail) <;> try simp only [go_sem, seval, hdl, nk, Int.reduceGT, Int.reduceBEq, Int.reduceLE, decide_true, decide_false, hw2, hw1])
      refine AC.call (c_next l hl (p1) hp1 2 (by omega) (by omega) _ _ t (by repeat (first | exact h_same | rw [h_ne (by omega)] | rw [h_dne (by omega)])) (by omega)) ?_
      rintro v H' c2 ⟨rfl, rfl⟩ hcc2
      have hq2 := nextM_lt (l := l) (p := p1) (n := 2) (by omega)
      have hp2 := nextM_le (l := l) (p := p1) (n := 2) hp1
      have ne0 : ¬ t = c2 := by omega
      have ne1 : ¬ t = c2 + 1 := by omega
      have ne2 : ¬ c2 = t := by omega
      have ne3 : ¬ c2 = c2 + 1 := by omega
      have ne4 : ¬ c2 + 1 = t := by omega
      have ne5 : ¬ c2 + 1 = c2 := by omega
      simp only [go_sem, seval, ne0, ne1, ne2, ne3, ne4, ne5]
      repeat' ((first | with_reducible refine wr ?_ | ((with_reducible refine wb2 ?_ ?_) <;> (intro hb; try simp only [hb])) | ((with_reducible refine k_eval (b_appx (insC_len2 _) (by omega) (by omega)) ?_)) | fail) <;> try simp only [go_sem, seval, ne0, ne1, ne2, ne3, ne4, ne5])
      have es : stmtM l (d + 1) base p = stK l (stmtM l d) base 6 p1 := by simp only [stmtM]; rw [e0]; try rfl
      rw [es]
      refine v_end (id := c2) hfr (by omega) (by omega) htc (by first | rfl | simp only [stK, List.length_append, List.length_singleton]) ?_ ?_ fun j h1 h2 => ?_
      · repeat (first | exact h_same | rw [h_ne (by omega)] | rw [h_dne (by omega)])
      · rw [h_same]; simp only [stK, insC_app, insC_one]
      · repeat (first | rfl | rw [h_ne (by omega)] | rw [h_dne (by omega)])
    · have nk : ((7 : Nat) : Int) = 7 := rfl
      simp only [go_sem, seval, hdl, nk, Int.reduceGT, Int.reduceBEq, Int.reduceLE, decide_true, decide_false, hw2, hw1]
      repeat' ((first | with_reducible refine wr ?_ | ((with_reducible refine wb2 ?_ ?_) <;> (intro hb; try simp only [hb])) | fail) <;> try simp only [go_sem, seval, hdl, nk, Int.reduceGT, Int.reduceBEq, Int.reduceLE, decide_true, decide_false, hw2, hw1])
      refine AC.call (c_next l hl (p1) hp1 2 (by omega) (by omega) _ _ t (by repeat (first | exact h_same | rw [h_ne (by omega)] | rw [h_dne (by omega)])) (by omega)) ?_
      rintro v H' c2 ⟨rfl, rfl⟩ hcc2
      have hq2 := nextM_lt (l := l) (p := p1) (n := 2) (by omega)
      have hp2 := nextM_le (l := l) (p := p1) (n := 2) hp1
      have hadd := w64 (n := 23 + ((nextM l p1 2).1 : Int)) (by omega) (by omega)
      have ne0 : ¬ t = c2 := by omega
      have ne1 : ¬ t = c2 + 1 := by omega
      have ne2 : ¬ c2 = t := by omega
      have ne3 : ¬ c2 = c2 + 1 := by omega
      have ne4 : ¬ c2 + 1 = t := by omega
      have ne5 : ¬ c2 + 1 = c2 := by omega
      simp only [go_sem, seval, hadd, ne0, ne1, ne2, ne3, ne4, ne5]
      repeat' ((first | with_reducible refine wr ?_ | ((with_reducible refine wb2 ?_ ?_) <;> (intro hb; try simp only [hb])) | ((with_reducible refine k_eval (b_appx (insC_len2 _) (by omega) (by omega)) ?_)) | fail) <;> try simp only [go_sem, seval, hadd, ne0, ne1, ne2, ne3, ne4, ne5])
      refine AC.call (c_next l hl ((nextM l p1 2).2) hp2 2 (by omega) (by omega) _ _ t (by repeat (first | exact h_same | rw [h_ne (by omega)] | rw [h_dne (by omega)])) (by omega)) ?_
      rintro v H' c3 ⟨rfl, rfl⟩ hcc3
      have hq3 := nextM_lt (l := l) (p := (nextM l p1 2).2) (n := 2) (by omega)
      have hp3 := nextM_le (l := l) (p := (nextM l p1 2).2) (n := 2) hp2
      have ne0 : ¬ t = c3 := by omega
      have ne1 : ¬ t = c3 + 1 := by omega
      have ne2 : ¬ c3 = t := by omega
      have ne3 : ¬ c3 = c3 + 1 := by omega
      have ne4 : ¬ c3 + 1 = t := by omega
      have ne5 : ¬ c3 + 1 = c3 := by omega
      simp only [go_sem, seval, hadd, ne0, ne1, ne2, ne3, ne4, ne5]
      repeat' ((first | with_reducible refine wr ?_ | ((with_reducible refine wb2 ?_ ?_) <;> (intro hb; try simp only [hb])) | ((with_reducible refine k_eval (b_appx (insC_len2 _) (by omega) (by omega)) ?_)) | fail) <;> try simp only [go_sem, seval, hadd, ne0, ne1, ne2, ne3, ne4, ne5])
      have es : stmtM l (d + 1) base p = stK l (stmtM l d) base 7 p1 := by simp only [stmtM]; rw [e0]; try rfl
      rw [es]
      refine v_end (id := c3) hfr (by omega) (by omega) htc (by first | rfl | simp only [stK, List.length_append, List.length_singleton]) ?_ ?_ fun j h1 h2 => ?_
      · repeat (first | exact h_same | rw [h_ne (by omega)] | rw [h_dne (by omega)])
      · rw [h_same]; simp only [stK, insC_app, insC_one]
      · repeat (first | rfl | rw [h_ne (by omega)] | rw [h_dne (by omega)])
    · have nk : ((8 : Nat) : Int) = 8 := rfl
      simp only [go_sem, seval, hdl, nk, Int.reduceGT, Int.reduceBEq, Int.reduceLE, decide_true, decide_false, hw2, hw1]
      repeat' ((first | with_reducible refine wr ?_ | ((with_reducible refine wb2 ?_ ?_) <;> (intro hb; try simp only [hb])) | fail) <;> try simp only [go_sem, seval, hdl, nk, Int.reduceGT, Int.reduceBEq, Int.reduceLE, decide_true, decide_false, hw2, hw1])
      refine AC.call (c_next l hl (p1) hp1 2 (by omega) (by omega) _ _ t (by repeat (first | exact h_same | rw [h_ne (by omega)] | rw [h_dne (by omega)])) (by omega)) ?_
      rintro v H' c2 ⟨rfl, rfl⟩ hcc2
      have hq2 := nextM_lt (l := l) (p := p1) (n := 2) (by omega)
      have hp2 := nextM_le (l := l) (p := p1) (n := 2) hp1
      have ne0 : ¬ t = c2 := by omega
      have ne1 : ¬ t = c2 + 1 := by omega
      have ne2 : ¬ c2 = t := by omega
      have ne3 : ¬ c2 = c2 + 1 := by omega
      have ne4 : ¬ c2 + 1 = t := by omega
      have ne5 : ¬ c2 + 1 = c2 := by omega
      simp only [go_sem, seval, ne0, ne1, ne2, ne3, ne4, ne5]
      repeat' ((first | with_reducible refine wr ?_ | ((with_reducible refine wb2 ?_ ?_) <;> (intro hb; try simp only [hb])) | ((with_reducible refine k_eval (b_appx (insC_len2 _) (by omega) (by omega)) ?_)) | fail) <;> try simp only [go_sem, seval, ne0, ne1, ne2, ne3, ne4, ne5])
      have es : stmtM l (d + 1) base p = stK l (stmtM l d) base 8 p1 := by simp only [stmtM]; rw [e0]; try rfl
      rw [es]
      refine v_end (id := c2) hfr (by omega) (by omega) htc (by first | rfl | simp only [stK, List.length_append, List.length_singleton]) ?_ ?_ fun j h1 h2 => ?_
      · repeat (first | exact h_same | rw [h_ne (by omega)] | rw [h_dne (by omega)])
      · rw [h_same]; simp only [stK, insC_app, insC_one]
      · repeat (first | rfl | rw [h_ne (by omega)] | rw [h_dne (by omega)])
    · have nk : ((9 : Nat) : Int) = 9 := rfl
      simp only [go_sem, seval, hdl, nk, Int.reduceGT, Int.reduceBEq, Int.reduceLE, decide_true, decide_false, hw2, hw1]
      repeat' ((first | with_reducible refine wr ?_ | ((with_reducible refine wb2 ?_ ?_) <;> (intro hb; try simp only [hb])) | fail) <;> try simp only [go_sem, seval, hdl, nk, Int.reduceGT, Int.reduceBEq, Int.reduceLE, decide_true, decide_false, hw2, hw1])
      refine AC.call (c_next l hl (p1) hp1 3 (by omega) (by omega) _ _ t (by repeat (first | exact h_same | rw [h_ne (by omega)] | rw [h_dne (by omega)])) (by omega)) ?_
      rintro v H' c2 ⟨rfl, rfl⟩ hcc2
      have hq2 := nextM_lt (l := l) (p := p1) (n := 3) (by omega)
      have hp2 := nextM_le (l := l) (p := p1) (n := 3) hp1
      have hadd := w64 (n := 26 + ((nextM l p1 3).1 : Int)) (by omega) (by omega)
      have ne0 : ¬ t = c2 := by omega
      have ne1 : ¬ t = c2 + 1 := by omega
      have ne2 : ¬ c2 = t := by omega
      have ne3 : ¬ c2 = c2 + 1 := by omega
      have ne4 : ¬ c2 + 1 = t := by omega
      have ne5 : ¬ c2 + 1 = c2 := by omega
      simp only [go_sem, seval, hadd, ne0, ne1, ne2, ne3, ne4, ne5]
      repeat' ((first | with_reducible refine wr ?_ | ((with_reducible refine wb2 ?_ ?_) <;> (intro hb; try simp only [hb])) | ((with_reducible refine k_eval (b_appx (insC_len2 _) (by omega) (by omega)) ?_)) | fail) <;> try simp only [go_sem, seval, hadd, ne0, ne1, ne2, ne3, ne4, ne5])
      refine AC.call (c_next l hl ((nextM l p1 3).2) hp2 64 (by omega) (by omega) _ _ t (by repeat (first | exact h_same | rw [h_ne (by omega)] | rw [h_dne (by omega)])) (by omega)) ?_
      rintro v H' c3 ⟨rfl, rfl⟩ hcc3
      have hq3 := nextM_lt (l := l) (p := (nextM l p1 3).2) (n := 64) (by omega)
      have hp3 := nextM_le (l := l) (p := (nextM l p1 3).2) (n := 64) hp2
      have ne0 : ¬ t = c3 := by omega
      have ne1 : ¬ t = c3 + 1 := by omega
      have ne2 : ¬ c3 = t := by omega
      have ne3 : ¬ c3 = c3 + 1 := by omega
      have ne4 : ¬ c3 + 1 = t := by omega
      have ne5 : ¬ c3 + 1 = c3 := by omega
      simp only [go_sem, seval, hadd, ne0, ne1, ne2, ne3, ne4, ne5]
      repeat' ((first | with_reducible refine wr ?_ | ((with_reducible refine wb2 ?_ ?_) <;> (intro hb; try simp only [hb])) | ((with_reducible refine k_eval (b_appx (insC_len2 _) (by omega) (by omega)) ?_)) | fail) <;> try simp only [go_sem, seval, hadd, ne0, ne1, ne2, ne3, ne4, ne5])
      have es : stmtM l (d + 1) base p = stK l (stmtM l d) base 9 p1 := by simp only [stmtM]; rw [e0]; try rfl
      rw [es]
      refine v_end (id := c3) hfr (by omega) (by omega) htc (by first | rfl | simp only [stK, List.length_append, List.length_singleton]) ?_ ?_ fun j h1 h2 => ?_
      · repeat (first | exact h_same | rw [h_ne (by omega)] | rw [h_dne (by omega)])
      · rw [h_same]; simp only [stK, insC_app, insC_one]
      · repeat (first | rfl | rw [h_ne (by omega)] | rw [h_dne (by omega)])
    · have nk : ((10 : Nat) : Int) = 10 := rfl
      simp only [go_sem, seval, hdl, nk, Int.reduceGT, Int.reduceBEq, Int.reduceLE, decide_true, decide_false, hw2, hw1]
      repeat' ((first | with_reducible refine wr ?_ | ((with_reducible refine wb2 ?_ ?_) <;> (intro hb; try simp only [hb])) | fail) <;> try simp only [go_sem, seval, hdl, nk, Int.reduceGT, Int.reduceBEq, Int.reduceLE, decide_true, decide_false, hw2, hw1])
      refine AC.call (c_value l hl 1 (by omega) (p1) hp1 _ _ t (by repeat (first | exact h_same | rw [h_ne (by omega)] | rw [h_dne (by omega)])) (by omega)) ?_
      rintro v H' c2 ⟨id1, ia1, ib1, rfl, rfl⟩ hcc2
      have hb1 := valueM_l1 l (p1)
      have hp2 := valueM_le l 1 (p1) hp1
      have ne0 : ¬ t = id1 := by omega
      have ne1 : ¬ t = c2 := by omega
      have ne2 : ¬ t = c2 + 1 := by omega
      have ne3 : ¬ id1 = t := by omega
      have ne4 : ¬ id1 = c2 := by omega
      have ne5 : ¬ id1 = c2 + 1 := by omega
      have ne6 : ¬ c2 = t := by omega
      have ne7 : ¬ c2 = id1 := by omega
      have ne8 : ¬ c2 = c2 + 1 := by omega
      have ne9 : ¬ c2 + 1 = t := by omega
      have ne10 : ¬ c2 + 1 = id1 := by omega
      have ne11 : ¬ c2 + 1 = c2 := by omega
      simp only [go_sem, seval, ne0, ne1, ne2, ne3, ne4, ne5, ne6, ne7, ne8, ne9, ne10, ne11]
      repeat' ((first | with_reducible refine wr ?_ | ((with_reducible refine wb2 ?_ ?_) <;> (intro hb; try simp only [hb])) | ((with_reducible refine k_eval (b_appx (insC_len2 _) (by omega) (by omega)) ?_)) | fail) <;> try simp only [go_sem, seval, ne0, ne1, ne2, ne3, ne4, ne5, ne6, ne7, ne8, ne9, ne10, ne11])
      refine AC.call (c_next l hl ((valueM l 1 p1).2) hp2 2 (by omega) (by omega) _ _ t (by repeat (first | exact h_same | rw [h_ne (by omega)] | rw [h_dne (by omega)])) (by omega)) ?_
      rintro v H' c3 ⟨rfl, rfl⟩ hcc3
      have hq3 := nextM_lt (l := l) (p := (valueM l 1 p1).2) (n := 2) (by omega)
      have hp3 := nextM_le (l := l) (p := (valueM l 1 p1).2) (n := 2) hp2
      have ne0 : ¬ t = id1 := by omega
      have ne1 : ¬ t = c3 := by omega
      have ne2 : ¬ t = c3 + 1 := by omega
      have ne3 : ¬ id1 = t := by omega
      have ne4 : ¬ id1 = c3 := by omega
      have ne5 : ¬ id1 = c3 + 1 := by omega
      have ne6 : ¬ c3 = t := by omega
      have ne7 : ¬ c3 = id1 := by omega
      have ne8 : ¬ c3 = c3 + 1 := by omega
      have ne9 : ¬ c3 + 1 = t := by omega
      have ne10 : ¬ c3 + 1 = id1 := by omega
      have ne11 : ¬ c3 + 1 = c3 := by omega
      simp only [go_sem, seval, ne0, ne1, ne2, ne3, ne4, ne5, ne6, ne7, ne8, ne9, ne10, ne11]
      repeat' ((first | with_reducible refine wr ?_ | ((with_reducible refine wb2 ?_ ?_) <;> (intro hb; try simp only [hb])) | ((with_reducible refine k_eval (b_appx (insC_len2 _) (by omega) (by omega)) ?_)) | fail) <;> try simp only [go_sem, seval, ne0, ne1, ne2, ne3, ne4, ne5, ne6, ne7, ne8, ne9, ne10, ne11])
      have es : stmtM l (d + 1) base p = stK l (stmtM l d) base 10 p1 := by simp only [stmtM]; rw [e0]; try rfl
      rw [es]
      refine v_end (id := c3 + 1) hfr (by omega) (by omega) htc (by first | rfl | simp only [stK, List.length_append, List.length_singleton]) ?_ ?_ fun j h1 h2 => ?_
      · repeat (first | exact h_same | rw [h_ne (by omega)] | rw [h_dne (by omega)])
      · rw [h_same]; simp only [stK, insC_app, insC_one]
      · repeat (first | rfl | rw [h_ne (by omega)] | rw [h_dne (by omega)])
    · have nk : ((11 : Nat) : Int) = 11 := rfl
      simp only [go_sem, seval, hdl, nk, Int.reduceGT, Int.reduceBEq, Int.reduceLE, decide_true, decide_false, hw2, hw1]
      repeat' ((first | with_reducible refine wr ?_ | ((with_reducible refine wb2 ?_ ?_) <;> (intro hb; try simp only [hb])) | fail) <;> try simp only [go_sem, seval, hdl, nk, Int.reduceGT, Int.reduceBEq, Int.reduceLE, decide_true, decide_false, hw2, hw1])
      have es : stmtM l (d + 1) base p = stK l (stmtM l d) base 11 p1 := by simp only [stmtM]; rw [e0]; try rfl
      rw [es]
      refine v_end (id := c1) hfr (by omega) (by omega) htc (by first | rfl | simp only [stK, List.length_append, List.length_singleton]) ?_ ?_ fun j h1 h2 => ?_
      · repeat (first | exact h_same | rw [h_ne (by omega)] | rw [h_dne (by omega)])
      · rw [h_same]; simp only [stK, insC_app, insC_one]
      · repeat (first | rfl | rw [h_ne (by omega)] | rw [h_dne (by omega)])
    · have nk : ((0 : Nat) : Int) = 0 := rfl
      simp only [go_sem, seval, hdl, nk, Int.reduceGT, Int.reduceBEq, Int.reduceLE, decide_true, decide_false, hw2, hw1]
      repeat' ((first | with_reducible refine wr ?_ | ((with_reducible refine wb2 ?_ ?_) <;> (intro hb; try simp only [hb])) | fail) <;> try simp only [go_sem, seval, hdl, nk, Int.reduceGT, Int.reduceBEq, Int.reduceLE, decide_true, decide_false, hw2, hw1])
      refine AC.call (c_value l hl 2 (by omega) (p1) hp1 _ _ t (by repeat (first | exact h_same | rw [h_ne (by omega)] | rw [h_dne (by omega)])) (by omega)) ?_
      rintro v H' c2 ⟨id1, ia1, ib1, rfl, rfl⟩ hcc2
      have hb1 := valueM_l2 l (p1)
      have hp2 := valueM_le l 2 (p1) hp1
      have ne0 : ¬ t = id1 := by omega
      have ne1 : ¬ t = c2 := by omega
      have ne2 : ¬ t = c2 + 1 := by omega
      have ne3 : ¬ id1 = t := by omega
      have ne4 : ¬ id1 = c2 := by omega
      have ne5 : ¬ id1 = c2 + 1 := by omega
      have ne6 : ¬ c2 = t := by omega
      have ne7 : ¬ c2 = id1 := by omega
      have ne8 : ¬ c2 = c2 + 1 := by omega
      have ne9 : ¬ c2 + 1 = t := by omega
      have ne10 : ¬ c2 + 1 = id1 := by omega
      have ne11 : ¬ c2 + 1 = c2 := by omega
      simp only [go_sem, seval, ne0, ne1, ne2, ne3, ne4, ne5, ne6, ne7, ne8, ne9, ne10, ne11]
      repeat' ((first | with_reducible refine wr ?_ | ((with_reducible refine wb2 ?_ ?_) <;> (intro hb; try simp only [hb])) | ((with_reducible refine k_eval (b_appx (insC_len2 _) (by omega) (by omega)) ?_)) | fail) <;> try simp only [go_sem, seval, ne0, ne1, ne2, ne3, ne4, ne5, ne6, ne7, ne8, ne9, ne10, ne11])
      refine AC.call (c_next l hl ((valueM l 2 p1).2) hp2 3 (by omega) (by omega) _ _ t (by repeat (first | exact h_same | rw [h_ne (by omega)] | rw [h_dne (by omega)])) (by omega)) ?_
      rintro v H' c3 ⟨rfl, rfl⟩ hcc3
      have hq3 := nextM_lt (l := l) (p := (valueM l 2 p1).2) (n := 3) (by omega)
      have hp3 := nextM_le (l := l) (p := (valueM l 2 p1).2) (n := 3) hp2
      have ne0 : ¬ t = id1 := by omega
      have ne1 : ¬ t = c3 := by omega
      have ne2 : ¬ t = c3 + 1 := by omega
      have ne3 : ¬ id1 = t := by omega
      have ne4 : ¬ id1 = c3 := by omega
      have ne5 : ¬ id1 = c3 + 1 := by omega
      have ne6 : ¬ c3 = t := by omega
      have ne7 : ¬ c3 = id1 := by omega
      have ne8 : ¬ c3 = c3 + 1 := by omega
      have ne9 : ¬ c3 + 1 = t := by omega
      have ne10 : ¬ c3 + 1 = id1 := by omega
      have ne11 : ¬ c3 + 1 = c3 := by omega
      simp only [go_sem, seval, ne0, ne1, ne2, ne3, ne4, ne5, ne6, ne7, ne8, ne9, ne10, ne11]
      repeat' ((first | with_reducible refine wr ?_ | ((with_reducible refine wb2 ?_ ?_) <;> (intro hb; try simp only [hb])) | ((with_reducible refine k_eval (b_appx (insC_len2 _) (by omega) (by omega)) ?_)) | fail) <;> try simp only [go_sem, seval, ne0, ne1, ne2, ne3, ne4, ne5, ne6, ne7, ne8, ne9, ne10, ne11])
      have es : stmtM l (d + 1) base p = stK l (stmtM l d) base 0 p1 := by simp only [stmtM]; rw [e0]; try rfl
      rw [es]
      refine v_end (id := c3 + 1) hfr (by omega) (by omega) htc (by first | rfl | simp only [stK, List.length_append, List.length_singleton]) ?_ ?_ fun j h1 h2 => ?_
      · repeat (first | exact h_same | rw [h_ne (by omega)] | rw [h_dne (by omega)])
      · rw [h_same]; simp only [stK, insC_app, insC_one]
      · repeat (first | rfl | rw [h_ne (by omega)] | rw [h_dne (by omega)])
    · have nk : ((12 : Nat) : Int) = 12 := rfl
      simp only [go_sem, seval, hdl, nk, Int.reduceGT, Int.reduceBEq, Int.reduceLE, decide_true, decide_false, hw2, hw1]
      repeat' ((first | with_reducible refine wr ?_ | ((with_reducible refine wb2 ?_ ?_) <;> (intro hb; try simp only [hb])) | fail) <;> try simp only [go_sem, seval, hdl, nk, Int.reduceGT, Int.reduceBEq, Int.reduceLE, decide_true, decide_false, hw2, hw1])
      refine AC.call (c_value l hl 1 (by omega) (p1) hp1 _ _ t (by repeat (first | exact h_same | rw [h_ne (by omega)] | rw [h_dne (by omega)])) (by omega)) ?_
      rintro v H' c2 ⟨id1, ia1, ib1, rfl, rfl⟩ hcc2
      have hb1 := valueM_l1 l (p1)
      have hp2 := valueM_le l 1 (p1) hp1
      have hs1 := w_sum (a := base) (b := (valueM l 1 p1).1.length) (by omega)
      have hs2 := w_sum (a := base + (valueM l 1 p1).1.length) (b := 1) (by omega)
      have one : ((1 : Nat) : Int) = 1 := rfl
      rw [one] at hs2
      have ne0 : ¬ t = id1 := by omega
      have ne1 : ¬ t = c2 := by omega
      have ne2 : ¬ t = c2 + 1 := by omega
      have ne3 : ¬ id1 = t := by omega
      have ne4 : ¬ id1 = c2 := by omega
      have ne5 : ¬ id1 = c2 + 1 := by omega
      have ne6 : ¬ c2 = t := by omega
      have ne7 : ¬ c2 = id1 := by omega
      have ne8 : ¬ c2 = c2 + 1 := by omega
      have ne9 : ¬ c2 + 1 = t := by omega
      have ne10 : ¬ c2 + 1 = id1 := by omega
      have ne11 : ¬ c2 + 1 = c2 := by omega
      simp only [go_sem, seval, hs1, hs2, hw2, hw1, ne0, ne1, ne2, ne3, ne4, ne5, ne6, ne7, ne8, ne9, ne10, ne11]
      repeat' ((first | with_reducible refine wr ?_ | ((with_reducible refine wb2 ?_ ?_) <;> (intro hb; try simp only [hb])) | ((with_reducible refine k_eval (b_appx (insC_len2 _) (by omega) (by omega)) ?_)) | fail) <;> try simp only [go_sem, seval, hs1, hs2, hw2, hw1, ne0, ne1, ne2, ne3, ne4, ne5, ne6, ne7, ne8, ne9, ne10, ne11])
      refine AC.call (ih (by omega) (base + (valueM l 1 p1).1.length + 1) ((valueM l 1 p1).2) (by omega) hp2 _ _ t (by repeat (first | exact h_same | rw [h_ne (by omega)] | rw [h_dne (by omega)])) (by omega)) ?_
      rintro v H' c3 ⟨id2, ia2, ib2, rfl, rfl⟩ hcc3
      have hb2 := stmtM_len l d (base + (valueM l 1 p1).1.length + 1) ((valueM l 1 p1).2)
      have hs3 := w_sum (a := base + (valueM l 1 p1).1.length + 1) (b := (stmtM l d (base + (valueM l 1 p1).1.length + 1) (valueM l 1 p1).2).1.length) (by omega)
      have hl2 := insC_len2 (stmtM l d (base + (valueM l 1 p1).1.length + 1) (valueM l 1 p1).2).1
      have hle2 : (stmtM l d (base + (valueM l 1 p1).1.length + 1) (valueM l 1 p1).2).1.length * 2 ≤ (insC (stmtM l d (base + (valueM l 1 p1).1.length + 1) (valueM l 1 p1).2).1).length := by omega
      have htk := List.take_of_length_le (l := insC (stmtM l d (base + (valueM l 1 p1).1.length + 1) (valueM l 1 p1).2).1) (i := (stmtM l d (base + (valueM l 1 p1).1.length + 1) (valueM l 1 p1).2).1.length * 2) (by omega)
      have hl3 := fun x y => insL1 (valueM l 1 p1).1 x y
      have hl4 := fun x y => insL3 (valueM l 1 p1).1 (stmtM l d (base + (valueM l 1 p1).1.length + 1) (valueM l 1 p1).2).1 x y
      have ne0 : ¬ t = id1 := by omega
      have ne1 : ¬ t = id2 := by omega
      have ne2 : ¬ t = c3 := by omega
      have ne3 : ¬ t = c3 + 1 := by omega
      have ne4 : ¬ t = c3 + 2 := by omega
      have ne5 : ¬ id1 = t := by omega
      have ne6 : ¬ id1 = id2 := by omega
      have ne7 : ¬ id1 = c3 := by omega
      have ne8 : ¬ id1 = c3 + 1 := by omega
      have ne9 : ¬ id1 = c3 + 2 := by omega
      have ne10 : ¬ id2 = t := by omega
      have ne11 : ¬ id2 = id1 := by omega
      have ne12 : ¬ id2 = c3 := by omega
      have ne13 : ¬ id2 = c3 + 1 := by omega
      have ne14 : ¬ id2 = c3 + 2 := by omega
      have ne15 : ¬ c3 = t := by omega
      have ne16 : ¬ c3 = id1 := by omega
      have ne17 : ¬ c3 = id2 := by omega
      have ne18 : ¬ c3 = c3 + 1 := by omega
      have ne19 : ¬ c3 = c3 + 2 := by omega
      have ne20 : ¬ c3 + 1 = t := by omega
      have ne21 : ¬ c3 + 1 = id1 := by omega
      have ne22 : ¬ c3 + 1 = id2 := by omega
      have ne23 : ¬ c3 + 1 = c3 := by omega
      have ne24 : ¬ c3 + 1 = c3 + 2 := by omega
      have ne25 : ¬ c3 + 2 = t := by omega
      have ne26 : ¬ c3 + 2 = id1 := by omega
      have ne27 : ¬ c3 + 2 = id2 := by omega
      have ne28 : ¬ c3 + 2 = c3 := by omega
      have ne29 : ¬ c3 + 2 = c3 + 1 := by omega
      simp only [go_sem, seval, hs1, hs2, hs3, hle2, htk, ne0, ne1, ne2, ne3, ne4, ne5, ne6, ne7, ne8, ne9, ne10, ne11, ne12, ne13, ne14, ne15, ne16, ne17, ne18, ne19, ne20, ne21, ne22, ne23, ne24, ne25, ne26, ne27, ne28, ne29]
      repeat' ((first | with_reducible refine wr ?_ | ((with_reducible refine wb2 ?_ ?_) <;> (intro hb; try simp only [hb])) | ((with_reducible refine k_eval (b_appx (insC_len2 _) (by omega) (by omega)) ?_)) | ((with_reducible refine k_eval (b_appx (hl3 _ _) (by omega) (by omega)) ?_)) | ((with_reducible refine k_eval (b_appx (hl4 _ _) (by omega) (by omega)) ?_)) | fail) <;> try simp only [go_sem, seval, hs1, hs2, hs3, hle2, htk, ne0, ne1, ne2, ne3, ne4, ne5, ne6, ne7, ne8, ne9, ne10, ne11, ne12, ne13, ne14, ne15, ne16, ne17, ne18, ne19, ne20, ne21, ne22, ne23, ne24, ne25, ne26, ne27, ne28, ne29])
      have es : stmtM l (d + 1) base p = stK l (stmtM l d) base 12 p1 := by simp only [stmtM]; rw [e0]; try rfl
      rw [es]
      refine v_end (id := c3 + 2) hfr (by omega) (by omega) htc (by first | rfl | simp only [stK, List.length_append, List.length_singleton]) ?_ ?_ fun j h1 h2 => ?_
      · repeat (first | exact h_same | rw [h_ne (by omega)] | rw [h_dne (by omega)])
      · rw [h_same]; simp only [stK, insC_app, insC_one]
      · repeat (first | rfl | rw [h_ne (by omega)] | rw [h_dne (by omega)])
    · have nk : ((13 : Nat) : Int) = 13 := rfl
      simp only [go_sem, seval, hdl, nk, Int.reduceGT, Int.reduceBEq, Int.reduceLE, decide_true, decide_false, hw2, hw1]
      repeat' ((first | with_reducible refine wr ?_ | ((with_reducible refine wb2 ?_ ?_) <;> (intro hb; try simp only [hb])) | fail) <;> try simp only [go_sem, seval, hdl, nk, Int.reduceGT, Int.reduceBEq, Int.reduceLE, decide_true, decide_false, hw2, hw1])
      refine AC.call (c_value l hl 0 (by omega) (p1) hp1 _ _ t (by repeat (first | exact h_same | rw [h_ne (by omega)] | rw [h_dne (by omega)])) (by omega)) ?_
      rintro v H' c2 ⟨id1, ia1, ib1, rfl, rfl⟩ hcc2
      have hb1 := valueM_l0 l (p1)
      have hp2 := valueM_le l 0 (p1) hp1
      have hs1 := w_sum (a := base) (b := (valueM l 0 p1).1.length) (by omega)
      have hs2 := w_sum (a := base + (valueM l 0 p1).1.length) (b := 1) (by omega)
      have one : ((1 : Nat) : Int) = 1 := rfl
      rw [one] at hs2
      have ne0 : ¬ t = id1 := by omega
      have ne1 : ¬ t = c2 := by omega
      have ne2 : ¬ t = c2 + 1 := by omega
      have ne3 : ¬ id1 = t := by omega
      have ne4 : ¬ id1 = c2 := by omega
      have ne5 : ¬ id1 = c2 + 1 := by omega
      have ne6 : ¬ c2 = t := by omega
      have ne7 : ¬ c2 = id1 := by omega
      have ne8 : ¬ c2 = c2 + 1 := by omega
      have ne9 : ¬ c2 + 1 = t := by omega
      have ne10 : ¬ c2 + 1 = id1 := by omega
      have ne11 : ¬ c2 + 1 = c2 := by omega
      simp only [go_sem, seval, hs1, hs2, hw2, hw1, ne0, ne1, ne2, ne3, ne4, ne5, ne6, ne7, ne8, ne9, ne10, ne11]
      repeat' ((first | with_reducible refine wr ?_ | ((with_reducible refine wb2 ?_ ?_) <;> (intro hb; try simp only [hb])) | ((with_reducible refine k_eval (b_appx (insC_len2 _) (by omega) (by omega)) ?_)) | fail) <;> try simp only [go_sem, seval, hs1, hs2, hw2, hw1, ne0, ne1, ne2, ne3, ne4, ne5, ne6, ne7, ne8, ne9, ne10, ne11])
      refine AC.call (ih (by omega) (base + (valueM l 0 p1).1.length + 1) ((valueM l 0 p1).2) (by omega) hp2 _ _ t (by repeat (first | exact h_same | rw [h_ne (by omega)] | rw [h_dne (by omega)])) (by omega)) ?_
      rintro v H' c3 ⟨id2, ia2, ib2, rfl, rfl⟩ hcc3
      have hb2 := stmtM_len l d (base + (valueM l 0 p1).1.length + 1) ((valueM l 0 p1).2)
      have hs4 := w_sum (a := base + (valueM l 0 p1).1.length) (b := 2) (by omega)
      have two : ((2 : Nat) : Int) = 2 := rfl
      rw [two] at hs4
      have hs3 := w_sum (a := base + (valueM l 0 p1).1.length + 2) (b := (stmtM l d (base + (valueM l 0 p1).1.length + 1) (valueM l 0 p1).2).1.length) (by omega)
      have hl2 := insC_len2 (stmtM l d (base + (valueM l 0 p1).1.length + 1) (valueM l 0 p1).2).1
      have hle2 : (stmtM l d (base + (valueM l 0 p1).1.length + 1) (valueM l 0 p1).2).1.length * 2 ≤ (insC (stmtM l d (base + (valueM l 0 p1).1.length + 1) (valueM l 0 p1).2).1).length := by omega
      have htk := List.take_of_length_le (l := insC (stmtM l d (base + (valueM l 0 p1).1.length + 1) (valueM l 0 p1).2).1) (i := (stmtM l d (base + (valueM l 0 p1).1.length + 1) (valueM l 0 p1).2).1.length * 2) (by omega)
      have hl3 := fun x y => insL1 (valueM l 0 p1).1 x y
      have hl4 := fun x y => insL3 (valueM l 0 p1).1 (stmtM l d (base + (valueM l 0 p1).1.length + 1) (valueM l 0 p1).2).1 x y
      have ne0 : ¬ t = id1 := by omega
      have ne1 : ¬ t = id2 := by omega
      have ne2 : ¬ t = c3 := by omega
      have ne3 : ¬ t = c3 + 1 := by omega
      have ne4 : ¬ t = c3 + 2 := by omega
      have ne5 : ¬ t = c3 + 3 := by omega
      have ne6 : ¬ t = c3 + 4 := by omega
      have ne7 : ¬ id1 = t := by omega
      have ne8 : ¬ id1 = id2 := by omega
      have ne9 : ¬ id1 = c3 := by omega
      have ne10 : ¬ id1 = c3 + 1 := by omega
      have ne11 : ¬ id1 = c3 + 2 := by omega
      have ne12 : ¬ id1 = c3 + 3 := by omega
      have ne13 : ¬ id1 = c3 + 4 := by omega
      have ne14 : ¬ id2 = t := by omega
      have ne15 : ¬ id2 = id1 := by omega
      have ne16 : ¬ id2 = c3 := by omega
      have ne17 : ¬ id2 = c3 + 1 := by omega
      have ne18 : ¬ id2 = c3 + 2 := by omega
      have ne19 : ¬ id2 = c3 + 3 := by omega
      have ne20 : ¬ id2 = c3 + 4 := by omega
      have ne21 : ¬ c3 = t := by omega
      have ne22 : ¬ c3 = id1 := by omega
      have ne23 : ¬ c3 = id2 := by omega
      have ne24 : ¬ c3 = c3 + 1 := by omega
      have ne25 : ¬ c3 = c3 + 2 := by omega
      have ne26 : ¬ c3 = c3 + 3 := by omega
      have ne27 : ¬ c3 = c3 + 4 := by omega
      have ne28 : ¬ c3 + 1 = t := by omega
      have ne29 : ¬ c3 + 1 = id1 := by omega
      have ne30 : ¬ c3 + 1 = id2 := by omega
      have ne31 : ¬ c3 + 1 = c3 := by omega
      have ne32 : ¬ c3 + 1 = c3 + 2 := by omega
      have ne33 : ¬ c3 + 1 = c3 + 3 := by omega
      have ne34 : ¬ c3 + 1 = c3 + 4 := by omega
      have ne35 : ¬ c3 + 2 = t := by omega
      have ne36 : ¬ c3 + 2 = id1 := by omega
      have ne37 : ¬ c3 + 2 = id2 := by omega
      have ne38 : ¬ c3 + 2 = c3 := by omega
      have ne39 : ¬ c3 + 2 = c3 + 1 := by omega
      have ne40 : ¬ c3 + 2 = c3 + 3 := by omega
      have ne41 : ¬ c3 + 2 = c3 + 4 := by omega
      have ne42 : ¬ c3 + 3 = t := by omega
      have ne43 : ¬ c3 + 3 = id1 := by omega
      have ne44 : ¬ c3 + 3 = id2 := by omega
      have ne45 : ¬ c3 + 3 = c3 := by omega
      have ne46 : ¬ c3 + 3 = c3 + 1 := by omega
      have ne47 : ¬ c3 + 3 = c3 + 2 := by omega
      have ne48 : ¬ c3 + 3 = c3 + 4 := by omega
      have ne49 : ¬ c3 + 4 = t := by omega
      have ne50 : ¬ c3 + 4 = id1 := by omega
      have ne51 : ¬ c3 + 4 = id2 := by omega
      have ne52 : ¬ c3 + 4 = c3 := by omega
      have ne53 : ¬ c3 + 4 = c3 + 1 := by omega
      have ne54 : ¬ c3 + 4 = c3 + 2 := by omega
      have ne55 : ¬ c3 + 4 = c3 + 3 := by omega
      simp only [go_sem, seval, hs1, hs2, hs3, hs4, hle2, htk, ne0, ne1, ne2, ne3, ne4, ne5, ne6, ne7, ne8, ne9, ne10, ne11, ne12, ne13, ne14, ne15, ne16, ne17, ne18, ne19, ne20, ne21, ne22, ne23, ne24, ne25, ne26, ne27, ne28, ne29, ne30, ne31, ne32, ne33, ne34, ne35, ne36, ne37, ne38, ne39, ne40, ne41, ne42, ne43, ne44, ne45, ne46, ne47, ne48, ne49, ne50, ne51, ne52, ne53, ne54, ne55]
      repeat' ((first | with_reducible refine wr ?_ | ((with_reducible refine wb2 ?_ ?_) <;> (intro hb; try simp only [hb])) | ((with_reducible refine k_eval (b_appx (insC_len2 _) (by omega) (by omega)) ?_)) | ((with_reducible refine k_eval (b_appx (hl3 _ _) (by omega) (by omega)) ?_)) | ((with_reducible refine k_eval (b_appx (hl4 _ _) (by omega) (by omega)) ?_)) | fail) <;> try simp only [go_sem, seval, hs1, hs2, hs3, hs4, hle2, htk, ne0, ne1, ne2, ne3, ne4, ne5, ne6, ne7, ne8, ne9, ne10, ne11, ne12, ne13, ne14, ne15, ne16, ne17, ne18, ne19, ne20, ne21, ne22, ne23, ne24, ne25, ne26, ne27, ne28, ne29, ne30, ne31, ne32, ne33, ne34, ne35, ne36, ne37, ne38, ne39, ne40, ne41, ne42, ne43, ne44, ne45, ne46, ne47, ne48, ne49, ne50, ne51, ne52, ne53, ne54, ne55])
      have es : stmtM l (d + 1) base p = stK l (stmtM l d) base 13 p1 := by simp only [stmtM]; rw [e0]; try rfl
      rw [es]
      refine v_end (id := c3 + 4) hfr (by omega) (by omega) htc (by first | rfl | simp only [stK, List.length_append, List.length_singleton]) ?_ ?_ fun j h1 h2 => ?_
      · repeat (first | exact h_same | rw [h_ne (by omega)] | rw [h_dne (by omega)])
      · rw [h_same]; simp only [stK, insC_app, insC_one]
      · repeat (first | rfl | rw [h_ne (by omega)] | rw [h_dne (by omega)])
    · have nk : ((14 : Nat) : Int) = 14 := rfl
      simp only [go_sem, seval, hdl, nk, Int.reduceGT, Int.reduceBEq, Int.reduceLE, decide_true, decide_false, hw2, hw1]
      repeat' ((first | with_reducible refine wr ?_ | ((with_reducible refine wb2 ?_ ?_) <;> (intro hb; try simp only [hb])) | fail) <;> try simp only [go_sem, seval, hdl, nk, Int.reduceGT, Int.reduceBEq, Int.reduceLE, decide_true, decide_false, hw2, hw1])
      refine AC.call (c_value l hl 0 (by omega) (p1) hp1 _ _ t (by repeat (first | exact h_same | rw [h_ne (by omega)] | rw [h_dne (by omega)])) (by omega)) ?_
      rintro v H' c2 ⟨id1, ia1, ib1, rfl, rfl⟩ hcc2
      have hb1 := valueM_l0 l (p1)
      have hp2 := valueM_le l 0 (p1) hp1
      have hs1 := w_sum (a := base) (b := (valueM l 0 p1).1.length) (by omega)
      have hs2 := w_sum (a := base + (valueM l 0 p1).1.length) (b := 1) (by omega)
      have one : ((1 : Nat) : Int) = 1 := rfl
      rw [one] at hs2
      have ne0 : ¬ t = id1 := by omega
      have ne1 : ¬ t = c2 := by omega
      have ne2 : ¬ t = c2 + 1 := by omega
      have ne3 : ¬ id1 = t := by omega
      have ne4 : ¬ id1 = c2 := by omega
      have ne5 : ¬ id1 = c2 + 1 := by omega
      have ne6 : ¬ c2 = t := by omega
      have ne7 : ¬ c2 = id1 := by omega
      have ne8 : ¬ c2 = c2 + 1 := by omega
      have ne9 : ¬ c2 + 1 = t := by omega
      have ne10 : ¬ c2 + 1 = id1 := by omega
      have ne11 : ¬ c2 + 1 = c2 := by omega
      simp only [go_sem, seval, hs1, hs2, hw2, hw1, ne0, ne1, ne2, ne3, ne4, ne5, ne6, ne7, ne8, ne9, ne10, ne11]
      repeat' ((first | with_reducible refine wr ?_ | ((with_reducible refine wb2 ?_ ?_) <;> (intro hb; try simp only [hb])) | ((with_reducible refine k_eval (b_appx (insC_len2 _) (by omega) (by omega)) ?_)) | fail) <;> try simp only [go_sem, seval, hs1, hs2, hw2, hw1, ne0, ne1, ne2, ne3, ne4, ne5, ne6, ne7, ne8, ne9, ne10, ne11])
      refine AC.call (ih (by omega) (base + (valueM l 0 p1).1.length + 1) ((valueM l 0 p1).2) (by omega) hp2 _ _ t (by repeat (first | exact h_same | rw [h_ne (by omega)] | rw [h_dne (by omega)])) (by omega)) ?_
      rintro v H' c3 ⟨id2, ia2, ib2, rfl, rfl⟩ hcc3
      have hb2 := stmtM_len l d (base + (valueM l 0 p1).1.length + 1) ((valueM l 0 p1).2)
      have hs4 := w_sum (a := base + (valueM l 0 p1).1.length) (b := 2) (by omega)
      have two : ((2 : Nat) : Int) = 2 := rfl
      rw [two] at hs4
      have hs3 := w_sum (a := base + (valueM l 0 p1).1.length + 2) (b := (stmtM l d (base + (valueM l 0 p1).1.length + 1) (valueM l 0 p1).2).1.length) (by omega)
      have hl2 := insC_len2 (stmtM l d (base + (valueM l 0 p1).1.length + 1) (valueM l 0 p1).2).1
      have hle2 : (stmtM l d (base + (valueM l 0 p1).1.length + 1) (valueM l 0 p1).2).1.length * 2 ≤ (insC (stmtM l d (base + (valueM l 0 p1).1.length + 1) (valueM l 0 p1).2).1).length := by omega
      have htk := List.take_of_length_le (l := insC (stmtM l d (base + (valueM l 0 p1).1.length + 1) (valueM l 0 p1).2).1) (i := (stmtM l d (base + (valueM l 0 p1).1.length + 1) (valueM l 0 p1).2).1.length * 2) (by omega)
      have hl3 := fun x y => insL1 (valueM l 0 p1).1 x y
      have hl4 := fun x y => insL3 (valueM l 0 p1).1 (stmtM l d (base + (valueM l 0 p1).1.length + 1) (valueM l 0 p1).2).1 x y
      have ne0 : ¬ t = id1 := by omega
      have ne1 : ¬ t = id2 := by omega
      have ne2 : ¬ t = c3 := by omega
      have ne3 : ¬ t = c3 + 1 := by omega
      have ne4 : ¬ t = c3 + 2 := by omega
      have ne5 : ¬ t = c3 + 3 := by omega
      have ne6 : ¬ t = c3 + 4 := by omega
      have ne7 : ¬ id1 = t := by omega
      have ne8 : ¬ id1 = id2 := by omega
      have ne9 : ¬ id1 = c3 := by omega
      have ne10 : ¬ id1 = c3 + 1 := by omega
      have ne11 : ¬ id1 = c3 + 2 := by omega
      have ne12 : ¬ id1 = c3 + 3 := by omega
      have ne13 : ¬ id1 = c3 + 4 := by omega
      have ne14 : ¬ id2 = t := by omega
      have ne15 : ¬ id2 = id1 := by omega
      have ne16 : ¬ id2 = c3 := by omega
      have ne17 : ¬ id2 = c3 + 1 := by omega
      have ne18 : ¬ id2 = c3 + 2 := by omega
      have ne19 : ¬ id2 = c3 + 3 := by omega
      have ne20 : ¬ id2 = c3 + 4 := by omega
      have ne21 : ¬ c3 = t := by omega
      have ne22 : ¬ c3 = id1 := by omega
      have ne23 : ¬ c3 = id2 := by omega
      have ne24 : ¬ c3 = c3 + 1 := by omega
      have ne25 : ¬ c3 = c3 + 2 := by omega
      have ne26 : ¬ c3 = c3 + 3 := by omega
      have ne27 : ¬ c3 = c3 + 4 := by omega
      have ne28 : ¬ c3 + 1 = t := by omega
      have ne29 : ¬ c3 + 1 = id1 := by omega
      have ne30 : ¬ c3 + 1 = id2 := by omega
      have ne31 : ¬ c3 + 1 = c3 := by omega
      have ne32 : ¬ c3 + 1 = c3 + 2 := by omega
      have ne33 : ¬ c3 + 1 = c3 + 3 := by omega
      have ne34 : ¬ c3 + 1 = c3 + 4 := by omega
      have ne35 : ¬ c3 + 2 = t := by omega
      have ne36 : ¬ c3 + 2 = id1 := by omega
      have ne37 : ¬ c3 + 2 = id2 := by omega
      have ne38 : ¬ c3 + 2 = c3 := by omega
      have ne39 : ¬ c3 + 2 = c3 + 1 := by omega
      have ne40 : ¬ c3 + 2 = c3 + 3 := by omega
      have ne41 : ¬ c3 + 2 = c3 + 4 := by omega
      have ne42 : ¬ c3 + 3 = t := by omega
      have ne43 : ¬ c3 + 3 = id1 := by omega
      have ne44 : ¬ c3 + 3 = id2 := by omega
      have ne45 : ¬ c3 + 3 = c3 := by omega
      have ne46 : ¬ c3 + 3 = c3 + 1 := by omega
      have ne47 : ¬ c3 + 3 = c3 + 2 := by omega
      have ne48 : ¬ c3 + 3 = c3 + 4 := by omega
      have ne49 : ¬ c3 + 4 = t := by omega
      have ne50 : ¬ c3 + 4 = id1 := by omega
      have ne51 : ¬ c3 + 4 = id2 := by omega
      have ne52 : ¬ c3 + 4 = c3 := by omega
      have ne53 : ¬ c3 + 4 = c3 + 1 := by omega
      have ne54 : ¬ c3 + 4 = c3 + 2 := by omega
      have ne55 : ¬ c3 + 4 = c3 + 3 := by omega
      simp only [go_sem, seval, hs1, hs2, hs3, hs4, hle2, htk, ne0, ne1, ne2, ne3, ne4, ne5, ne6, ne7, ne8, ne9, ne10, ne11, ne12, ne13, ne14, ne15, ne16, ne17, ne18, ne19, ne20, ne21, ne22, ne23, ne24, ne25, ne26, ne27, ne28, ne29, ne30, ne31, ne32, ne33, ne34, ne35, ne36, ne37, ne38, ne39, ne40, ne41, ne42, ne43, ne44, ne45, ne46, ne47, ne48, ne49, ne50, ne51, ne52, ne53, ne54, ne55]
      repeat' ((first | with_reducible refine wr ?_ | ((with_reducible refine wb2 ?_ ?_) <;> (intro hb; try simp only [hb])) | ((with_reducible refine k_eval (b_appx (insC_len2 _) (by omega) (by omega)) ?_)) | ((with_reducible refine k_eval (b_appx (hl3 _ _) (by omega) (by omega)) ?_)) | ((with_reducible refine k_eval (b_appx (hl4 _ _) (by omega) (by omega)) ?_)) | fail) <;> try simp only [go_sem, seval, hs1, hs2, hs3, hs4, hle2, htk, ne0, ne1, ne2, ne3, ne4, ne5, ne6, ne7, ne8, ne9, ne10, ne11, ne12, ne13, ne14, ne15, ne16, ne17, ne18, ne19, ne20, ne21, ne22, ne23, ne24, ne25, ne26, ne27, ne28, ne29, ne30, ne31, ne32, ne33, ne34, ne35, ne36, ne37, ne38, ne39, ne40, ne41, ne42, ne43, ne44, ne45, ne46, ne47, ne48, ne49, ne50, ne51, ne52, ne53, ne54, ne55])
      have es : stmtM l (d + 1) base p = stK l (stmtM l d) base 14 p1 := by simp only [stmtM]; rw [e0]; try rfl
      rw [es]
      refine v_end (id := c3 + 4) hfr (by omega) (by omega) htc (by first | rfl | simp only [stK, List.length_append, List.length_singleton]) ?_ ?_ fun j h1 h2 => ?_
      · repeat (first | exact h_same | rw [h_ne (by omega)] | rw [h_dne (by omega)])
      · rw [h_same]; simp only [stK, insC_app, insC_one]
      · repeat (first | rfl | rw [h_ne (by omega)] | rw [h_dne (by omega)])
end Go.Proofs.YtcallbfckjlagaaDoor
set_option maxHeartbeats 4000000
set_option maxRecDepth 100000
set_option linter.unusedSimpArgs false
set_option linter.unusedVariables false
namespace Go.Proofs.YtcallbfckjlagaaDoor
open Go.Eng (IC IOper DReg IFn IsFn)
open Go.Sym Go.Pb
noncomputable section
def u10_10 : IC := .cond (.t 37) .skip (.exit 0)
def u10_9r : List IOper := [oP 34 (.mv (.t 6)), oP 35 (.mv (.t 5)), oP 36 (.len (.t 35)), oP 37 (.bin .lss (.t 34) (.t 36))]
def u10_9 : IC := .seq (.reg u10_9r) u10_10
def u10_14 : IC := .cond (.t 46) (.exit 1) .skip
def u10_13r : List IOper := [oP 40 (.mv (.t 6)), oP 41 (.bin .gtr (.t 40) (.k (.int .i64 0))), oP 42 (.mv (.t 41)), oG 43 (.mv (.t 3)) 42, ⟨some 44, .call 27 [.t 43, .k (.int .i64 2)], some (42, true)⟩, oG 45 (.bin .eql (.t 44) (.k (.int .i64 0))) 42, oP 46 (.pick (.t 42) (.t 45) (.k (.bool false)))]
def u10_13 : IC := .seq (.reg u10_13r) u10_14
def u10_23 : IC := .cond (.t 64) .skip (.exit 2)
def u10_22r : List IOper := [oP 63 (.mv (.t 8)), oP 64 (.bin .gtr (.t 63) (.k (.int .i64 0)))]
def u10_22 : IC := .seq (.reg u10_22r) u10_23
def u10_25r : DReg := ⟨[oP 67 (.fad 0 (.t 4)), oP 68 (.ld 1 false (.t 67)), oP 69 (.mv (.t 3)), oP 70 (.fad 0 (.t 4)), oP 71 (.ld 1 false (.t 70)), oP 72 (.len (.t 71)), ⟨some 73, .call 28 [.t 69, .t 72, .k (.int .i64 2)], none⟩, ⟨some 74, .eff (.app 2 16 (.t 68) (.t 73)), none⟩, oP 75 (.fad 0 (.t 4)), ⟨none, .eff (.st 1 (.t 75) (.t 74)), none⟩], [[], [0], [], [], [3], [4, 3], [2, 5, 4, 3], [1, 6, 0, 2, 5, 4, 3], [0, 1, 2, 3, 4, 5, 6, 7], [8, 7, 0, 1, 2, 3, 4, 5, 6]], [(0, none), (1, none), (2, none), (3, none), (4, none), (5, none), (6, some [0, 1]), (7, some []), (8, none), (9, some [])]⟩
def u10_25 : IC := .drw 10 u10_25r
def u10_26r : List IOper := [oP 65 (.mv (.t 8)), oP 66 (.bin .sub (.t 65) (.k (.int .i64 1))), oP 8 (.mv (.t 66))]
def u10_26 : IC := .reg u10_26r
def u10_24 : IC := .seq (.blk 3 u10_25) u10_26
def u10_21 : IC := .seq u10_22 u10_24
def u10_20 : IC := .blk 2 (.loop u10_21)
def u10_19r : List IOper := [oP 61 (.mv (.t 3)), ⟨some 62, .call 27 [.t 61, .k (.int .i64 4)], none⟩, oP 8 (.mv (.t 62))]
def u10_19 : IC := .seq (.reg u10_19r) u10_20
def u10_27r : List IOper := [oP 76 (.fad 0 (.t 4)), oP 77 (.ld 1 false (.t 76)), oP 78 (.bld #[.int .i64 0, .int .i64 0] [(0, 1), (1, 1)] [(0, .k (.int .i64 31))]), ⟨some 79, .new (.bsl 2 1 #[.int .i64 0, .int .i64 0] [(0, .t 78)]), none⟩, ⟨some 80, .eff (.app 2 16 (.t 77) (.t 79)), none⟩, oP 81 (.fad 0 (.t 4)), ⟨none, .eff (.st 1 (.t 81) (.t 80)), none⟩]
def u10_27 : IC := .reg u10_27r
def u10_18 : IC := .seq u10_19 u10_27
def u10_17r : List IOper := [oP 55 (.fad 2 (.t 4)), oP 56 (.ld 1 false (.t 55)), oP 57 (.ld 4 true (.t 7)), ⟨some 58, .new (.bsl 4 1 #[.int .i64 0, .int .i64 0, .int .i64 0, .int .i64 0] [(0, .t 57)]), none⟩, ⟨some 59, .eff (.app 4 32 (.t 56) (.t 58)), none⟩, oP 60 (.fad 2 (.t 4)), ⟨none, .eff (.st 1 (.t 60) (.t 59)), none⟩]
def u10_17 : IC := .seq (.reg u10_17r) u10_18
def u10_16r : List IOper := [oP 51 (.fad 0 (.t 4)), oP 52 (.ld 1 false (.t 51)), oP 53 (.len (.t 52)), oP 54 (.fad 3 (.t 7)), ⟨none, .eff (.st 1 (.t 54) (.t 53)), none⟩]
def u10_16 : IC := .seq (.reg u10_16r) u10_17
def u10_15r : List IOper := [oP 47 (.mv (.t 5)), oP 48 (.mv (.t 6)), oP 49 (.iad 4 (.t 47) (.t 48)), oP 50 (.ld 4 true (.t 49)), ⟨some 7, .new (.box (.k (.agg #[.int .i64 0, .int .i64 0, .int .i64 0, .int .i64 0]))), none⟩, ⟨none, .eff (.st 4 (.t 7) (.t 50)), none⟩]
def u10_15 : IC := .seq (.reg u10_15r) u10_16
def u10_12 : IC := .seq u10_13 u10_15
def u10_28r : List IOper := [oP 38 (.mv (.t 6)), oP 39 (.bin .add (.t 38) (.k (.int .i64 1))), oP 6 (.mv (.t 39))]
def u10_28 : IC := .reg u10_28r
def u10_11 : IC := .seq (.blk 1 u10_12) u10_28
def u10_8 : IC := .seq u10_9 u10_11
def u10_7 : IC := .blk 0 (.loop u10_8)
def u10_6r : List IOper := [oP 6 (.mv (.k (.int .i64 0)))]
def u10_6 : IC := .seq (.reg u10_6r) u10_7
def u10_29r : List IOper := [oP 82 (.ld 7 true (.t 4)), ⟨none, .eff (.st 7 (.t 2) (.t 82)), none⟩]
def u10_29 : IC := .seq (.reg u10_29r) .ret
def u10_5 : IC := .seq u10_6 u10_29
def u10_4r : List IOper := [oP 24 (.bld #[.int .i64 0, .int .i64 0, .int .i64 0, .int .i64 0] [(0, 1), (1, 1), (2, 1), (3, 1)] [(1, .k (.int .i64 1))]), oP 25 (.bld #[.int .i64 0, .int .i64 0, .int .i64 0, .int .i64 0] [(0, 1), (1, 1), (2, 1), (3, 1)] [(1, .k (.int .i64 2))]), oP 26 (.bld #[.int .i64 0, .int .i64 0, .int .i64 0, .int .i64 0] [(0, 1), (1, 1), (2, 1), (3, 1)] [(1, .k (.int .i64 3)), (2, .k (.int .i64 3))]), oP 27 (.bld #[.int .i64 0, .int .i64 0, .int .i64 0, .int .i64 0] [(0, 1), (1, 1), (2, 1), (3, 1)] [(1, .k (.int .i64 5)), (2, .k (.int .i64 1))]), oP 28 (.bld #[.int .i64 0, .int .i64 0, .int .i64 0, .int .i64 0] [(0, 1), (1, 1), (2, 1), (3, 1)] [(1, .k (.int .i64 6))]), oP 29 (.bld #[.int .i64 0, .int .i64 0, .int .i64 0, .int .i64 0] [(0, 1), (1, 1), (2, 1), (3, 1)] [(0, .k (.int .i64 1)), (1, .k (.int .i64 1))]), oP 30 (.bld #[.int .i64 0, .int .i64 0, .int .i64 0, .int .i64 0] [(0, 1), (1, 1), (2, 1), (3, 1)] [(0, .k (.int .i64 1)), (1, .k (.int .i64 3)), (2, .k (.int .i64 3))]), oP 31 (.bld #[.int .i64 0, .int .i64 0, .int .i64 0, .int .i64 0] [(0, 1), (1, 1), (2, 1), (3, 1)] [(0, .k (.int .i64 1)), (1, .k (.int .i64 4)), (2, .k (.int .i64 63))]), oP 32 (.bld #[.int .i64 0, .int .i64 0, .int .i64 0, .int .i64 0] [(0, 1), (1, 1), (2, 1), (3, 1)] [(0, .k (.int .i64 1)), (1, .k (.int .i64 6)), (2, .k (.int .i64 1))]), ⟨some 33, .new (.bsl 4 9 #[.int .i64 0, .int .i64 0, .int .i64 0, .int .i64 0] [(0, .t 24), (1, .t 25), (2, .t 26), (3, .t 27), (4, .t 28), (5, .t 29), (6, .t 30), (7, .t 31), (8, .t 32)]), none⟩, oP 5 (.mv (.t 33))]
def u10_4 : IC := .seq (.reg u10_4r) u10_5
def u10_3r : List IOper := [⟨some 16, .new (.bsl 1 2 #[.string ⟨#[]⟩] [(0, .k (.string ⟨#[103, 111]⟩)), (1, .k (.string ⟨#[111, 118, 101, 114]⟩))]), none⟩, oP 17 (.mv (.t 3)), ⟨some 18, .call 27 [.t 17, .k (.int .i64 4)], none⟩, oP 19 (.mv (.t 3)), ⟨some 20, .call 27 [.t 19, .k (.int .i64 4)], none⟩, ⟨some 21, .new (.bsl 1 2 #[.int .i64 0] [(0, .t 18), (1, .t 20)]), none⟩, ⟨some 22, .new (.bsl 1 3 #[.int .i64 0] [(0, .k (.int .i64 0)), (1, .k (.int .i64 5)), (2, .k (.int .i64 (-3)))]), none⟩, oP 23 (.bld #[.slice none 0 0, .slice none 0 0, .slice none 0 0, .slice none 0 0, .slice none 0 0, .int .i64 0, .int .i64 0] [(0, 1), (1, 1), (2, 1), (3, 1), (4, 1), (5, 1), (6, 1)] [(1, .t 16), (3, .t 21), (4, .t 22), (5, .k (.int .i64 2)), (6, .k (.int .i64 2))]), ⟨some 4, .new (.box (.k (.agg #[.slice none 0 0, .slice none 0 0, .slice none 0 0, .slice none 0 0, .slice none 0 0, .int .i64 0, .int .i64 0]))), none⟩, ⟨none, .eff (.st 7 (.t 4) (.t 23)), none⟩]
def u10_3 : IC := .seq (.reg u10_3r) u10_4
def u10_2r : List IOper := [oP 9 (.mv (.t 0)), oP 10 (.mv (.t 0)), oP 11 (.len (.t 10)), oP 12 (.mn (.t 11) (.k (.int .i64 200))), oP 13 (.slc 1 (.t 9) none (some (.t 12))), oP 14 (.bld #[.slice none 0 0, .int .i64 0] [(0, 1), (1, 1)] [(0, .t 13)]), ⟨some 15, .new (.box (.t 14)), none⟩, oP 3 (.mv (.t 15))]
def u10_2 : IC := .seq (.reg u10_2r) u10_3
def u10_1r : List IOper := [⟨some 2, .new (.box (.k (.agg #[.slice none 0 0, .slice none 0 0, .slice none 0 0, .slice none 0 0, .slice none 0 0, .int .i64 0, .int .i64 0]))), none⟩]
def u10_1 : IC := .seq (.reg u10_1r) u10_2
def u10 : IFn := ⟨83, u10_1, [.cell 2 7 true]⟩
end
theorem isU10 : IsFn Tryd.prog 10 u10 := by unfold IsFn; kernel_rfl
instance i10_10 : WR Tryd.prog 83 u10_10 (rCE (.t 37) .skip (.exit 0) [2, 3, 4, 5, 6, 37]) := ⟨mkCE⟩
instance i10_9 : WR Tryd.prog 83 u10_9 (rS u10_9r u10_10 [2, 3, 4, 5, 6]) := ⟨mkS⟩
instance i10_14 : WR Tryd.prog 83 u10_14 (rCE (.t 46) (.exit 1) .skip [2, 3, 4, 5, 6, 46]) := ⟨mkCE⟩
instance i10_13 : WR Tryd.prog 83 u10_13 (rS u10_13r u10_14 [2, 3, 4, 5, 6]) := ⟨mkS⟩
instance i10_23 : WR Tryd.prog 83 u10_23 (rCE (.t 64) .skip (.exit 2) [2, 3, 4, 5, 6, 8, 64]) := ⟨mkCE⟩
instance i10_22 : WR Tryd.prog 83 u10_22 (rS u10_22r u10_23 [2, 3, 4, 5, 6, 8]) := ⟨mkS⟩
instance i10_25 : WR Tryd.prog 83 u10_25 (rDE 10 u10_25r [2, 3, 4, 5, 6, 8]) := ⟨mkDE⟩
instance i10_26 : WR Tryd.prog 83 u10_26 (rE u10_26r [2, 3, 4, 5, 6, 8]) := ⟨mkE⟩
instance i10_24 : WR Tryd.prog 83 u10_24 (rB 3 u10_25 u10_26 [2, 3, 4, 5, 6, 8]) := ⟨mkB⟩
instance i10_21 : WR Tryd.prog 83 u10_21 (rQ u10_22 u10_24 [2, 3, 4, 5, 6, 8]) := ⟨mkQ⟩
instance i10_20 : WR Tryd.prog 83 u10_20 (rBE 2 (.loop u10_21) [2, 3, 4, 5, 6, 8]) := ⟨mkBE⟩
instance i10_19 : WR Tryd.prog 83 u10_19 (rS u10_19r u10_20 [2, 3, 4, 5, 6]) := ⟨mkS⟩
instance i10_27 : WR Tryd.prog 83 u10_27 (rE u10_27r [2, 3, 4, 5, 6]) := ⟨mkE⟩
instance i10_18 : WR Tryd.prog 83 u10_18 (rQ u10_19 u10_27 [2, 3, 4, 5, 6]) := ⟨mkQ⟩
instance i10_17 : WR Tryd.prog 83 u10_17 (rS u10_17r u10_18 [2, 3, 4, 5, 6, 7]) := ⟨mkS⟩
instance i10_16 : WR Tryd.prog 83 u10_16 (rS u10_16r u10_17 [2, 3, 4, 5, 6, 7]) := ⟨mkS⟩
instance i10_15 : WR Tryd.prog 83 u10_15 (rS u10_15r u10_16 [2, 3, 4, 5, 6]) := ⟨mkS⟩
instance i10_12 : WR Tryd.prog 83 u10_12 (rQ u10_13 u10_15 [2, 3, 4, 5, 6]) := ⟨mkQ⟩
instance i10_28 : WR Tryd.prog 83 u10_28 (rE u10_28r [2, 3, 4, 5, 6]) := ⟨mkE⟩
instance i10_11 : WR Tryd.prog 83 u10_11 (rB 1 u10_12 u10_28 [2, 3, 4, 5, 6]) := ⟨mkB⟩
instance i10_8 : WR Tryd.prog 83 u10_8 (rQ u10_9 u10_11 [2, 3, 4, 5, 6]) := ⟨mkQ⟩
instance i10_7 : WR Tryd.prog 83 u10_7 (rBE 0 (.loop u10_8) [2, 3, 4, 5, 6]) := ⟨mkBE⟩
instance i10_6 : WR Tryd.prog 83 u10_6 (rS u10_6r u10_7 [2, 3, 4, 5]) := ⟨mkS⟩
instance i10_29 : WR Tryd.prog 83 u10_29 (rS u10_29r .ret [2, 4]) := ⟨mkS⟩
instance i10_5 : WR Tryd.prog 83 u10_5 (rQ u10_6 u10_29 [2, 3, 4, 5]) := ⟨mkQ⟩
instance i10_4 : WR Tryd.prog 83 u10_4 (rS u10_4r u10_5 [2, 3, 4]) := ⟨mkS⟩
instance i10_3 : WR Tryd.prog 83 u10_3 (rS u10_3r u10_4 [2, 3]) := ⟨mkS⟩
instance i10_2 : WR Tryd.prog 83 u10_2 (rS u10_2r u10_3 [0, 2]) := ⟨mkS⟩
instance i10_1 : WR Tryd.prog 83 u10_1 (rS u10_1r u10_2 [0]) := ⟨mkS⟩
attribute [go_sem] u10_9r u10_13r u10_22r u10_25r u10_26r u10_19r u10_27r u10_17r u10_16r u10_15r u10_28r u10_6r u10_29r u10_4r u10_3r u10_2r u10_1r
theorem c_Made (l : List UInt8) (hl : l.length ≤ 9223372036854775807) : PC Tryd.prog 10 [.lst (bytesC l)] (madeM l).v := by
  have nlb : DV.nlL (bytesC l) = true := nlL_map (fun _ => rfl) l
  refine PC.of mixedU isU10 (Nat.le_of_ble_eq_true rfl) (by simp [DV.nlL, DV.nl, nlb]) (by simp [DV.nlL, DV.nl, nlL_ints, nlL_strs, nlL_instrs, nlL_entries]) ?_
  show IW Tryd.prog 83 u10_1 ⟨argT _, _, _⟩ (rt [.cell 2 7 true] _)
  have hlen := bytesC_len l
  obtain ⟨t, ht⟩ : ∃ t, t = l.take 200 := ⟨_, rfl⟩
  have htl : t.length ≤ 200 := by rw [ht, List.length_take]; omega
  have hmn : (if (200 : Int) < ((l.length : Nat) : Int) then (200 : Int) else ((l.length : Nat) : Int)) = ((t.length : Nat) : Int) := by
    rw [ht, List.length_take]; split <;> omega
  have hsl : ∀ H, slcR H 1 (.lst (bytesC l)) none (some (I64 (t.length : Int))) = some (.lst (bytesC t)) := fun H => by
    have e : l.take t.length = t := by rw [ht, List.length_take]; by_cases h : 200 ≤ l.length
                                       · rw [Nat.min_eq_left h]
                                       · rw [Nat.min_eq_right (by omega), List.take_of_length_le (Nat.le_refl _), List.take_of_length_le (by omega)]
    rw [slc_bytes (by rw [ht, List.length_take]; omega), e]
  repeat' ((first | with_reducible refine wr ?_ | ((with_reducible refine wb2 ?_ ?_) <;> (intro hb; try simp only [hb])) | fail) <;> try simp only [go_sem, seval, hlen, hmn, hsl])
  refine AC.call (c_next t (by omega) 0 (by omega) 4 (by omega) (by omega) _ _ 1 rfl (by omega)) ?_
  rintro v H' c1 ⟨rfl, rfl⟩ hc1
  have hp1 := nextM_le (l := t) (p := 0) (n := 4) (by omega)
  simp only [go_sem, seval]
  repeat' ((first | with_reducible refine wr ?_ | ((with_reducible refine wb2 ?_ ?_) <;> (intro hb; try simp only [hb])) | fail) <;> try simp only [go_sem, seval])
  refine AC.call (c_next t (by omega) _ hp1 4 (by omega) (by omega) _ _ 1 h_same (by omega)) ?_
  rintro v H' c2 ⟨rfl, rfl⟩ hc2
  have hp2 := nextM_le (l := t) (p := (nextM t 0 4).2) (n := 4) hp1
  rw [h_upd2]
  have ne0 : ¬ 0 = c2 := by omega
  have ne1 : ¬ 0 = c2 + 1 := by omega
  have ne2 : ¬ 0 = c2 + 2 := by omega
  have ne3 : ¬ 0 = c2 + 3 := by omega
  have ne4 : ¬ 1 = c2 := by omega
  have ne5 : ¬ 1 = c2 + 1 := by omega
  have ne6 : ¬ 1 = c2 + 2 := by omega
  have ne7 : ¬ 1 = c2 + 3 := by omega
  have ne8 : ¬ 2 = c2 := by omega
  have ne9 : ¬ 2 = c2 + 1 := by omega
  have ne10 : ¬ 2 = c2 + 2 := by omega
  have ne11 : ¬ 2 = c2 + 3 := by omega
  have ne12 : ¬ c2 = 0 := by omega
  have ne13 : ¬ c2 = 1 := by omega
  have ne14 : ¬ c2 = 2 := by omega
  have ne15 : ¬ c2 = c2 + 1 := by omega
  have ne16 : ¬ c2 = c2 + 2 := by omega
  have ne17 : ¬ c2 = c2 + 3 := by omega
  have ne18 : ¬ c2 + 1 = 0 := by omega
  have ne19 : ¬ c2 + 1 = 1 := by omega
  have ne20 : ¬ c2 + 1 = 2 := by omega
  have ne21 : ¬ c2 + 1 = c2 := by omega
  have ne22 : ¬ c2 + 1 = c2 + 2 := by omega
  have ne23 : ¬ c2 + 1 = c2 + 3 := by omega
  have ne24 : ¬ c2 + 2 = 0 := by omega
  have ne25 : ¬ c2 + 2 = 1 := by omega
  have ne26 : ¬ c2 + 2 = 2 := by omega
  have ne27 : ¬ c2 + 2 = c2 := by omega
  have ne28 : ¬ c2 + 2 = c2 + 1 := by omega
  have ne29 : ¬ c2 + 2 = c2 + 3 := by omega
  have ne30 : ¬ c2 + 3 = 0 := by omega
  have ne31 : ¬ c2 + 3 = 1 := by omega
  have ne32 : ¬ c2 + 3 = 2 := by omega
  have ne33 : ¬ c2 + 3 = c2 := by omega
  have ne34 : ¬ c2 + 3 = c2 + 1 := by omega
  have ne35 : ¬ c2 + 3 = c2 + 2 := by omega
  simp only [go_sem, seval, ne0, ne1, ne2, ne3, ne4, ne5, ne6, ne7, ne8, ne9, ne10, ne11, ne12, ne13, ne14, ne15, ne16, ne17, ne18, ne19, ne20, ne21, ne22, ne23, ne24, ne25, ne26, ne27, ne28, ne29, ne30, ne31, ne32, ne33, ne34, ne35]
  repeat' ((first | with_reducible refine wr ?_ | ((with_reducible refine wb2 ?_ ?_) <;> (intro hb; try simp only [hb])) | fail) <;> try simp only [go_sem, seval, ne0, ne1, ne2, ne3, ne4, ne5, ne6, ne7, ne8, ne9, ne10, ne11, ne12, ne13, ne14, ne15, ne16, ne17, ne18, ne19, ne20, ne21, ne22, ne23, ne24, ne25, ne26, ne27, ne28, ne29, ne30, ne31, ne32, ne33, ne34, ne35])
  have hkk : ∃ k, k = c2 + 1 + 1 := ⟨_, rfl⟩
  have hkeys : (entsV keysM) = entsV keysM := rfl
  refine IW.keep [2, 3, 4, 5, 6] [.ptr 0 0, .ptr 1 0, .ptr (c2 + 1 + 1) 0, entsV keysM, I64 0]
    (H' := MH (c2 + 1 + 1) t (nextM t (nextM t 0 4).2 4).2 (strs mdS) (ints (mdP t)) (ints mdV) [] [] none none)
    ((g_cell (a := 2) (k := c2 + 1 + 1) (u := 1) (u' := 1) (pre := [.snil]) (suf := [.snil, .slc c2 0 2, .slc (c2 + 1) 0 3, I64 2, I64 2]) (xs := mdS.map DV.str) (junk := []) (by simp only [go_sem, ne0, ne1, ne2, ne3, ne4, ne5, ne6, ne7, ne8, ne9, ne10, ne11, ne12, ne13, ne14, ne15, ne16, ne17, ne18, ne19, ne20, ne21, ne22, ne23, ne24, ne25, ne26, ne27, ne28, ne29, ne30, ne31, ne32, ne33, ne34, ne35, List.cons_append, List.nil_append]; rfl) (by simp only [go_sem, ne0, ne1, ne2, ne3, ne4, ne5, ne6, ne7, ne8, ne9, ne10, ne11, ne12, ne13, ne14, ne15, ne16, ne17, ne18, ne19, ne20, ne21, ne22, ne23, ne24, ne25, ne26, ne27, ne28, ne29, ne30, ne31, ne32, ne33, ne34, ne35]; rfl) (by simp [DV.one]) rfl (str_unit _) (by omega)).trans
    ((g_cell (a := c2) (k := c2 + 1 + 1) (u := 1) (u' := 1) (pre := [.snil, strs mdS, .snil]) (suf := [.slc (c2 + 1) 0 3, I64 2, I64 2]) (xs := (mdP t).map I64) (junk := []) (by simp only [go_sem, ne0, ne1, ne2, ne3, ne4, ne5, ne6, ne7, ne8, ne9, ne10, ne11, ne12, ne13, ne14, ne15, ne16, ne17, ne18, ne19, ne20, ne21, ne22, ne23, ne24, ne25, ne26, ne27, ne28, ne29, ne30, ne31, ne32, ne33, ne34, ne35, List.cons_append, List.nil_append]; rfl) (by simp only [go_sem, ne0, ne1, ne2, ne3, ne4, ne5, ne6, ne7, ne8, ne9, ne10, ne11, ne12, ne13, ne14, ne15, ne16, ne17, ne18, ne19, ne20, ne21, ne22, ne23, ne24, ne25, ne26, ne27, ne28, ne29, ne30, ne31, ne32, ne33, ne34, ne35]; rfl) (by simp [DV.one]) rfl (ints_unit _) (by omega)).trans
    ((g_cell (a := c2 + 1) (k := c2 + 1 + 1) (u := 1) (u' := 1) (pre := [.snil, strs mdS, .snil, ints (mdP t)]) (suf := [I64 2, I64 2]) (xs := mdV.map I64) (junk := []) (by simp only [go_sem, ne0, ne1, ne2, ne3, ne4, ne5, ne6, ne7, ne8, ne9, ne10, ne11, ne12, ne13, ne14, ne15, ne16, ne17, ne18, ne19, ne20, ne21, ne22, ne23, ne24, ne25, ne26, ne27, ne28, ne29, ne30, ne31, ne32, ne33, ne34, ne35, List.cons_append, List.nil_append]; rfl) (by simp only [go_sem, ne0, ne1, ne2, ne3, ne4, ne5, ne6, ne7, ne8, ne9, ne10, ne11, ne12, ne13, ne14, ne15, ne16, ne17, ne18, ne19, ne20, ne21, ne22, ne23, ne24, ne25, ne26, ne27, ne28, ne29, ne30, ne31, ne32, ne33, ne34, ne35]; rfl) (by simp [DV.one]) rfl (ints_unit _) (by omega)).trans
    (GL.frzS (id := c2 + 1 + 1 + 1) (b := ⟨4, true, cellsL (keysM.map Ent.v)⟩) (by simp only [go_sem, ne0, ne1, ne2, ne3, ne4, ne5, ne6, ne7, ne8, ne9, ne10, ne11, ne12, ne13, ne14, ne15, ne16, ne17, ne18, ne19, ne20, ne21, ne22, ne23, ne24, ne25, ne26, ne27, ne28, ne29, ne30, ne31, ne32, ne33, ne34, ne35]; rfl) rfl (fun j => ?_) (.cons _ _ _ _ (.same _) (.cons _ _ _ _ (.same _) (.cons _ _ _ _ (.same _) (.cons _ _ _ _ (fz_slc (u := 4) rfl (ent_unit _) ⟨[], by simp⟩) (.cons _ _ _ _ (.same _) .nil))))))))) ?_
  · by_cases e1 : j = c2 + 1 + 1
    · subst e1; right; refine ⟨by omega, ?_⟩; rw [h_same]; unfold MH; simp only [optH]; rw [h_same]; rfl
    · by_cases e2 : j = 1
      · subst e2; right; refine ⟨by omega, ?_⟩; rw [h_ne (by omega), h_dne (by omega), h_ne (by omega), h_dne (by omega), h_ne (by omega), h_dne (by omega)]; simp only [go_sem, ne0, ne1, ne2, ne3, ne4, ne5, ne6, ne7, ne8, ne9, ne10, ne11, ne12, ne13, ne14, ne15, ne16, ne17, ne18, ne19, ne20, ne21, ne22, ne23, ne24, ne25, ne26, ne27, ne28, ne29, ne30, ne31, ne32, ne33, ne34, ne35]; rfl
      · by_cases e3 : j = 0
        · subst e3; right; refine ⟨by omega, ?_⟩; rw [h_ne (by omega), h_dne (by omega), h_ne (by omega), h_dne (by omega), h_ne (by omega), h_dne (by omega)]; simp only [go_sem, ne0, ne1, ne2, ne3, ne4, ne5, ne6, ne7, ne8, ne9, ne10, ne11, ne12, ne13, ne14, ne15, ne16, ne17, ne18, ne19, ne20, ne21, ne22, ne23, ne24, ne25, ne26, ne27, ne28, ne29, ne30, ne31, ne32, ne33, ne34, ne35]; rfl
        · left; unfold MH; simp only [optH]; rw [h_ne e1, h_ne e2, h_ne e3]; rfl
  obtain ⟨k, hk⟩ : ∃ k, k = c2 + 1 + 1 := ⟨_, rfl⟩
  rw [← hk]
  have hkl : keysM.length = 9 := rfl
  refine i_loop (fun q : Nat × Option Nat × Option Nat => [(2, .ptr 0 0), (3, .ptr 1 0), (4, .ptr k 0), (5, entsV keysM), (6, I64 q.1)]) (fun q => MH k t (mdK t q.1).p (strs mdS) (ints (mdP t)) (ints mdV) (mdK t q.1).I (mdK t q.1).E q.2.1 q.2.2)
    (fun q cc => MO k q.2.1 q.2.2 cc ∧ q.1 ≤ 9 ∧ (q.2.1 = none → (mdK t q.1).I = []) ∧ (q.2.2 = none → (mdK t q.1).E = []) ∧ (q.1 ≠ 0 → q.2.1 ≠ none ∧ q.2.2 ≠ none)) (fun q => 9 - q.1) (0, none, none)
    (by simp [tmLe, tm, Tm.upd]) (Sub.refl _) ⟨⟨by omega, by omega, by simp, by simp, by simp⟩, by simp, fun _ => rfl, fun _ => rfl, by simp⟩ ?_
  clear hkeys hkk
  rintro ⟨i, o1, o2⟩ cc ⟨hO, hi9, hn1, hn2, hne⟩
  simp only at hO hi9 hn1 hn2 hne
  obtain ⟨B1, B2, B3⟩ := mdK_bd (l := t) i
  by_cases hlt : i < 9
  · have hd : decide ((i : Int) < 9) = true := by simp; omega
    have hw : IntKind.i64.wrap ((i : Int) + 1) = ((i + 1 : Nat) : Int) := by rw [w64 (by omega) (by omega)]; omega
    obtain ⟨e, he⟩ : ∃ e, e = keysM.getD i ⟨0, 0, 0, 0⟩ := ⟨_, rfl⟩
    have hg : keysM[i]? = some e := by rw [he, List.getD, List.getElem?_eq_getElem (by rw [hkl]; exact hlt)]; rfl
    obtain ⟨x, hx⟩ : ∃ x, x = mdK t i := ⟨_, rfl⟩
    have hmd : mdK t (i + 1) = mdI t e i x := by rw [he, hx]; rfl
    rw [← hx] at B1 B2 B3 hn1 hn2
    simp only
    rw [← hx]
    obtain ⟨I, E, p⟩ := x
    simp only at B1 B2 B3 hn1 hn2 ⊢
    by_cases hi0 : i = 0
    · have hgt : decide ((i : Int) > 0) = false := by simp; omega
      obtain ⟨pp, hpp⟩ : ∃ pp, pp = p := ⟨_, rfl⟩
      have hmd2 : mdK t (i + 1) = mdH t e ⟨I, E, p⟩ pp := by rw [hmd, mdI, if_pos hi0, hpp]
      have Hpp : pp ≤ t.length := by rw [hpp]; exact B1
      rw [← hpp]
      have hlt1 := r_lentodo (o := o1) (n := I.length) (fun e => len_nil (hn1 e))
      have hD := fun (p : Nat) => MH_k (l := t) (p := p) (S := strs mdS) (P := ints (mdP t)) (V := ints mdV) (I := I) (E := E) hO
      have hcc := hO.kc
      have hk2 := hO.k2
      have hdk : ∀ X, delO X o2 k = X k := fun X => delO_ne (fun i hi e => by have := hO.b i hi; omega)
      have hd1 : ∀ X, delO X o2 1 = X 1 := fun X => delO_ne (fun i hi e => by have := hO.b i hi; omega)
      have hd0 : ∀ X, delO X o2 0 = X 0 := fun X => delO_ne (fun i hi e => by have := hO.b i hi; omega)
      have hda : ∀ X j, o1 = some j → delO X o2 j = X j := fun X j hj => delO_ne (fun i hi e => hO.ne j hj (by rw [e]; exact hi))
      have ne0 : ¬ 0 = k := by omega
      have ne1 : ¬ 0 = cc := by omega
      have ne2 : ¬ 0 = cc + 1 := by omega
      have ne3 : ¬ 0 = cc + 2 := by omega
      have ne4 : ¬ 1 = k := by omega
      have ne5 : ¬ 1 = cc := by omega
      have ne6 : ¬ 1 = cc + 1 := by omega
      have ne7 : ¬ 1 = cc + 2 := by omega
      have ne8 : ¬ k = 0 := by omega
      have ne9 : ¬ k = 1 := by omega
      have ne10 : ¬ k = cc := by omega
      have ne11 : ¬ k = cc + 1 := by omega
      have ne12 : ¬ k = cc + 2 := by omega
      have ne13 : ¬ cc = 0 := by omega
      have ne14 : ¬ cc = 1 := by omega
      have ne15 : ¬ cc = k := by omega
      have ne16 : ¬ cc = cc + 1 := by omega
      have ne17 : ¬ cc = cc + 2 := by omega
      have ne18 : ¬ cc + 1 = 0 := by omega
      have ne19 : ¬ cc + 1 = 1 := by omega
      have ne20 : ¬ cc + 1 = k := by omega
      have ne21 : ¬ cc + 1 = cc := by omega
      have ne22 : ¬ cc + 1 = cc + 2 := by omega
      have ne23 : ¬ cc + 2 = 0 := by omega
      have ne24 : ¬ cc + 2 = 1 := by omega
      have ne25 : ¬ cc + 2 = k := by omega
      have ne26 : ¬ cc + 2 = cc := by omega
      have ne27 : ¬ cc + 2 = cc + 1 := by omega
      repeat' ((first | with_reducible refine wr ?_ | ((with_reducible refine wb2 ?_ ?_) <;> (intro hb; try simp only [hb])) | fail) <;> try simp only [go_sem, seval, hkl, hd, hgt, hg, hlt1, hD, ne0, ne1, ne2, ne3, ne4, ne5, ne6, ne7, ne8, ne9, ne10, ne11, ne12, ne13, ne14, ne15, ne16, ne17, ne18, ne19, ne20, ne21, ne22, ne23, ne24, ne25, ne26, ne27])
      refine k_eval (r_apptodo (cs := cellsL (E.map Ent.v)) (fun e => ⟨len_nil (hn2 e), entC_nil (hn2 e)⟩) (fun i hi => ?_) (entC_len' E) (by omega) (by omega) (by omega)) ?_
      · have := hO.b i hi
        rw [h_ne (by omega), h_ne (by omega), h_ne (by omega), h_ne (by omega)]; exact MH_b hi
      simp only [go_sem, seval, hdk, hD, ne0, ne1, ne2, ne3, ne4, ne5, ne6, ne7, ne8, ne9, ne10, ne11, ne12, ne13, ne14, ne15, ne16, ne17, ne18, ne19, ne20, ne21, ne22, ne23, ne24, ne25, ne26, ne27]
      repeat' ((first | with_reducible refine wr ?_ | ((with_reducible refine wb2 ?_ ?_) <;> (intro hb; try simp only [hb])) | fail) <;> try simp only [go_sem, seval, hdk, hD, ne0, ne1, ne2, ne3, ne4, ne5, ne6, ne7, ne8, ne9, ne10, ne11, ne12, ne13, ne14, ne15, ne16, ne17, ne18, ne19, ne20, ne21, ne22, ne23, ne24, ne25, ne26, ne27])
      refine AC.call (c_next t (by omega) pp Hpp 4 (by omega) (by omega) _ _ 1 (by repeat (first | exact MH_1 hO | rw [h_ne (by omega)] | rw [hd1])) (by omega)) ?_
      rintro v H' c4 ⟨rfl, rfl⟩ hc4
      have hq4 := nextM_lt (l := t) (p := pp) (n := 4) (by omega)
      have hp4 := nextM_le (l := t) (p := pp) (n := 4) Hpp
      obtain ⟨n, hn⟩ : ∃ n, n = (nextM t pp 4).1 := ⟨_, rfl⟩
      obtain ⟨p2, hp2⟩ : ∃ p2, p2 = (nextM t pp 4).2 := ⟨_, rfl⟩
      rw [← hn, ← hp2]
      rw [← hn] at hq4
      rw [← hp2] at hp4
      simp only [go_sem, seval]
      repeat' ((first | with_reducible refine wr ?_ | ((with_reducible refine wb2 ?_ ?_) <;> (intro hb; try simp only [hb])) | fail) <;> try simp only [go_sem, seval])
      obtain ⟨e', he'⟩ : ∃ e' : Ent, e' = ⟨e.mode, e.trigger, e.index, (I.length : Int)⟩ := ⟨_, rfl⟩
      have hE' : cellsL ((E ++ [e']).map Ent.v) = cellsL (E.map Ent.v) ++ [I64 e.mode, I64 e.trigger, I64 e.index, I64 (I.length : Int)] := by rw [entC_snoc, he']
      refine i_loop (fun q : Nat × Option Nat => [(2, .ptr 0 0), (3, .ptr 1 0), (4, .ptr k 0), (5, entsV keysM), (6, I64 i), (8, I64 ((n - q.1 : Nat) : Int))]) (fun q => MH k t (mdB t q.1 (I, p2)).2 (strs mdS) (ints (mdP t)) (ints mdV) (mdB t q.1 (I, p2)).1 (E ++ [e']) q.2 (some (cc + 1 + 1)))
        (fun q c => MO k q.2 (some (cc + 1 + 1)) c ∧ q.1 ≤ n ∧ (q.2 = none → (mdB t q.1 (I, p2)).1 = [])) (fun q => n - q.1) (0, o1) (by simp [tmLe, tm, Tm.upd]) ?_ ?_ ?_
      · refine MH_sub (by repeat (first | exact MH_0 hO | rw [h_ne (by omega)] | rw [hd0])) h_same ?_ (fun j hj => ?_) (fun j hj => ?_)
        · rw [h_ne (by omega), h_same, List.length_append]; rfl
        · have := hO.a j hj
          rw [h_ne (by omega), h_ne (by omega), h_ne (by omega), hda _ j hj, h_ne (by omega), h_ne (by omega), h_ne (by omega), h_ne (by omega)]; exact MH_a hO hj
        · cases hj
          rw [h_ne (by omega), h_ne (by omega), h_same, hE']
      · exact ⟨⟨hk2, by omega, fun j hj => by have := hO.a j hj; omega, fun j hj => by cases hj; omega, fun j hj e => by cases e; have := hO.a _ hj; omega⟩, by simp, hn1⟩
      rintro ⟨j, oj⟩ cj ⟨hOj, hjn, hnj⟩
      simp only at hOj hjn hnj
      have hbl := mdB_len (l := t) (x := (I, p2)) j
      have hbp := mdB_pos (l := t) (x := (I, p2)) hp4 j
      simp only at hbl
      obtain ⟨Ij, hIj⟩ : ∃ x, x = (mdB t j (I, p2)).1 := ⟨_, rfl⟩
      obtain ⟨pj, hpj⟩ : ∃ x, x = (mdB t j (I, p2)).2 := ⟨_, rfl⟩
      simp only
      rw [← hIj, ← hpj]
      rw [← hIj] at hbl hnj
      rw [← hpj] at hbp
      have hDj := fun (p : Nat) => MH_k (l := t) (p := p) (S := strs mdS) (P := ints (mdP t)) (V := ints mdV) (I := Ij) (E := E ++ [e']) hOj
      have hltj := r_lentodo (o := oj) (n := Ij.length) (fun e => len_nil (hnj e))
      have hckj := hOj.kc
      by_cases hj0 : j < n
      · have hgj : decide (((n - j : Nat) : Int) > 0) = true := by simp; omega
        have hwj : IntKind.i64.wrap (((n - j : Nat) : Int) - 1) = ((n - (j + 1) : Nat) : Int) := by rw [w64 (by omega) (by omega)]; omega
        have f0 := MH_n (l := t) (p := pj) (S := strs mdS) (P := ints (mdP t)) (V := ints mdV) (I := Ij) (E := E ++ [e']) hOj (j := cj) (by omega)
        have f1 := MH_n (l := t) (p := pj) (S := strs mdS) (P := ints (mdP t)) (V := ints mdV) (I := Ij) (E := E ++ [e']) hOj (j := cj + 1) (by omega)
        have ne0 : ¬ 0 = k := by omega
        have ne1 : ¬ 0 = cj := by omega
        have ne2 : ¬ 0 = cj + 1 := by omega
        have ne3 : ¬ 1 = k := by omega
        have ne4 : ¬ 1 = cj := by omega
        have ne5 : ¬ 1 = cj + 1 := by omega
        have ne6 : ¬ k = 0 := by omega
        have ne7 : ¬ k = 1 := by omega
        have ne8 : ¬ k = cj := by omega
        have ne9 : ¬ k = cj + 1 := by omega
        have ne10 : ¬ cj = 0 := by omega
        have ne11 : ¬ cj = 1 := by omega
        have ne12 : ¬ cj = k := by omega
        have ne13 : ¬ cj = cj + 1 := by omega
        have ne14 : ¬ cj + 1 = 0 := by omega
        have ne15 : ¬ cj + 1 = 1 := by omega
        have ne16 : ¬ cj + 1 = k := by omega
        have ne17 : ¬ cj + 1 = cj := by omega
        repeat' ((first | with_reducible refine wr ?_ | ((with_reducible refine wb2 ?_ ?_) <;> (intro hb; try simp only [hb])) | fail) <;> try simp only [go_sem, seval, hgj, hDj, hltj, ne0, ne1, ne2, ne3, ne4, ne5, ne6, ne7, ne8, ne9, ne10, ne11, ne12, ne13, ne14, ne15, ne16, ne17])
        refine AC.call (c_stmt t (by omega) 2 (by omega) Ij.length pj (by omega) hbp _ _ 1 (MH_1 hOj) (by omega)) ?_
        rintro v H' c5 ⟨id, ia, ib, rfl, rfl⟩ hc5
        have hsl := stmtM_len t 2 Ij.length pj
        have hs1 : 1 ≤ (stmtM t 2 Ij.length pj).1.length := stmtM_ne
        have ne0 : ¬ 0 = k := by omega
        have ne1 : ¬ 0 = cj := by omega
        have ne2 : ¬ 0 = cj + 1 := by omega
        have ne3 : ¬ 0 = id := by omega
        have ne4 : ¬ 0 = c5 := by omega
        have ne5 : ¬ 1 = k := by omega
        have ne6 : ¬ 1 = cj := by omega
        have ne7 : ¬ 1 = cj + 1 := by omega
        have ne8 : ¬ 1 = id := by omega
        have ne9 : ¬ 1 = c5 := by omega
        have ne10 : ¬ k = 0 := by omega
        have ne11 : ¬ k = 1 := by omega
        have ne12 : ¬ k = cj := by omega
        have ne13 : ¬ k = cj + 1 := by omega
        have ne14 : ¬ k = id := by omega
        have ne15 : ¬ k = c5 := by omega
        have ne16 : ¬ cj = 0 := by omega
        have ne17 : ¬ cj = 1 := by omega
        have ne18 : ¬ cj = k := by omega
        have ne19 : ¬ cj = cj + 1 := by omega
        have ne20 : ¬ cj = id := by omega
        have ne21 : ¬ cj = c5 := by omega
        have ne22 : ¬ cj + 1 = 0 := by omega
        have ne23 : ¬ cj + 1 = 1 := by omega
        have ne24 : ¬ cj + 1 = k := by omega
        have ne25 : ¬ cj + 1 = cj := by omega
        have ne26 : ¬ cj + 1 = id := by omega
        have ne27 : ¬ cj + 1 = c5 := by omega
        have ne28 : ¬ id = 0 := by omega
        have ne29 : ¬ id = 1 := by omega
        have ne30 : ¬ id = k := by omega
        have ne31 : ¬ id = cj := by omega
        have ne32 : ¬ id = cj + 1 := by omega
        have ne33 : ¬ id = c5 := by omega
        have ne34 : ¬ c5 = 0 := by omega
        have ne35 : ¬ c5 = 1 := by omega
        have ne36 : ¬ c5 = k := by omega
        have ne37 : ¬ c5 = cj := by omega
        have ne38 : ¬ c5 = cj + 1 := by omega
        have ne39 : ¬ c5 = id := by omega
        have hl2 := insC_len2 (stmtM t 2 Ij.length pj).1
        have hle2 : (stmtM t 2 Ij.length pj).1.length * 2 ≤ (insC (stmtM t 2 Ij.length pj).1).length := by omega
        have htk := List.take_of_length_le (l := insC (stmtM t 2 Ij.length pj).1) (i := (stmtM t 2 Ij.length pj).1.length * 2) (by omega)
        have hdkj : ∀ X, delO X oj k = X k := fun X => delO_ne (fun i hi e => by have := hOj.a i hi; omega)
        simp only [go_sem, seval, f0, f1, hDj, hltj, hle2, htk, ne0, ne1, ne2, ne3, ne4, ne5, ne6, ne7, ne8, ne9, ne10, ne11, ne12, ne13, ne14, ne15, ne16, ne17, ne18, ne19, ne20, ne21, ne22, ne23, ne24, ne25, ne26, ne27, ne28, ne29, ne30, ne31, ne32, ne33, ne34, ne35, ne36, ne37, ne38, ne39]
        repeat' ((first | with_reducible refine wr ?_ | ((with_reducible refine wb2 ?_ ?_) <;> (intro hb; try simp only [hb])) | fail) <;> try simp only [go_sem, seval, f0, f1, hDj, hltj, hle2, htk, ne0, ne1, ne2, ne3, ne4, ne5, ne6, ne7, ne8, ne9, ne10, ne11, ne12, ne13, ne14, ne15, ne16, ne17, ne18, ne19, ne20, ne21, ne22, ne23, ne24, ne25, ne26, ne27, ne28, ne29, ne30, ne31, ne32, ne33, ne34, ne35, ne36, ne37, ne38, ne39])
        refine x_eval (r_apptodo (cs := insC Ij) (fun e => ⟨len_nil (hnj e), insC_nil (hnj e)⟩) (fun i hi => ?_) (insC_len2 Ij) (by omega) (by omega) (by omega)) ?_
        · have := hOj.a i hi
          rw [h_ne (by omega), h_ne (by omega)]; exact MH_a hOj hi
        simp only [go_sem, seval, hdkj, hDj, ne0, ne1, ne2, ne3, ne4, ne5, ne6, ne7, ne8, ne9, ne10, ne11, ne12, ne13, ne14, ne15, ne16, ne17, ne18, ne19, ne20, ne21, ne22, ne23, ne24, ne25, ne26, ne27, ne28, ne29, ne30, ne31, ne32, ne33, ne34, ne35, ne36, ne37, ne38, ne39]
        repeat' ((first | with_reducible refine wr ?_ | ((with_reducible refine wb2 ?_ ?_) <;> (intro hb; try simp only [hb])) | fail) <;> try simp only [go_sem, seval, hdkj, hDj, hwj, ne0, ne1, ne2, ne3, ne4, ne5, ne6, ne7, ne8, ne9, ne10, ne11, ne12, ne13, ne14, ne15, ne16, ne17, ne18, ne19, ne20, ne21, ne22, ne23, ne24, ne25, ne26, ne27, ne28, ne29, ne30, ne31, ne32, ne33, ne34, ne35, ne36, ne37, ne38, ne39])
        have hOb := hOj.b _ rfl
        have hd0j : ∀ X, delO X oj 0 = X 0 := fun X => delO_ne (fun i hi e => by have := hOj.a i hi; omega)
        have hd1j : ∀ X, delO X oj 1 = X 1 := fun X => delO_ne (fun i hi e => by have := hOj.a i hi; omega)
        have hdej : ∀ X, delO X oj (cc + 1 + 1) = X (cc + 1 + 1) := fun X => delO_ne (fun i hi e => hOj.ne i hi (by rw [← e]))
        have m1 : (mdB t (j + 1) (I, p2)).1 = Ij ++ (stmtM t 2 Ij.length pj).1 := by simp only [mdB]; rw [← hIj, ← hpj]
        have m2 : (mdB t (j + 1) (I, p2)).2 = (stmtM t 2 Ij.length pj).2 := by simp only [mdB]; rw [← hIj, ← hpj]
        refine ⟨(j + 1, some c5), rfl, ?_, inv ⟨⟨hk2, by omega, fun i hi => by cases hi; omega, fun i hi => by cases hi; omega, fun i hi e => by cases hi; cases e; omega⟩, hj0, by simp⟩, by simp only; omega⟩
        simp only [m1, m2]
        refine MH_sub ?_ ?_ ?_ (fun i hi => ?_) (fun i hi => ?_)
        · rw [h_ne (by omega), h_ne (by omega), hd0j, h_ne (by omega), h_ne (by omega)]; exact MH_0 hOj
        · rw [h_ne (by omega), h_ne (by omega), hd1j, h_ne (by omega), h_same]
        · rw [h_same]; simp only [todo_s, List.length_append, List.length_singleton]
        · cases hi; rw [h_ne (by omega), h_same, insC_app]
        · cases hi; rw [h_ne (by omega), h_ne (by omega), hdej, h_ne (by omega), h_ne (by omega)]; exact MH_b rfl
      · have hjn2 : j = n := by omega
        have hgj : decide (((n - j : Nat) : Int) > 0) = false := by simp; omega
        have hdkj : ∀ X, delO X oj k = X k := fun X => delO_ne (fun i hi e => by have := hOj.a i hi; omega)
        have ne0 : ¬ 0 = k := by omega
        have ne1 : ¬ 0 = cj := by omega
        have ne2 : ¬ 0 = cj + 1 := by omega
        have ne3 : ¬ 1 = k := by omega
        have ne4 : ¬ 1 = cj := by omega
        have ne5 : ¬ 1 = cj + 1 := by omega
        have ne6 : ¬ k = 0 := by omega
        have ne7 : ¬ k = 1 := by omega
        have ne8 : ¬ k = cj := by omega
        have ne9 : ¬ k = cj + 1 := by omega
        have ne10 : ¬ cj = 0 := by omega
        have ne11 : ¬ cj = 1 := by omega
        have ne12 : ¬ cj = k := by omega
        have ne13 : ¬ cj = cj + 1 := by omega
        have ne14 : ¬ cj + 1 = 0 := by omega
        have ne15 : ¬ cj + 1 = 1 := by omega
        have ne16 : ¬ cj + 1 = k := by omega
        have ne17 : ¬ cj + 1 = cj := by omega
        repeat' ((first | with_reducible refine wr ?_ | ((with_reducible refine wb2 ?_ ?_) <;> (intro hb; try simp only [hb])) | fail) <;> try simp only [go_sem, seval, hgj, hDj, ne0, ne1, ne2, ne3, ne4, ne5, ne6, ne7, ne8, ne9, ne10, ne11, ne12, ne13, ne14, ne15, ne16, ne17])
        refine k_eval (r_apptodo (cs := insC Ij) (fun e => ⟨len_nil (hnj e), insC_nil (hnj e)⟩) (fun i hi => ?_) (insC_len2 Ij) (by omega) (by omega) (by omega)) ?_
        · have := hOj.a i hi
          rw [h_ne (by omega)]; exact MH_a hOj hi
        simp only [go_sem, seval, hdkj, hDj, ne0, ne1, ne2, ne3, ne4, ne5, ne6, ne7, ne8, ne9, ne10, ne11, ne12, ne13, ne14, ne15, ne16, ne17]
        repeat' ((first | with_reducible refine wr ?_ | ((with_reducible refine wb2 ?_ ?_) <;> (intro hb; try simp only [hb])) | fail) <;> try simp only [go_sem, seval, hdkj, hDj, hw, ne0, ne1, ne2, ne3, ne4, ne5, ne6, ne7, ne8, ne9, ne10, ne11, ne12, ne13, ne14, ne15, ne16, ne17])
        have hOb := hOj.b _ rfl
        have hd0j : ∀ X, delO X oj 0 = X 0 := fun X => delO_ne (fun i hi e => by have := hOj.a i hi; omega)
        have hd1j : ∀ X, delO X oj 1 = X 1 := fun X => delO_ne (fun i hi e => by have := hOj.a i hi; omega)
        have hdej : ∀ X, delO X oj (cc + 1 + 1) = X (cc + 1 + 1) := fun X => delO_ne (fun i hi e => hOj.ne i hi (by rw [← e]))
        have M1 : (mdK t (i + 1)).I = Ij ++ [⟨31, 0⟩] := by rw [hmd2]; simp only [mdH]; rw [← hn, ← hp2, ← hjn2, ← hIj]
        have M2 : (mdK t (i + 1)).E = E ++ [e'] := by rw [hmd2, he']; rfl
        have M3 : (mdK t (i + 1)).p = pj := by rw [hmd2]; simp only [mdH]; rw [← hn, ← hp2, ← hjn2, ← hpj]
        refine ⟨(i + 1, some (cj + 1), some (cc + 1 + 1)), rfl, ?_, inv ⟨⟨hk2, by omega, fun i hi => by cases hi; omega, fun i hi => by cases hi; omega, fun i hi e => by cases hi; cases e; omega⟩, hlt, by simp, by simp, by simp⟩, by simp only; omega⟩
        simp only [M1, M2, M3]
        refine MH_sub ?_ ?_ ?_ (fun i hi => ?_) (fun i hi => ?_)
        · rw [h_ne (by omega), h_ne (by omega), hd0j, h_ne (by omega)]; exact MH_0 hOj
        · rw [h_ne (by omega), h_ne (by omega), hd1j, h_ne (by omega)]; exact MH_1 hOj
        · rw [h_same]; simp only [todo_s, List.length_append, List.length_singleton]
        · cases hi; rw [h_ne (by omega), h_same, insC_app, insC_one]
        · cases hi; rw [h_ne (by omega), h_ne (by omega), hdej, h_ne (by omega)]; exact MH_b rfl
    · have hgt : decide ((i : Int) > 0) = true := by simp; omega
      repeat' ((first | with_reducible refine wr ?_ | ((with_reducible refine wb2 ?_ ?_) <;> (intro hb; try simp only [hb])) | fail) <;> try simp only [go_sem, seval, hkl, hd, hgt])
      refine AC.call (c_next t (by omega) p B1 2 (by omega) (by omega) _ _ 1 (MH_1 hO) (by have := hO.kc; have := hO.k2; omega)) ?_
      rintro v H' c3 ⟨rfl, rfl⟩ hc3
      rw [MH_t hO]
      replace hO := hO.mono hc3
      by_cases hz : (nextM t p 2).1 = 0
      · have hz1 : (((nextM t p 2).1 : Int) == 0) = true := by simp [hz]
        have hmd2 : mdK t (i + 1) = ⟨I, E, (nextM t p 2).2⟩ := by rw [hmd, mdI, if_neg hi0, if_pos hz]
        simp only [go_sem, seval, hz1]
        repeat' ((first | with_reducible refine wr ?_ | ((with_reducible refine wb2 ?_ ?_) <;> (intro hb; try simp only [hb])) | fail) <;> try simp only [go_sem, seval, hz1, hw])
        refine ⟨(i + 1, o1, o2), rfl, ?_, inv ⟨hO, hlt, ?_, ?_, fun _ => hne hi0⟩, by simp only; omega⟩
        · simp only [hmd2]; exact Sub.refl _
        · simp only [hmd2]; exact hn1
        · simp only [hmd2]; exact hn2
      · have hz1 : (((nextM t p 2).1 : Int) == 0) = false := by simp [hz]
        obtain ⟨pp, hpp⟩ : ∃ pp, pp = (nextM t p 2).2 := ⟨_, rfl⟩
        have hmd2 : mdK t (i + 1) = mdH t e ⟨I, E, p⟩ pp := by rw [hmd, mdI, if_neg hi0, if_neg hz, hpp]
        have Hpp : pp ≤ t.length := by rw [hpp]; exact nextM_le B1
        rw [← hpp]
        have hlt1 := r_lentodo (o := o1) (n := I.length) (fun e => len_nil (hn1 e))
        have hD := fun (p : Nat) => MH_k (l := t) (p := p) (S := strs mdS) (P := ints (mdP t)) (V := ints mdV) (I := I) (E := E) hO
        have hcc := hO.kc
        have hk2 := hO.k2
        have hdk : ∀ X, delO X o2 k = X k := fun X => delO_ne (fun i hi e => by have := hO.b i hi; omega)
        have hd1 : ∀ X, delO X o2 1 = X 1 := fun X => delO_ne (fun i hi e => by have := hO.b i hi; omega)
        have hd0 : ∀ X, delO X o2 0 = X 0 := fun X => delO_ne (fun i hi e => by have := hO.b i hi; omega)
        have hda : ∀ X j, o1 = some j → delO X o2 j = X j := fun X j hj => delO_ne (fun i hi e => hO.ne j hj (by rw [e]; exact hi))
        have ne0 : ¬ 0 = k := by omega
        have ne1 : ¬ 0 = c3 := by omega
        have ne2 : ¬ 0 = c3 + 1 := by omega
        have ne3 : ¬ 0 = c3 + 2 := by omega
        have ne4 : ¬ 1 = k := by omega
        have ne5 : ¬ 1 = c3 := by omega
        have ne6 : ¬ 1 = c3 + 1 := by omega
        have ne7 : ¬ 1 = c3 + 2 := by omega
        have ne8 : ¬ k = 0 := by omega
        have ne9 : ¬ k = 1 := by omega
        have ne10 : ¬ k = c3 := by omega
        have ne11 : ¬ k = c3 + 1 := by omega
        have ne12 : ¬ k = c3 + 2 := by omega
        have ne13 : ¬ c3 = 0 := by omega
        have ne14 : ¬ c3 = 1 := by omega
        have ne15 : ¬ c3 = k := by omega
        have ne16 : ¬ c3 = c3 + 1 := by omega
        have ne17 : ¬ c3 = c3 + 2 := by omega
        have ne18 : ¬ c3 + 1 = 0 := by omega
        have ne19 : ¬ c3 + 1 = 1 := by omega
        have ne20 : ¬ c3 + 1 = k := by omega
        have ne21 : ¬ c3 + 1 = c3 := by omega
        have ne22 : ¬ c3 + 1 = c3 + 2 := by omega
        have ne23 : ¬ c3 + 2 = 0 := by omega
        have ne24 : ¬ c3 + 2 = 1 := by omega
        have ne25 : ¬ c3 + 2 = k := by omega
        have ne26 : ¬ c3 + 2 = c3 := by omega
        have ne27 : ¬ c3 + 2 = c3 + 1 := by omega
        simp only [go_sem, seval, hz1, hkl, hg, hlt1, hD, ne0, ne1, ne2, ne3, ne4, ne5, ne6, ne7, ne8, ne9, ne10, ne11, ne12, ne13, ne14, ne15, ne16, ne17, ne18, ne19, ne20, ne21, ne22, ne23, ne24, ne25, ne26, ne27]
        repeat' ((first | with_reducible refine wr ?_ | ((with_reducible refine wb2 ?_ ?_) <;> (intro hb; try simp only [hb])) | fail) <;> try simp only [go_sem, seval, hz1, hkl, hd, hg, hlt1, hD, ne0, ne1, ne2, ne3, ne4, ne5, ne6, ne7, ne8, ne9, ne10, ne11, ne12, ne13, ne14, ne15, ne16, ne17, ne18, ne19, ne20, ne21, ne22, ne23, ne24, ne25, ne26, ne27])
        refine k_eval (r_apptodo (cs := cellsL (E.map Ent.v)) (fun e => ⟨len_nil (hn2 e), entC_nil (hn2 e)⟩) (fun i hi => ?_) (entC_len' E) (by omega) (by omega) (by omega)) ?_
        · have := hO.b i hi
          rw [h_ne (by omega), h_ne (by omega), h_ne (by omega), h_ne (by omega)]; exact MH_b hi
        simp only [go_sem, seval, hdk, hD, ne0, ne1, ne2, ne3, ne4, ne5, ne6, ne7, ne8, ne9, ne10, ne11, ne12, ne13, ne14, ne15, ne16, ne17, ne18, ne19, ne20, ne21, ne22, ne23, ne24, ne25, ne26, ne27]
        repeat' ((first | with_reducible refine wr ?_ | ((with_reducible refine wb2 ?_ ?_) <;> (intro hb; try simp only [hb])) | fail) <;> try simp only [go_sem, seval, hdk, hD, ne0, ne1, ne2, ne3, ne4, ne5, ne6, ne7, ne8, ne9, ne10, ne11, ne12, ne13, ne14, ne15, ne16, ne17, ne18, ne19, ne20, ne21, ne22, ne23, ne24, ne25, ne26, ne27])
        refine AC.call (c_next t (by omega) pp Hpp 4 (by omega) (by omega) _ _ 1 (by repeat (first | exact MH_1 hO | rw [h_ne (by omega)] | rw [hd1])) (by omega)) ?_
        rintro v H' c4 ⟨rfl, rfl⟩ hc4
        have hq4 := nextM_lt (l := t) (p := pp) (n := 4) (by omega)
        have hp4 := nextM_le (l := t) (p := pp) (n := 4) Hpp
        obtain ⟨n, hn⟩ : ∃ n, n = (nextM t pp 4).1 := ⟨_, rfl⟩
        obtain ⟨p2, hp2⟩ : ∃ p2, p2 = (nextM t pp 4).2 := ⟨_, rfl⟩
        rw [← hn, ← hp2]
        rw [← hn] at hq4
        rw [← hp2] at hp4
        simp only [go_sem, seval]
        repeat' ((first | with_reducible refine wr ?_ | ((with_reducible refine wb2 ?_ ?_) <;> (intro hb; try simp only [hb])) | fail) <;> try simp only [go_sem, seval])
        obtain ⟨e', he'⟩ : ∃ e' : Ent, e' = ⟨e.mode, e.trigger, e.index, (I.length : Int)⟩ := ⟨_, rfl⟩
        have hE' : cellsL ((E ++ [e']).map Ent.v) = cellsL (E.map Ent.v) ++ [I64 e.mode, I64 e.trigger, I64 e.index, I64 (I.length : Int)] := by rw [entC_snoc, he']
        refine i_loop (fun q : Nat × Option Nat => [(2, .ptr 0 0), (3, .ptr 1 0), (4, .ptr k 0), (5, entsV keysM), (6, I64 i), (8, I64 ((n - q.1 : Nat) : Int))]) (fun q => MH k t (mdB t q.1 (I, p2)).2 (strs mdS) (ints (mdP t)) (ints mdV) (mdB t q.1 (I, p2)).1 (E ++ [e']) q.2 (some (c3 + 1 + 1)))
          (fun q c => MO k q.2 (some (c3 + 1 + 1)) c ∧ q.1 ≤ n ∧ (q.2 = none → (mdB t q.1 (I, p2)).1 = [])) (fun q => n - q.1) (0, o1) (by simp [tmLe, tm, Tm.upd]) ?_ ?_ ?_
        · refine MH_sub (by repeat (first | exact MH_0 hO | rw [h_ne (by omega)] | rw [hd0])) h_same ?_ (fun j hj => ?_) (fun j hj => ?_)
          · rw [h_ne (by omega), h_same, List.length_append]; rfl
          · have := hO.a j hj
            rw [h_ne (by omega), h_ne (by omega), h_ne (by omega), hda _ j hj, h_ne (by omega), h_ne (by omega), h_ne (by omega), h_ne (by omega)]; exact MH_a hO hj
          · cases hj
            rw [h_ne (by omega), h_ne (by omega), h_same, hE']
        · exact ⟨⟨hk2, by omega, fun j hj => by have := hO.a j hj; omega, fun j hj => by cases hj; omega, fun j hj e => by cases e; have := hO.a _ hj; omega⟩, by simp, hn1⟩
        rintro ⟨j, oj⟩ cj ⟨hOj, hjn, hnj⟩
        simp only at hOj hjn hnj
        have hbl := mdB_len (l := t) (x := (I, p2)) j
        have hbp := mdB_pos (l := t) (x := (I, p2)) hp4 j
        simp only at hbl
        obtain ⟨Ij, hIj⟩ : ∃ x, x = (mdB t j (I, p2)).1 := ⟨_, rfl⟩
        obtain ⟨pj, hpj⟩ : ∃ x, x = (mdB t j (I, p2)).2 := ⟨_, rfl⟩
        simp only
        rw [← hIj, ← hpj]
        rw [← hIj] at hbl hnj
        rw [← hpj] at hbp
        have hDj := fun (p : Nat) => MH_k (l := t) (p := p) (S := strs mdS) (P := ints (mdP t)) (V := ints mdV) (I := Ij) (E := E ++ [e']) hOj
        have hltj := r_lentodo (o := oj) (n := Ij.length) (fun e => len_nil (hnj e))
        have hckj := hOj.kc
        by_cases hj0 : j < n
        · have hgj : decide (((n - j : Nat) : Int) > 0) = true := by simp; omega
          have hwj : IntKind.i64.wrap (((n - j : Nat) : Int) - 1) = ((n - (j + 1) : Nat) : Int) := by rw [w64 (by omega) (by omega)]; omega
          have f0 := MH_n (l := t) (p := pj) (S := strs mdS) (P := ints (mdP t)) (V := ints mdV) (I := Ij) (E := E ++ [e']) hOj (j := cj) (by omega)
          have f1 := MH_n (l := t) (p := pj) (S := strs mdS) (P := ints (mdP t)) (V := ints mdV) (I := Ij) (E := E ++ [e']) hOj (j := cj + 1) (by omega)
          have ne0 : ¬ 0 = k := by omega
          have ne1 : ¬ 0 = cj := by omega
          have ne2 : ¬ 0 = cj + 1 := by omega
          have ne3 : ¬ 1 = k := by omega
          have ne4 : ¬ 1 = cj := by omega
          have ne5 : ¬ 1 = cj + 1 := by omega
          have ne6 : ¬ k = 0 := by omega
          have ne7 : ¬ k = 1 := by omega
          have ne8 : ¬ k = cj := by omega
          have ne9 : ¬ k = cj + 1 := by omega
          have ne10 : ¬ cj = 0 := by omega
          have ne11 : ¬ cj = 1 := by omega
          have ne12 : ¬ cj = k := by omega
          have ne13 : ¬ cj = cj + 1 := by omega
          have ne14 : ¬ cj + 1 = 0 := by omega
          have ne15 : ¬ cj + 1 = 1 := by omega
          have ne16 : ¬ cj + 1 = k := by omega
          have ne17 : ¬ cj + 1 = cj := by omega
          repeat' ((first | with_reducible refine wr ?_ | ((with_reducible refine wb2 ?_ ?_) <;> (intro hb; try simp only [hb])) | fail) <;> try simp only [go_sem, seval, hgj, hDj, hltj, ne0, ne1, ne2, ne3, ne4, ne5, ne6, ne7, ne8, ne9, ne10, ne11, ne12, ne13, ne14, ne15, ne16, ne17])
          refine AC.call (c_stmt t (by omega) 2 (by omega) Ij.length pj (by omega) hbp _ _ 1 (MH_1 hOj) (by omega)) ?_
          rintro v H' c5 ⟨id, ia, ib, rfl, rfl⟩ hc5
          have hsl := stmtM_len t 2 Ij.length pj
          have hs1 : 1 ≤ (stmtM t 2 Ij.length pj).1.length := stmtM_ne
          have ne0 : ¬ 0 = k := by omega
          have ne1 : ¬ 0 = cj := by omega
          have ne2 : ¬ 0 = cj + 1 := by omega
          have ne3 : ¬ 0 = id := by omega
          have ne4 : ¬ 0 = c5 := by omega
          have ne5 : ¬ 1 = k := by omega
          have ne6 : ¬ 1 = cj := by omega
          have ne7 : ¬ 1 = cj + 1 := by omega
          have ne8 : ¬ 1 = id := by omega
          have ne9 : ¬ 1 = c5 := by omega
          have ne10 : ¬ k = 0 := by omega
          have ne11 : ¬ k = 1 := by omega
          have ne12 : ¬ k = cj := by omega
          have ne13 : ¬ k = cj + 1 := by omega
          have ne14 : ¬ k = id := by omega
          have ne15 : ¬ k = c5 := by omega
          have ne16 : ¬ cj = 0 := by omega
          have ne17 : ¬ cj = 1 := by omega
          have ne18 : ¬ cj = k := by omega
          have ne19 : ¬ cj = cj + 1 := by omega
          have ne20 : ¬ cj = id := by omega
          have ne21 : ¬ cj = c5 := by omega
          have ne22 : ¬ cj + 1 = 0 := by omega
          have ne23 : ¬ cj + 1 = 1 := by omega
          have ne24 : ¬ cj + 1 = k := by omega
          have ne25 : ¬ cj + 1 = cj := by omega
          have ne26 : ¬ cj + 1 = id := by omega
          have ne27 : ¬ cj + 1 = c5 := by omega
          have ne28 : ¬ id = 0 := by omega
          have ne29 : ¬ id = 1 := by omega
          have ne30 : ¬ id = k := by omega
          have ne31 : ¬ id = cj := by omega
          have ne32 : ¬ id = cj + 1 := by omega
          have ne33 : ¬ id = c5 := by omega
          have ne34 : ¬ c5 = 0 := by omega
          have ne35 : ¬ c5 = 1 := by omega
          have ne36 : ¬ c5 = k := by omega
          have ne37 : ¬ c5 = cj := by omega
          have ne38 : ¬ c5 = cj + 1 := by omega
          have ne39 : ¬ c5 = id := by omega
          have hl2 := insC_len2 (stmtM t 2 Ij.length pj).1
          have hle2 : (stmtM t 2 Ij.length pj).1.length * 2 ≤ (insC (stmtM t 2 Ij.length pj).1).length := by omega
          have htk := List.take_of_length_le (l := insC (stmtM t 2 Ij.length pj).1) (i := (stmtM t 2 Ij.length pj).1.length * 2) (by omega)
          have hdkj : ∀ X, delO X oj k = X k := fun X => delO_ne (fun i hi e => by have := hOj.a i hi; omega)
          simp only [go_sem, seval, f0, f1, hDj, hltj, hle2, htk, ne0, ne1, ne2, ne3, ne4, ne5, ne6, ne7, ne8, ne9, ne10, ne11, ne12, ne13, ne14, ne15, ne16, ne17, ne18, ne19, ne20, ne21, ne22, ne23, ne24, ne25, ne26, ne27, ne28, ne29, ne30, ne31, ne32, ne33, ne34, ne35, ne36, ne37, ne38, ne39]
          repeat' ((first | with_reducible refine wr ?_ | ((with_reducible refine wb2 ?_ ?_) <;> (intro hb; try simp only [hb])) | fail) <;> try simp only [go_sem, seval, f0, f1, hDj, hltj, hle2, htk, ne0, ne1, ne2, ne3, ne4, ne5, ne6, ne7, ne8, ne9, ne10, ne11, ne12, ne13, ne14, ne15, ne16, ne17, ne18, ne19, ne20, ne21, ne22, ne23, ne24, ne25, ne26, ne27, ne28, ne29, ne30, ne31, ne32, ne33, ne34, ne35, ne36, ne37, ne38, ne39])
          refine x_eval (r_apptodo (cs := insC Ij) (fun e => ⟨len_nil (hnj e), insC_nil (hnj e)⟩) (fun i hi => ?_) (insC_len2 Ij) (by omega) (by omega) (by omega)) ?_
          · have := hOj.a i hi
            rw [h_ne (by omega), h_ne (by omega)]; exact MH_a hOj hi
          simp only [go_sem, seval, hdkj, hDj, ne0, ne1, ne2, ne3, ne4, ne5, ne6, ne7, ne8, ne9, ne10, ne11, ne12, ne13, ne14, ne15, ne16, ne17, ne18, ne19, ne20, ne21, ne22, ne23, ne24, ne25, ne26, ne27, ne28, ne29, ne30, ne31, ne32, ne33, ne34, ne35, ne36, ne37, ne38, ne39]
          repeat' ((first | with_reducible refine wr ?_ | ((with_reducible refine wb2 ?_ ?_) <;> (intro hb; try simp only [hb])) | fail) <;> try simp only [go_sem, seval, hdkj, hDj, hwj, ne0, ne1, ne2, ne3, ne4, ne5, ne6, ne7, ne8, ne9, ne10, ne11, ne12, ne13, ne14, ne15, ne16, ne17, ne18, ne19, ne20, ne21, ne22, ne23, ne24, ne25, ne26, ne27, ne28, ne29, ne30, ne31, ne32, ne33, ne34, ne35, ne36, ne37, ne38, ne39])
          have hOb := hOj.b _ rfl
          have hd0j : ∀ X, delO X oj 0 = X 0 := fun X => delO_ne (fun i hi e => by have := hOj.a i hi; omega)
          have hd1j : ∀ X, delO X oj 1 = X 1 := fun X => delO_ne (fun i hi e => by have := hOj.a i hi; omega)
          have hdej : ∀ X, delO X oj (c3 + 1 + 1) = X (c3 + 1 + 1) := fun X => delO_ne (fun i hi e => hOj.ne i hi (by rw [← e]))
          have m1 : (mdB t (j + 1) (I, p2)).1 = Ij ++ (stmtM t 2 Ij.length pj).1 := by simp only [mdB]; rw [← hIj, ← hpj]
          have m2 : (mdB t (j + 1) (I, p2)).2 = (stmtM t 2 Ij.length pj).2 := by simp only [mdB]; rw [← hIj, ← hpj]
          refine ⟨(j + 1, some c5), rfl, ?_, inv ⟨⟨hk2, by omega, fun i hi => by cases hi; omega, fun i hi => by cases hi; omega, fun i hi e => by cases hi; cases e; omega⟩, hj0, by simp⟩, by simp only; omega⟩
          simp only [m1, m2]
          refine MH_sub ?_ ?_ ?_ (fun i hi => ?_) (fun i hi => ?_)
          · rw [h_ne (by omega), h_ne (by omega), hd0j, h_ne (by omega), h_ne (by omega)]; exact MH_0 hOj
          · rw [h_ne (by omega), h_ne (by omega), hd1j, h_ne (by omega), h_same]
          · rw [h_same]; simp only [todo_s, List.length_append, List.length_singleton]
          · cases hi; rw [h_ne (by omega), h_same, insC_app]
          · cases hi; rw [h_ne (by omega), h_ne (by omega), hdej, h_ne (by omega), h_ne (by omega)]; exact MH_b rfl
        · have hjn2 : j = n := by omega
          have hgj : decide (((n - j : Nat) : Int) > 0) = false := by simp; omega
          have hdkj : ∀ X, delO X oj k = X k := fun X => delO_ne (fun i hi e => by have := hOj.a i hi; omega)
          have ne0 : ¬ 0 = k := by omega
          have ne1 : ¬ 0 = cj := by omega
          have ne2 : ¬ 0 = cj + 1 := by omega
          have ne3 : ¬ 1 = k := by omega
          have ne4 : ¬ 1 = cj := by omega
          have ne5 : ¬ 1 = cj + 1 := by omega
          have ne6 : ¬ k = 0 := by omega
          have ne7 : ¬ k = 1 := by omega
          have ne8 : ¬ k = cj := by omega
          have ne9 : ¬ k = cj + 1 := by omega
          have ne10 : ¬ cj = 0 := by omega
          have ne11 : ¬ cj = 1 := by omega
          have ne12 : ¬ cj = k := by omega
          have ne13 : ¬ cj = cj + 1 := by omega
          have ne14 : ¬ cj + 1 = 0 := by omega
          have ne15 : ¬ cj + 1 = 1 := by omega
          have ne16 : ¬ cj + 1 = k := by omega
          have ne17 : ¬ cj + 1 = cj := by omega
          repeat' ((first | with_reducible refine wr ?_ | ((with_reducible refine wb2 ?_ ?_) <;> (intro hb; try simp only [hb])) | fail) <;> try simp only [go_sem, seval, hgj, hDj, ne0, ne1, ne2, ne3, ne4, ne5, ne6, ne7, ne8, ne9, ne10, ne11, ne12, ne13, ne14, ne15, ne16, ne17])
          refine k_eval (r_apptodo (cs := insC Ij) (fun e => ⟨len_nil (hnj e), insC_nil (hnj e)⟩) (fun i hi => ?_) (insC_len2 Ij) (by omega) (by omega) (by omega)) ?_
          · have := hOj.a i hi
            rw [h_ne (by omega)]; exact MH_a hOj hi
          simp only [go_sem, seval, hdkj, hDj, ne0, ne1, ne2, ne3, ne4, ne5, ne6, ne7, ne8, ne9, ne10, ne11, ne12, ne13, ne14, ne15, ne16, ne17]
          repeat' ((first | with_reducible refine wr ?_ | ((with_reducible refine wb2 ?_ ?_) <;> (intro hb; try simp only [hb])) | fail) <;> try simp only [go_sem, seval, hdkj, hDj, hw, ne0, ne1, ne2, ne3, ne4, ne5, ne6, ne7, ne8, ne9, ne10, ne11, ne12, ne13, ne14, ne15, ne16, ne17])
          have hOb := hOj.b _ rfl
          have hd0j : ∀ X, delO X oj 0 = X 0 := fun X => delO_ne (fun i hi e => by have := hOj.a i hi; omega)
          have hd1j : ∀ X, delO X oj 1 = X 1 := fun X => delO_ne (fun i hi e => by have := hOj.a i hi; omega)
          have hdej : ∀ X, delO X oj (c3 + 1 + 1) = X (c3 + 1 + 1) := fun X => delO_ne (fun i hi e => hOj.ne i hi (by rw [← e]))
          have M1 : (mdK t (i + 1)).I = Ij ++ [⟨31, 0⟩] := by rw [hmd2]; simp only [mdH]; rw [← hn, ← hp2, ← hjn2, ← hIj]
          have M2 : (mdK t (i + 1)).E = E ++ [e'] := by rw [hmd2, he']; rfl
          have M3 : (mdK t (i + 1)).p = pj := by rw [hmd2]; simp only [mdH]; rw [← hn, ← hp2, ← hjn2, ← hpj]
          refine ⟨(i + 1, some (cj + 1), some (c3 + 1 + 1)), rfl, ?_, inv ⟨⟨hk2, by omega, fun i hi => by cases hi; omega, fun i hi => by cases hi; omega, fun i hi e => by cases hi; cases e; omega⟩, hlt, by simp, by simp, by simp⟩, by simp only; omega⟩
          simp only [M1, M2, M3]
          refine MH_sub ?_ ?_ ?_ (fun i hi => ?_) (fun i hi => ?_)
          · rw [h_ne (by omega), h_ne (by omega), hd0j, h_ne (by omega)]; exact MH_0 hOj
          · rw [h_ne (by omega), h_ne (by omega), hd1j, h_ne (by omega)]; exact MH_1 hOj
          · rw [h_same]; simp only [todo_s, List.length_append, List.length_singleton]
          · cases hi; rw [h_ne (by omega), h_same, insC_app, insC_one]
          · cases hi; rw [h_ne (by omega), h_ne (by omega), hdej, h_ne (by omega)]; exact MH_b rfl
  · have hi : i = 9 := by omega
    have hd : decide ((i : Int) < 9) = false := by simp; omega
    obtain ⟨n1, n2⟩ := hne (by omega)
    have hD := MH_k (l := t) (p := (mdK t i).p) (S := strs mdS) (P := ints (mdP t)) (V := ints mdV) (I := (mdK t i).I) (E := (mdK t i).E) hO
    have hD0 := MH_0 (l := t) (p := (mdK t i).p) (S := strs mdS) (P := ints (mdP t)) (V := ints mdV) (I := (mdK t i).I) (E := (mdK t i).E) hO
    rcases o1 with _ | a
    · exact absurd rfl n1
    rcases o2 with _ | b
    · exact absurd rfl n2
    have hDa := MH_a (l := t) (p := (mdK t i).p) (S := strs mdS) (P := ints (mdP t)) (V := ints mdV) (I := (mdK t i).I) (E := (mdK t i).E) hO rfl
    have hDb := MH_b (k := k) (l := t) (p := (mdK t i).p) (S := strs mdS) (P := ints (mdP t)) (V := ints mdV) (I := (mdK t i).I) (E := (mdK t i).E) (o1 := some a) (o2 := some b) rfl
    simp only [todo_s] at hD
    repeat' ((first | with_reducible refine wr ?_ | ((with_reducible refine wb2 ?_ ?_) <;> (intro hb; try simp only [hb])) | fail) <;> try simp only [go_sem, seval, hkl, hd, hD, hD0])
    rw [k_rv (v := .agg [.slc a 0 (mdK t i).I.length, strs mdS, .slc b 0 (mdK t i).E.length, ints (mdP t), ints mdV, I64 2, I64 2]) rfl]
    have ha := hO.a a rfl
    have hb := hO.b b rfl
    have hab : ¬ a = b := fun e => hO.ne a rfl (by rw [e])
    have hm : madeM l = madeT t := by rw [madeM, ht]
    have hr : DV.agg [inssV (mdK t i).I, strs mdS, entsV (mdK t i).E, ints (mdP t), ints mdV, I64 2, I64 2] = (madeM l).v := by rw [hm, hi]; rfl
    rw [← hr]
    refine ⟨_, (g_one (a := a) (k := 0) (u := 2) (u' := 2) (pre := []) (suf := [strs mdS, .slc b 0 (mdK t i).E.length, ints (mdP t), ints mdV, I64 2, I64 2]) (xs := (mdK t i).I.map Ins.v) (junk := []) h_same (by rw [h_ne (by omega), List.append_nil]; exact hDa) (by simp [DV.one]) (by simp) (ins_unit _) (by omega)).trans
      (g_one (a := b) (k := 0) (u := 4) (u' := 4) (pre := [inssV (mdK t i).I, strs mdS]) (suf := [ints (mdP t), ints mdV, I64 2, I64 2]) (xs := (mdK t i).E.map Ent.v) (junk := []) h_same (by rw [h_ne (by omega), h_dne (Ne.symm hab), h_ne (by omega), List.append_nil]; exact hDb) (by simp [DV.one]) (by simp) (ent_unit _) (by omega))⟩
end Go.Proofs.YtcallbfckjlagaaDoor
set_option linter.unusedVariables false
set_option linter.unusedSimpArgs false
namespace Go.Pb
open Go.Sym
def mc0 : Prg := ⟨[], mdS, [], [0, 0], mdV, 2, 2⟩
def Ok1 (i : Ins) : Prop := numberM mc0 i = true ∧ (isJ i.op = true → 0 ≤ i.A)
def Ok2 (i : Ins) (p : Nat) (z : Int) (to : Nat × Int → Prop) : Prop := Ok1 i ∧ z ≤ 48 ∧ (effM i.op).1 ≤ z ∧ ¬(i.op = 31 ∧ z ≠ 0) ∧ ∀ s ∈ afterM i p z, to s
def Sg (b : Nat) (L : List Ins) (x y : Int) : Prop :=
  ∃ hs : List Int, hs.length = L.length ∧ (hs ++ [y])[0]? = some x ∧ ∀ (j : Nat) i z, L[j]? = some i → hs[j]? = some z → Ok2 i (b + j) z fun s => b ≤ s.1 ∧ (hs ++ [y])[s.1 - b]? = some s.2
theorem Ok2.mono {i : Ins} {p : Nat} {z : Int} {to to' : Nat × Int → Prop} (h : Ok2 i p z to) (k : ∀ s, to s → to' s) : Ok2 i p z to' :=
  ⟨h.1, h.2.1, h.2.2.1, h.2.2.2.1, fun s hs => k s (h.2.2.2.2 s hs)⟩
theorem Sg.app {b : Nat} {L M : List Ins} {x y z : Int} (h : Sg b L x y) (k : Sg (b + L.length) M y z) : Sg b (L ++ M) x z := by
  obtain ⟨hs, l1, s1, o1⟩ := h
  obtain ⟨ks, l2, s2, o2⟩ := k
  have key : ∀ (n : Nat) (w : Int), (hs ++ [y])[n]? = some w → (hs ++ ks ++ [z])[n]? = some w := by
    intro n w hn
    by_cases h1 : n < hs.length
    · rw [List.getElem?_append_left h1] at hn
      rw [List.append_assoc, List.getElem?_append_left h1]; exact hn
    · rw [List.getElem?_append_right (by omega)] at hn
      obtain ⟨rfl⟩ : n = hs.length := by
        by_cases h2 : n - hs.length = 0
        · omega
        · rw [List.getElem?_eq_none (by simp; omega)] at hn; cases hn
      simp at hn
      subst hn
      rw [List.append_assoc, List.getElem?_append_right (Nat.le_refl _), Nat.sub_self]; exact s2
  refine ⟨hs ++ ks, by simp [l1, l2], key 0 x s1, fun j i w hj hw => ?_⟩
  by_cases h1 : j < L.length
  · rw [List.getElem?_append_left h1] at hj
    rw [List.getElem?_append_left (by omega)] at hw
    exact (o1 j i w hj hw).mono fun s ⟨q1, q2⟩ => ⟨q1, key _ _ q2⟩
  · rw [List.getElem?_append_right (by omega)] at hj
    rw [List.getElem?_append_right (by omega), l1] at hw
    have h3 := o2 _ i w hj hw
    have e : b + L.length + (j - L.length) = b + j := by omega
    rw [e] at h3
    refine h3.mono fun s ⟨q1, q2⟩ => ⟨by omega, ?_⟩
    rw [List.append_assoc, List.getElem?_append_right (by omega), l1]
    have e2 : s.1 - b - L.length = s.1 - (b + L.length) := by omega
    rw [e2]; exact q2
theorem Sg.nil {b : Nat} {x : Int} : Sg b [] x x := ⟨[], rfl, rfl, fun j i z h => by simp at h⟩
theorem Sg.one {b : Nat} {i : Ins} {x : Int} (hi : Ok1 i) (h1 : i.op ≠ 31) (h2 : i.op ≠ 12) (h3 : i.op ≠ 13) (h4 : i.op ≠ 14) (h5 : x ≤ 48) (h6 : (effM i.op).1 ≤ x) : Sg b [i] x (x - (effM i.op).1 + (effM i.op).2.1) := by
  refine ⟨[x], rfl, rfl, fun j i' z hj hz => ?_⟩
  match j with
  | 0 =>
    simp at hj hz; subst hj hz
    refine ⟨hi, h5, h6, fun h => h1 h.1, fun s hs => ?_⟩
    rw [afterM, if_neg h1, if_neg h2, if_neg h3, if_neg h4] at hs
    simp at hs; subst hs
    refine ⟨by simp, ?_⟩
    have e : b + 0 + 1 - b = 1 := by omega
    simp only [Nat.add_zero]
    have e : b + 1 - b = 1 := by omega
    rw [e]; rfl
  | j + 1 => simp at hj
theorem after12 {A : Int} {p : Nat} {h : Int} : afterM ⟨12, A⟩ p h = [(A.toNat, h)] := by simp [afterM]
theorem after13 {A : Int} {p : Nat} {h : Int} : afterM ⟨13, A⟩ p h = [(p + 1, h - 1), (A.toNat, h - 1)] := by simp [afterM]
theorem after14 {A : Int} {p : Nat} {h : Int} : afterM ⟨14, A⟩ p h = [(p + 1, h), (A.toNat, h - 1)] := by simp [afterM]
theorem ok_jump {op A : Int} (h : op = 12 ∨ op = 13 ∨ op = 14) (hA : 0 ≤ A) : Ok1 ⟨op, A⟩ := by
  refine ⟨?_, fun _ => hA⟩
  rcases h with rfl | rfl | rfl <;> simp [numberM, effM, kindM]
theorem Sg.unless {b : Nat} {L : List Ins} {x : Int} (h : Sg (b + 1) L x x) (h0 : 0 ≤ x) (h1 : x + 1 ≤ 48) : Sg b (⟨13, ((b + 1 + L.length : Nat) : Int)⟩ :: L) (x + 1) x := by
  obtain ⟨hs, l1, s1, o1⟩ := h
  refine ⟨(x + 1) :: hs, by simp [l1], rfl, fun j i z hj hz => ?_⟩
  match j with
  | 0 =>
    simp only [List.getElem?_cons_zero, Option.some.injEq] at hj hz; subst hj hz
    have e13 : effM 13 = (1, 0, 7) := by decide
    refine ⟨ok_jump (by simp) (by omega), h1, by simp only [e13]; omega, by simp, fun s hs' => ?_⟩
    have ea : afterM ⟨13, ((b + 1 + L.length : Nat) : Int)⟩ (b + 0) (x + 1) = [(b + 0 + 1, x + 1 - 1), (b + 1 + L.length, x + 1 - 1)] := by
      rw [after13]; rfl
    rw [ea] at hs'
    simp only [List.mem_cons, List.not_mem_nil, or_false] at hs'
    rcases hs' with rfl | rfl
    · refine ⟨by simp, ?_⟩
      have e : b + 0 + 1 - b = 1 := by omega
      simp only [e]
      have e2 : x + 1 - 1 = x := by omega
      rw [e2, List.cons_append, List.getElem?_cons_succ]; exact s1
    · refine ⟨by simp only; omega, ?_⟩
      have e : b + 1 + L.length - b = L.length + 1 := by omega
      have e2 : x + 1 - 1 = x := by omega
      simp only [e, e2]
      rw [List.cons_append, List.getElem?_cons_succ, List.getElem?_append_right (by omega), l1, Nat.sub_self]; rfl
  | j + 1 =>
    simp only [List.getElem?_cons_succ] at hj hz
    have h3 := o1 j i z hj hz
    have e : b + 1 + j = b + (j + 1) := by omega
    rw [e] at h3
    refine h3.mono fun s ⟨q1, q2⟩ => ⟨by omega, ?_⟩
    have e2 : s.1 - b = s.1 - (b + 1) + 1 := by omega
    rw [e2, List.cons_append, List.getElem?_cons_succ]; exact q2
theorem Sg.loop {b : Nat} {L : List Ins} {x : Int} (h : Sg (b + 1) L (x + 1) (x + 1)) (h0 : 0 ≤ x) (h1 : x + 1 ≤ 48) : Sg b (⟨14, ((b + 2 + L.length : Nat) : Int)⟩ :: (L ++ [⟨12, (b : Int)⟩])) (x + 1) x := by
  obtain ⟨hs, l1, s1, o1⟩ := h
  have hlen : ((x + 1) :: (hs ++ [x + 1])).length = L.length + 2 := by simp [l1]
  have key : ∀ (n : Nat) (w : Int), (hs ++ [x + 1])[n]? = some w → ((x + 1) :: (hs ++ [x + 1]) ++ [x])[n + 1]? = some w := by
    intro n w hn
    have hlt := (List.getElem?_eq_some_iff.1 hn).1
    rw [List.cons_append, List.getElem?_cons_succ, List.getElem?_append_left hlt]; exact hn
  refine ⟨(x + 1) :: (hs ++ [x + 1]), by simp [l1], rfl, fun j i z hj hz => ?_⟩
  match j with
  | 0 =>
    simp only [List.getElem?_cons_zero, Option.some.injEq] at hj hz; subst hj hz
    have e14 : effM 14 = (1, 1, 7) := by decide
    refine ⟨ok_jump (by simp) (by omega), h1, by simp only [e14]; omega, by simp, fun s hs' => ?_⟩
    have ea : afterM ⟨14, ((b + 2 + L.length : Nat) : Int)⟩ (b + 0) (x + 1) = [(b + 0 + 1, x + 1), (b + 2 + L.length, x + 1 - 1)] := by
      rw [after14]; rfl
    rw [ea] at hs'
    simp only [List.mem_cons, List.not_mem_nil, or_false] at hs'
    rcases hs' with rfl | rfl
    · refine ⟨by simp, ?_⟩
      have e : b + 0 + 1 - b = 0 + 1 := by omega
      simp only [e]
      exact key 0 _ s1
    · refine ⟨by simp only; omega, ?_⟩
      have e : b + 2 + L.length - b = L.length + 2 := by omega
      have e2 : x + 1 - 1 = x := by omega
      simp only [e, e2]
      rw [List.getElem?_append_right (by omega), hlen, Nat.sub_self]; rfl
  | j + 1 =>
    simp only [List.getElem?_cons_succ] at hj hz
    by_cases hjl : j < L.length
    · rw [List.getElem?_append_left hjl] at hj
      rw [List.getElem?_append_left (by omega)] at hz
      have h3 := o1 j i z hj hz
      have e : b + 1 + j = b + (j + 1) := by omega
      rw [e] at h3
      refine h3.mono fun s ⟨q1, q2⟩ => ⟨by omega, ?_⟩
      have e2 : s.1 - b = s.1 - (b + 1) + 1 := by omega
      rw [e2]; exact key _ _ q2
    · rw [List.getElem?_append_right (by omega)] at hj hz
      have hj0 : j - L.length = 0 := by
        rcases Nat.eq_zero_or_pos (j - L.length) with h | h
        · exact h
        · rw [List.getElem?_eq_none (by simp; omega)] at hj; cases hj
      rw [l1, hj0] at hz
      rw [hj0] at hj
      simp only [List.getElem?_cons_zero, Option.some.injEq] at hj hz; subst hj hz
      have e12 : effM 12 = (0, 0, 7) := by decide
      refine ⟨ok_jump (by simp) (by omega), h1, by simp only [e12]; omega, by simp, fun s hs' => ?_⟩
      have ea : afterM ⟨12, (b : Int)⟩ (b + (j + 1)) (x + 1) = [(b, x + 1)] := by
        rw [after12]; rfl
      rw [ea] at hs'
      simp only [List.mem_singleton] at hs'
      subst hs'
      refine ⟨by simp, ?_⟩
      simp only [Nat.sub_self]; rfl
end Go.Pb
set_option linter.unusedVariables false
set_option linter.unusedSimpArgs false
namespace Go.Pb
open Go.Sym
theorem Sg.put {b : Nat} {op A x y t u k : Int} (hi : Ok1 ⟨op, A⟩) (he : effM op = (t, u, k)) (h1 : op ≠ 31) (h2 : op ≠ 12) (h3 : op ≠ 13) (h4 : op ≠ 14) (h5 : x ≤ 48) (h6 : t ≤ x) (hy : y = x - t + u) : Sg b [⟨op, A⟩] x y := by
  have h := Sg.one (b := b) (i := ⟨op, A⟩) (x := x) hi h1 h2 h3 h4 h5 (by simp only [he]; exact h6)
  simp only [he] at h
  rw [hy]; exact h
theorem ok_of {op A k : Int} (he : (effM op).2.2 = k) (hk : kindM mc0 k A = true) (hj : k ≠ 7) : Ok1 ⟨op, A⟩ := by
  refine ⟨by simp only [numberM]; rw [he]; exact hk, fun h => ?_⟩
  simp only at h
  rw [isJ_kind, he] at h
  exact absurd (by simpa using h) hj
theorem in_rng {a lo hi : Int} (h1 : lo ≤ a) (h2 : a ≤ hi) : inM a lo hi = true := by simp [inM, h1, h2]
theorem kd2 {a : Int} : kindM mc0 2 a = inM a 0 2 := by simp [kindM, mc0, mdV, mdS]
theorem kd3 {a : Int} : kindM mc0 3 a = inM a 0 63 := by simp [kindM, mc0, mdV, mdS]
theorem kd4 {a : Int} : kindM mc0 4 a = inM a 0 1 := by simp [kindM, mc0, mdV, mdS]
theorem kd5 {a : Int} : kindM mc0 5 a = inM a 0 1 := by simp [kindM, mc0, mdV, mdS]
theorem kd9 {a : Int} : kindM mc0 9 a = inM a 0 63 := by simp [kindM, mc0, mdV, mdS]
theorem kd8 {a : Int} : kindM mc0 8 a = inM a 0 31 := by simp [kindM, mc0, mdV, mdS]
theorem kd10 {a : Int} : kindM mc0 10 a = inM a 0 1 := by simp [kindM, mc0, mdV, mdS]
theorem kd11 {a : Int} : kindM mc0 11 a = inM a 0 1 := by simp [kindM, mc0, mdV, mdS]
theorem kd6 {a : Int} : kindM mc0 6 a = inM a 12 24 := by simp [kindM]
theorem nn {n m : Nat} (h : n < m) : (0 : Int) ≤ (n : Int) ∧ (n : Int) < (m : Int) := by omega
theorem value_sg (l : List UInt8) : ∀ (d p b : Nat) (x : Int), 0 ≤ x → x + d + 1 ≤ 48 → Sg b (valueM l d p).1 x (x + 1)
  | d, p, b, x, h0, h1 => by
    unfold valueM
    simp only
    generalize (if d = 0 ∧ 5 < (nextM l p 9).1 then 0 else (nextM l p 9).1) = k
    generalize (nextM l p 9).2 = p1
    split
    · have := nn (nextM_lt (l := l) (p := p1) (n := 3) (by omega))
      exact Sg.put (ok_of (k := 2) (by decide) (by rw [kd2]; exact in_rng (by omega) (by omega)) (by decide)) (t := 0) (u := 1) (k := 2) (by decide) (by decide) (by decide) (by decide) (by decide) (by omega) (by omega) (by omega)
    · have := nn (nextM_lt (l := l) (p := p1) (n := 64) (by omega))
      exact Sg.put (ok_of (k := 3) (by decide) (by rw [kd3]; exact in_rng (by omega) (by omega)) (by decide)) (t := 0) (u := 1) (k := 3) (by decide) (by decide) (by decide) (by decide) (by decide) (by omega) (by omega) (by omega)
    · have := nn (nextM_lt (l := l) (p := p1) (n := 2) (by omega))
      exact Sg.put (ok_of (k := 4) (by decide) (by rw [kd4]; exact in_rng (by omega) (by omega)) (by decide)) (t := 0) (u := 1) (k := 4) (by decide) (by decide) (by decide) (by decide) (by decide) (by omega) (by omega) (by omega)
    · have := nn (nextM_lt (l := l) (p := p1) (n := 2) (by omega))
      exact Sg.put (ok_of (k := 5) (by decide) (by rw [kd5]; exact in_rng (by omega) (by omega)) (by decide)) (t := 0) (u := 1) (k := 5) (by decide) (by decide) (by decide) (by decide) (by decide) (by omega) (by omega) (by omega)
    · have hq := nextM_lt (l := l) (p := p1) (n := 2) (by omega)
      generalize (nextM l p1 2).1 = a at hq
      have ha : a = 0 ∨ a = 1 := by omega
      rcases ha with rfl | rfl
      · exact Sg.put (ok_of (k := 0) (by decide) (by decide) (by decide)) (t := 0) (u := 1) (k := 0) (by decide) (by decide) (by decide) (by decide) (by decide) (by omega) (by omega) (by omega)
      · exact Sg.put (ok_of (k := 0) (by decide) (by decide) (by decide)) (t := 0) (u := 1) (k := 0) (by decide) (by decide) (by decide) (by decide) (by decide) (by omega) (by omega) (by omega)
    · rename_i d
      have hv := value_sg l d p1 b x h0 (by omega)
      refine hv.app ?_
      have hq := nextM_lt (l := l) (p := (valueM l d p1).2) (n := 2) (by omega)
      generalize (nextM l (valueM l d p1).2 2).1 = a at hq
      have ha : a = 0 ∨ a = 1 := by omega
      rcases ha with rfl | rfl
      · exact Sg.put (ok_of (k := 0) (by decide) (by decide) (by decide)) (t := 1) (u := 1) (k := 0) (by decide) (by decide) (by decide) (by decide) (by decide) (by omega) (by omega) (by omega)
      · exact Sg.put (ok_of (k := 0) (by decide) (by decide) (by decide)) (t := 1) (u := 1) (k := 0) (by decide) (by decide) (by decide) (by decide) (by decide) (by omega) (by omega) (by omega)
    · rename_i d
      have hv := value_sg l d p1 b x h0 (by omega)
      have hw := value_sg l d (valueM l d p1).2 (b + (valueM l d p1).1.length) (x + 1) (by omega) (by omega)
      refine (hv.app hw).app ?_
      have := nn (nextM_lt (l := l) (p := (valueM l d (valueM l d p1).2).2) (n := 13) (by omega))
      exact Sg.put (ok_of (k := 6) (by decide) (by rw [kd6]; exact in_rng (by omega) (by omega)) (by decide)) (t := 2) (u := 1) (k := 6) (by decide) (by decide) (by decide) (by decide) (by decide) (by omega) (by omega) (by omega)
    · rename_i d
      have hv := value_sg l d p1 b x h0 (by omega)
      have hw := value_sg l d (valueM l d p1).2 (b + (valueM l d p1).1.length) (x + 1) (by omega) (by omega)
      refine (hv.app hw).app ?_
      have := nn (nextM_lt (l := l) (p := (valueM l d (valueM l d p1).2).2) (n := 13) (by omega))
      exact Sg.put (ok_of (k := 6) (by decide) (by rw [kd6]; exact in_rng (by omega) (by omega)) (by decide)) (t := 2) (u := 1) (k := 6) (by decide) (by decide) (by decide) (by decide) (by decide) (by omega) (by omega) (by omega)
    · have hq := nextM_lt (l := l) (p := p1) (n := 10) (by omega)
      generalize (nextM l p1 10).1 = a at hq
      have hk : ∀ a < 10, kindM mc0 1 (pushT.getD a 0) = true := by decide
      exact Sg.put (ok_of (k := 1) (by decide) (hk a hq) (by decide)) (t := 0) (u := 1) (k := 1) (by decide) (by decide) (by decide) (by decide) (by decide) (by omega) (by omega) (by omega)
theorem stK_sg {l : List UInt8} {rec : Nat → Nat → List Ins × Nat} {m : Int} (h0m : 0 ≤ m) (hr : ∀ (b p : Nat) (x : Int), 0 ≤ x → x + m + 4 ≤ 48 → Sg b (rec b p).1 x x) (base k p : Nat) (x : Int) (h0 : 0 ≤ x) (h1 : x + (m + 1) + 4 ≤ 48) : Sg base (stK l rec base k p).1 x x := by
  have v0 := fun p b => value_sg l 0 p b x h0 (by omega)
  have v1 := fun p b => value_sg l 1 p b x h0 (by omega)
  have v2 := fun p b => value_sg l 2 p b x h0 (by omega)
  unfold stK
  split
  · exact (v1 p base).app (Sg.put (ok_of (k := 0) (by decide) (by decide) (by decide)) (t := 1) (u := 0) (k := 0) (by decide) (by decide) (by decide) (by decide) (by decide) (by omega) (by omega) (by omega))
  · have hq := nextM_lt (l := l) (p := p) (n := 3) (by omega)
    have hb := nn (nextM_lt (l := l) (p := (nextM l p 3).2) (n := 32) (by omega))
    generalize ((nextM l (nextM l p 3).2 32).1 : Int) = B at hb
    generalize (nextM l p 3).1 = a at hq
    have ha : a = 0 ∨ a = 1 ∨ a = 2 := by omega
    rcases ha with rfl | rfl | rfl <;> exact Sg.put (ok_of (k := 8) (by decide) (by rw [kd8]; exact in_rng (by omega) (by omega)) (by decide)) (t := 0) (u := 0) (k := 8) (by decide) (by decide) (by decide) (by decide) (by decide) (by omega) (by omega) (by omega)
  · have hb := nn (nextM_lt (l := l) (p := (valueM l 0 p).2) (n := 64) (by omega))
    exact (v0 p base).app (Sg.put (ok_of (k := 9) (by decide) (by rw [kd9]; exact in_rng (by omega) (by omega)) (by decide)) (t := 1) (u := 0) (k := 9) (by decide) (by decide) (by decide) (by decide) (by decide) (by omega) (by omega) (by omega))
  · have hb := nn (nextM_lt (l := l) (p := (valueM l 0 (valueM l 0 p).2).2) (n := 64) (by omega))
    have w0 := value_sg l 0 (valueM l 0 p).2 (base + (valueM l 0 p).1.length) (x + 1) (by omega) (by omega)
    exact ((v0 p base).app w0).app (Sg.put (ok_of (k := 9) (by decide) (by rw [kd9]; exact in_rng (by omega) (by omega)) (by decide)) (t := 2) (u := 0) (k := 9) (by decide) (by decide) (by decide) (by decide) (by decide) (by omega) (by omega) (by omega))
  · have hb := nn (nextM_lt (l := l) (p := (valueM l 1 p).2) (n := 2) (by omega))
    exact (v1 p base).app (Sg.put (ok_of (k := 5) (by decide) (by rw [kd5]; exact in_rng (by omega) (by omega)) (by decide)) (t := 1) (u := 0) (k := 5) (by decide) (by decide) (by decide) (by decide) (by decide) (by omega) (by omega) (by omega))
  · have hb := nn (nextM_lt (l := l) (p := p) (n := 2) (by omega))
    exact Sg.put (ok_of (k := 5) (by decide) (by rw [kd5]; exact in_rng (by omega) (by omega)) (by decide)) (t := 0) (u := 0) (k := 5) (by decide) (by decide) (by decide) (by decide) (by decide) (by omega) (by omega) (by omega)
  · have hq := nextM_lt (l := l) (p := p) (n := 2) (by omega)
    have hb := nn (nextM_lt (l := l) (p := (nextM l p 2).2) (n := 2) (by omega))
    generalize ((nextM l (nextM l p 2).2 2).1 : Int) = B at hb
    generalize (nextM l p 2).1 = a at hq
    have ha : a = 0 ∨ a = 1 := by omega
    rcases ha with rfl | rfl <;> exact Sg.put (ok_of (k := 4) (by decide) (by rw [kd4]; exact in_rng (by omega) (by omega)) (by decide)) (t := 0) (u := 0) (k := 4) (by decide) (by decide) (by decide) (by decide) (by decide) (by omega) (by omega) (by omega)
  · have hb := nn (nextM_lt (l := l) (p := p) (n := 2) (by omega))
    exact Sg.put (ok_of (k := 10) (by decide) (by rw [kd10]; exact in_rng (by omega) (by omega)) (by decide)) (t := 0) (u := 0) (k := 10) (by decide) (by decide) (by decide) (by decide) (by decide) (by omega) (by omega) (by omega)
  · have hq := nextM_lt (l := l) (p := p) (n := 3) (by omega)
    have hb := nn (nextM_lt (l := l) (p := (nextM l p 3).2) (n := 64) (by omega))
    generalize ((nextM l (nextM l p 3).2 64).1 : Int) = B at hb
    generalize (nextM l p 3).1 = a at hq
    have ha : a = 0 ∨ a = 1 ∨ a = 2 := by omega
    rcases ha with rfl | rfl | rfl <;> exact Sg.put (ok_of (k := 9) (by decide) (by rw [kd9]; exact in_rng (by omega) (by omega)) (by decide)) (t := 0) (u := 0) (k := 9) (by decide) (by decide) (by decide) (by decide) (by decide) (by omega) (by omega) (by omega)
  · have hb := nn (nextM_lt (l := l) (p := (valueM l 1 p).2) (n := 2) (by omega))
    exact (v1 p base).app (Sg.put (ok_of (k := 11) (by decide) (by rw [kd11]; exact in_rng (by omega) (by omega)) (by decide)) (t := 1) (u := 0) (k := 11) (by decide) (by decide) (by decide) (by decide) (by decide) (by omega) (by omega) (by omega))
  · exact Sg.put (ok_of (k := 0) (by decide) (by decide) (by decide)) (t := 0) (u := 0) (k := 0) (by decide) (by decide) (by decide) (by decide) (by decide) (by omega) (by omega) (by omega)
  · have hs := hr (base + (valueM l 1 p).1.length + 1) (valueM l 1 p).2 x h0 (by omega)
    have hu := Sg.unless (b := base + (valueM l 1 p).1.length) hs h0 (by omega)
    have := (v1 p base).app hu
    simpa only [List.append_assoc, List.cons_append, List.nil_append] using this
  · have hs := hr (base + (valueM l 0 p).1.length + 1) (valueM l 0 p).2 (x + 1) (by omega) (by omega)
    have hu := Sg.loop (b := base + (valueM l 0 p).1.length) hs h0 (by omega)
    have := (v0 p base).app hu
    simpa only [List.append_assoc, List.cons_append, List.nil_append] using this
  · have hs := hr (base + (valueM l 0 p).1.length + 1) (valueM l 0 p).2 (x + 1) (by omega) (by omega)
    have hu := Sg.loop (b := base + (valueM l 0 p).1.length) hs h0 (by omega)
    have := (v0 p base).app hu
    simpa only [List.append_assoc, List.cons_append, List.nil_append] using this
  · have hb := nn (nextM_lt (l := l) (p := (valueM l 2 p).2) (n := 3) (by omega))
    exact (v2 p base).app (Sg.put (ok_of (k := 2) (by decide) (by rw [kd2]; exact in_rng (by omega) (by omega)) (by decide)) (t := 1) (u := 0) (k := 2) (by decide) (by decide) (by decide) (by decide) (by decide) (by omega) (by omega) (by omega))
theorem stmtM_sg (l : List UInt8) : ∀ (d base p : Nat) (x : Int), 0 ≤ x → x + (d + 1) + 4 ≤ 48 → Sg base (stmtM l d base p).1 x x
  | 0, base, p, x, h0, h1 => by
    simp only [stmtM]
    exact stK_sg (m := 0) (by omega) (fun b p x _ _ => Sg.nil) _ _ _ x h0 (by omega)
  | d + 1, base, p, x, h0, h1 => by
    simp only [stmtM]
    exact stK_sg (m := (d : Int) + 1) (by omega) (fun b p x h0 h1 => stmtM_sg l d b p x h0 (by omega)) _ _ _ x h0 (by omega)
theorem mdB_sg {l : List UInt8} {x : List Ins × Nat} : ∀ n, ∃ M, (mdB l n x).1 = x.1 ++ M ∧ Sg x.1.length M 0 0
  | 0 => ⟨[], by simp [mdB], Sg.nil⟩
  | n + 1 => by
    obtain ⟨M, e, h⟩ := mdB_sg (l := l) (x := x) n
    refine ⟨M ++ (stmtM l 2 (mdB l n x).1.length (mdB l n x).2).1, by simp only [mdB]; rw [e, List.append_assoc], h.app ?_⟩
    have := stmtM_sg l 2 (mdB l n x).1.length (mdB l n x).2 0 (by omega) (by omega)
    rw [e, List.length_append] at this ⊢
    exact this
end Go.Pb

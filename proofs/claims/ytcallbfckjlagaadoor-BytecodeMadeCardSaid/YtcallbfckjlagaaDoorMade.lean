/-
  HELPERS of the claim: part 5 of its texts.
-/
import Derived.Shelf.Strings.OnBuilder
import Derived.Shelf.Strconv.Itoa3
import Derived.Test.YtcallbfckjlagaaDoorProg
import Derived.Test.YtcallbfckjlagaaDoorMadd
set_option linter.unusedVariables false
namespace Go.Proofs
open Go.Shelf
def Tryd.lays156_ren : Go.Shelf.Ren := ⟨fun | 156 => 50 | 165 => 64 | 166 => 65 | 169 => 66 | 240 => 83 | 241 => 84 | 276 => 92 | 277 => 93 | n => n, fun | 31 => 24 | 9 => 9 | 3 => 3 | 4 => 4 | 0 => 0 | 20 => 20 | 72 => 100 | 76 => 104 | 70 => 98 | 37 => 22 | 75 => 103 | 127 => 117 | 164 => 126 | 5 => 5 | 80 => 106 | n => n, fun | n => n⟩
theorem Tryd.lays156 : Go.Proofs.Lays.n156 Tryd.prog Tryd.lays156_ren := {
  mixed := by kernel_rfl
  f156 := Tryd.func50.trans (congrArg some (by kernel_rfl))
  f165 := Tryd.func64.trans (congrArg some (by kernel_rfl))
  f166 := Tryd.func65.trans (congrArg some (by kernel_rfl))
  f169 := Tryd.func66.trans (congrArg some (by kernel_rfl))
  f240 := Tryd.func83.trans (congrArg some (by kernel_rfl))
  f241 := Tryd.func84.trans (congrArg some (by kernel_rfl))
  f276 := Tryd.func92.trans (congrArg some (by kernel_rfl))
  f277 := Tryd.func93.trans (congrArg some (by kernel_rfl))
  t0 := Tryd.underlying0
  a0 := Tryd.isAgg0
  z0 := Tryd.sizeOf0
  v0 := Tryd.zeroValue0
  t3 := Tryd.underlying3
  a3 := Tryd.isAgg3
  z3 := Tryd.sizeOf3
  v3 := Tryd.zeroValue3
  t4 := Tryd.underlying4
  a4 := Tryd.isAgg4
  z4 := Tryd.sizeOf4
  v4 := Tryd.zeroValue4
  t9 := Tryd.underlying9
  a9 := Tryd.isAgg9
  z9 := Tryd.sizeOf9
  v9 := Tryd.zeroValue9
  t20 := Tryd.underlying20
  a20 := Tryd.isAgg20
  z20 := Tryd.sizeOf20
  v20 := Tryd.zeroValue20
  t31 := Tryd.underlying24
  a31 := Tryd.isAgg24
  z31 := Tryd.sizeOf24
  v31 := Tryd.zeroValue24
  t37 := Tryd.underlying22
  a37 := Tryd.isAgg22
  z37 := Tryd.sizeOf22
  v37 := Tryd.zeroValue22
  t70 := Tryd.underlying98
  a70 := Tryd.isAgg98
  z70 := Tryd.sizeOf98
  v70 := Tryd.zeroValue98
  t72 := Tryd.underlying100
  a72 := Tryd.isAgg100
  z72 := Tryd.sizeOf100
  v72 := Tryd.zeroValue100
  t75 := Tryd.underlying103
  a75 := Tryd.isAgg103
  z75 := Tryd.sizeOf103
  v75 := Tryd.zeroValue103
  t76 := Tryd.underlying104
  a76 := Tryd.isAgg104
  z76 := Tryd.sizeOf104
  v76 := Tryd.zeroValue104
  t127 := Tryd.underlying117
  a127 := Tryd.isAgg117
  z127 := Tryd.sizeOf117
  v127 := Tryd.zeroValue117
  t164 := Tryd.underlying126
  a164 := Tryd.isAgg126
  z164 := Tryd.sizeOf126
  v164 := Tryd.zeroValue126 }
theorem Tryd.Builder_Extra_156 : Builder.Extra Tryd.prog Tryd.lays156_ren := {
  sizeBuilder := by kernel_rfl
  liesBuilder := by kernel_rfl
  t5 := Tryd.underlying5
  a5 := Tryd.isAgg5
  z5 := Tryd.sizeOf5
  v5 := Tryd.zeroValue5
  infoByte := by kernel_rfl
  cellsByte := by kernel_rfl
  sizeByte := by kernel_rfl
  neB5 := by decide }
open Go.RowKit in
theorem Tryd.strings_Join_none (a : Option Addr) (c : Nat) (sep : ByteArray) (w : World) :
    Calls Tryd.prog 50 #[.slice a 0 c, .string sep] w fun e w' => e = .returned (.string ⟨#[]⟩) ∧ w' = w := Any.strings_Join_none Tryd.lays156 Tryd.Builder_Extra_156 a c sep w
open Go.RowKit in
theorem Tryd.strings_Join (bk o c : Nat) (xs : List ByteArray) (sep : ByteArray) (w : World) (hcells : ∀ (j : Nat) x, xs[j]? = some x → w.cell? ⟨bk, o + j, none⟩ = some (.string x)) (hbk : bk < w.heap.size) (hN : xs.length ≤ 140737488355328) (hcap : xs.length ≤ c) (hlen : (Lib.join (xs.map (·.data.toList)) sep.data.toList).length ≤ 140737488355328) :
    Calls Tryd.prog 50 #[.slice (some ⟨bk, o, none⟩) xs.length c, .string sep] w fun e w' => e = .returned (.string ⟨(Lib.join (xs.map (·.data.toList)) sep.data.toList).toArray⟩) ∧ Below w.heap.size w w' := Any.strings_Join Tryd.lays156 Tryd.Builder_Extra_156 bk o c xs sep w hcells hbk hN hcap hlen
def Tryd.lays171_ren : Go.Shelf.Ren := ⟨fun | 171 => 49 | 243 => 63 | 246 => 82 | 283 => 88 | 284 => 89 | 285 => 90 | 286 => 91 | 129 => 95 | 317 => 94 | 318 => 96 | 319 => 97 | 320 => 98 | 337 => 99 | 338 => 100 | n => n, fun | 3 => 3 | 9 => 9 | 2 => 2 | 4 => 4 | 171 => 121 | 0 => 0 | 53 => 87 | 37 => 22 | 5 => 5 | 173 => 124 | 212 => 130 | 51 => 131 | 20 => 20 | 213 => 132 | 46 => 88 | 232 => 135 | 233 => 136 | n => n, fun | 17 => 0 | 18 => 2 | 19 => 3 | n => n⟩
theorem Tryd.lays171 : Go.Proofs.Lays.n171 Tryd.prog Tryd.lays171_ren := {
  mixed := by kernel_rfl
  f129 := Tryd.func95.trans (congrArg some (by kernel_rfl))
  f171 := Tryd.func49.trans (congrArg some (by kernel_rfl))
  f243 := Tryd.func63.trans (congrArg some (by kernel_rfl))
  f246 := Tryd.func82.trans (congrArg some (by kernel_rfl))
  f283 := Tryd.func88.trans (congrArg some (by kernel_rfl))
  f284 := Tryd.func89.trans (congrArg some (by kernel_rfl))
  f285 := Tryd.func90.trans (congrArg some (by kernel_rfl))
  f286 := Tryd.func91.trans (congrArg some (by kernel_rfl))
  f317 := Tryd.func94.trans (congrArg some (by kernel_rfl))
  f318 := Tryd.func96.trans (congrArg some (by kernel_rfl))
  f319 := Tryd.func97.trans (congrArg some (by kernel_rfl))
  f320 := Tryd.func98.trans (congrArg some (by kernel_rfl))
  f337 := Tryd.func99.trans (congrArg some (by kernel_rfl))
  f338 := Tryd.func100.trans (congrArg some (by kernel_rfl))
  t0 := Tryd.underlying0
  a0 := Tryd.isAgg0
  z0 := Tryd.sizeOf0
  v0 := Tryd.zeroValue0
  t2 := Tryd.underlying2
  a2 := Tryd.isAgg2
  z2 := Tryd.sizeOf2
  v2 := Tryd.zeroValue2
  t3 := Tryd.underlying3
  a3 := Tryd.isAgg3
  z3 := Tryd.sizeOf3
  v3 := Tryd.zeroValue3
  t4 := Tryd.underlying4
  a4 := Tryd.isAgg4
  z4 := Tryd.sizeOf4
  v4 := Tryd.zeroValue4
  t5 := Tryd.underlying5
  a5 := Tryd.isAgg5
  z5 := Tryd.sizeOf5
  v5 := Tryd.zeroValue5
  t9 := Tryd.underlying9
  a9 := Tryd.isAgg9
  z9 := Tryd.sizeOf9
  v9 := Tryd.zeroValue9
  t20 := Tryd.underlying20
  a20 := Tryd.isAgg20
  z20 := Tryd.sizeOf20
  v20 := Tryd.zeroValue20
  t37 := Tryd.underlying22
  a37 := Tryd.isAgg22
  z37 := Tryd.sizeOf22
  v37 := Tryd.zeroValue22
  t46 := Tryd.underlying88
  a46 := Tryd.isAgg88
  z46 := Tryd.sizeOf88
  v46 := Tryd.zeroValue88
  t51 := Tryd.underlying131
  a51 := Tryd.isAgg131
  z51 := Tryd.sizeOf131
  v51 := Tryd.zeroValue131
  t53 := Tryd.underlying87
  a53 := Tryd.isAgg87
  z53 := Tryd.sizeOf87
  v53 := Tryd.zeroValue87
  t171 := Tryd.underlying121
  a171 := Tryd.isAgg121
  z171 := Tryd.sizeOf121
  v171 := Tryd.zeroValue121
  t173 := Tryd.underlying124
  a173 := Tryd.isAgg124
  z173 := Tryd.sizeOf124
  v173 := Tryd.zeroValue124
  t212 := Tryd.underlying130
  a212 := Tryd.isAgg130
  z212 := Tryd.sizeOf130
  v212 := Tryd.zeroValue130
  t213 := Tryd.underlying132
  a213 := Tryd.isAgg132
  z213 := Tryd.sizeOf132
  t232 := Tryd.underlying135
  a232 := Tryd.isAgg135
  z232 := Tryd.sizeOf135
  v232 := Tryd.zeroValue135
  t233 := Tryd.underlying136
  a233 := Tryd.isAgg136
  z233 := Tryd.sizeOf136
  v233 := Tryd.zeroValue136
  g17 := by kernel_rfl
  g18 := by kernel_rfl
  g19 := by kernel_rfl }
open Go.RowKit Go.Sort Go.Lib in
theorem Tryd.strconv_Itoa_small (i : Nat) (hi : i < 100) (w : World) :
    Calls Tryd.prog 49 #[.int .i64 i] w fun e w' => e = .returned (.string ⟨(Lib.decDigits i).toArray⟩) ∧ w' = w := Any.strconv_Itoa_small Tryd.lays171 i hi w
end Go.Proofs
set_option maxHeartbeats 4000000
set_option maxRecDepth 100000
set_option linter.unusedSimpArgs false
set_option linter.unusedVariables false
namespace Go.Proofs.YtcallbfckjlagaaDoor
open Go.Eng (IC IOper DReg IFn IsFn Callable)
open Go.Sym Go.Pb Go.RowKit
noncomputable section
def u25_10r : DReg := ⟨[⟨some 14, .pur (.mv (.t 3)), none⟩, ⟨some 15, .pur (.mv (.t 4)), none⟩, ⟨some 16, .call 49 [.t 15], none⟩, ⟨some 17, .pur (.bin .add (.t 16) (.k (.string ⟨#[32]⟩))), none⟩, ⟨some 18, .pur (.fad 0 (.t 5)), none⟩, ⟨some 19, .pur (.ld 1 false (.t 18)), none⟩, ⟨some 20, .call 49 [.t 19], none⟩, ⟨some 21, .pur (.bin .add (.t 17) (.t 20)), none⟩, ⟨some 22, .pur (.bin .add (.t 21) (.k (.string ⟨#[32]⟩))), none⟩, ⟨some 23, .pur (.fad 1 (.t 5)), none⟩, ⟨some 24, .pur (.ld 1 false (.t 23)), none⟩, ⟨some 25, .call 49 [.t 24], none⟩, ⟨some 26, .pur (.bin .add (.t 22) (.t 25)), none⟩, ⟨some 27, .pur (.bin .add (.t 26) (.k (.string ⟨#[10]⟩))), none⟩, ⟨some 28, .new (.bsl 1 1 #[.string ⟨#[]⟩] [(0, .t 27)]), none⟩, ⟨some 29, .eff (.app 1 16 (.t 14) (.t 28)), none⟩, ⟨some 3, .pur (.mv (.t 29)), none⟩], [[], [], [1], [2, 1], [], [4], [5, 2, 4, 1], [3, 6, 2, 1, 5, 4], [7, 3, 6, 2, 1, 5, 4], [], [9], [10, 6, 9, 5, 2, 4, 1], [8, 11, 7, 3, 6, 2, 1, 5, 4, 10, 9], [12, 8, 11, 7, 3, 6, 2, 1, 5, 4, 10, 9], [13, 12, 8, 11, 7, 3, 6, 2, 1, 5, 4, 10, 9], [0, 14, 11, 13, 12, 8, 7, 3, 6, 2, 1, 5, 4, 10, 9], [15, 0, 1, 2, 3, 4, 5, 6, 7, 8, 9, 10, 11, 12, 13, 14]], [(0, none), (1, none), (4, none), (5, none), (9, none), (10, none), (2, some [0, 4, 5, 9, 10]), (3, none), (6, some [0, 9, 10, 3]), (7, none), (8, none), (11, some [0, 3, 7, 8]), (12, none), (13, none), (14, none), (15, some []), (16, some [])]⟩
def u25_10 : IC := .drw 17 u25_10r
def u25_9r : List IOper := [⟨some 11, .pur (.mv (.t 9)), none⟩, ⟨some 12, .pur (.iad 2 (.t 7) (.t 9)), none⟩, ⟨some 13, .pur (.ld 2 true (.t 12)), none⟩, ⟨some 5, .new (.box (.k (.agg #[.int .i64 0, .int .i64 0]))), none⟩, ⟨some 4, .pur (.mv (.t 11)), none⟩, ⟨none, .eff (.st 2 (.t 5) (.t 13)), none⟩]
def u25_9 : IC := .seq (.reg u25_9r) u25_10
def u25_11r : List IOper := [⟨some 30, .pur (.bin .add (.t 9) (.k (.int .i64 1))), none⟩, ⟨some 9, .pur (.mv (.t 30)), none⟩]
def u25_11 : IC := .reg u25_11r
def u25_8 : IC := .seq (.blk 1 u25_9) u25_11
def u25_7 : IC := .seq (.cond (.t 10) .skip (.exit 0)) u25_8
def u25_6r : List IOper := [⟨some 10, .pur (.bin .lss (.t 9) (.t 8)), none⟩]
def u25_6 : IC := .seq (.reg u25_6r) u25_7
def u25_5 : IC := .blk 0 (.loop u25_6)
def u25_4r : List IOper := [⟨some 6, .pur (.fad 0 (.t 1)), none⟩, ⟨some 7, .pur (.ld 1 false (.t 6)), none⟩, ⟨some 8, .pur (.len (.t 7)), none⟩, ⟨some 9, .pur (.mv (.k (.int .i64 0))), none⟩]
def u25_4 : IC := .seq (.reg u25_4r) u25_5
def u25_12r : List IOper := [⟨some 31, .pur (.mv (.t 3)), none⟩, ⟨some 32, .call 50 [.t 31, .k (.string ⟨#[]⟩)], none⟩, ⟨some 2, .pur (.mv (.t 32)), none⟩]
def u25_12 : IC := .seq (.reg u25_12r) .ret
def u25_3 : IC := .seq u25_4 u25_12
def u25_2r : List IOper := [⟨some 3, .pur (.mv (.k (.slice none 0 0))), none⟩]
def u25_2 : IC := .seq (.reg u25_2r) u25_3
def u25_1r : List IOper := [⟨some 1, .new (.box (.t 0)), none⟩, ⟨some 2, .pur (.mv (.k (.string ⟨#[]⟩))), none⟩]
def u25_1 : IC := .seq (.reg u25_1r) u25_2
def u25 : IFn := ⟨33, u25_1, [.tmp 2]⟩
end
theorem isU25 : IsFn Tryd.prog 25 u25 := by unfold IsFn; kernel_rfl
instance i25_10 : WR Tryd.prog 33 u25_10 (rDE 17 u25_10r [3, 4, 5, 7, 8, 9]) := ⟨mkDE⟩
instance i25_9 : WR Tryd.prog 33 u25_9 (rS u25_9r u25_10 [3, 7, 8, 9]) := ⟨mkS⟩
instance i25_11 : WR Tryd.prog 33 u25_11 (rE u25_11r [3, 7, 8, 9]) := ⟨mkE⟩
instance i25_8 : WR Tryd.prog 33 u25_8 (rB 1 u25_9 u25_11 [3, 7, 8, 9]) := ⟨mkB⟩
instance i25_7 : WR Tryd.prog 33 u25_7 (rC (.t 10) .skip (.exit 0) u25_8 [3, 7, 8, 9, 10]) := ⟨mkC⟩
instance i25_6 : WR Tryd.prog 33 u25_6 (rS u25_6r u25_7 [3, 7, 8, 9]) := ⟨mkS⟩
instance i25_5 : WR Tryd.prog 33 u25_5 (rBE 0 (.loop u25_6) [3, 7, 8, 9]) := ⟨mkBE⟩
instance i25_4 : WR Tryd.prog 33 u25_4 (rS u25_4r u25_5 [1, 3]) := ⟨mkS⟩
instance i25_12 : WR Tryd.prog 33 u25_12 (rS u25_12r .ret [3]) := ⟨mkS⟩
instance i25_3 : WR Tryd.prog 33 u25_3 (rQ u25_4 u25_12 [1, 3]) := ⟨mkQ⟩
instance i25_2 : WR Tryd.prog 33 u25_2 (rS u25_2r u25_3 [1]) := ⟨mkS⟩
instance i25_1 : WR Tryd.prog 33 u25_1 (rS u25_1r u25_2 [0]) := ⟨mkS⟩
attribute [go_sem] u25_10r u25_9r u25_11r u25_6r u25_4r u25_12r u25_2r u25_1r
theorem dec_eq : ∀ (m u : Nat), u < m → Lib.decDigits u = decB u := by
  intro m
  induction m with
  | zero => intro u h; omega
  | succ m ih =>
    intro u h
    unfold Lib.decDigits
    by_cases h0 : u < 10
    · rw [dif_pos h0, decB_lt h0]; rfl
    · rw [dif_neg h0, decB_ge h0, ih (u / 10) (by omega)]; rfl
theorem c_ItoaS (i : Nat) (hi : i < 100) : PC Tryd.prog 49 [I64 (i : Int)] (.str (decI i)) := by
  refine PC.of_calls (by kernel_rfl) rfl rfl fun ρ w vs hf hA => ?_
  have hvs : vs = #[.int .i64 (i : Int)] := by
    obtain ⟨y, h1, h2⟩ := hA.get (i := 0) rfl
    have hs : vs.size = 1 := hA.1.symm
    cases h2
    cases vs with | mk l => match l, hs, h1 with
      | [a], _, h1 => simp at h1; subst h1; rfl
  rw [hvs]
  refine (Tryd.strconv_Itoa_small i hi w).mono ?_
  rintro e w' ⟨rfl, rfl⟩
  have e : decI (i : Int) = Lib.decDigits i := by rw [dec_eq (i + 1) i (by omega), decI, if_neg (by omega), Int.natAbs_natCast]
  exact ⟨_, rfl, fun ρ' => by rw [e]; exact .mkStr, Below.refl _ _⟩
theorem c_Join (l : List (List UInt8)) (h1 : l.length ≤ 140737488355328) (h2 : l.flatten.length ≤ 140737488355328) : PC Tryd.prog 50 [strs l, .str []] (.str l.flatten) := by
  refine PC.of_calls (by kernel_rfl) (by simp [DV.nlL, DV.nl, nlL_strs]) rfl fun ρ w vs hf hA => ?_
  obtain ⟨y, g1, g2⟩ := hA.get (i := 0) rfl
  obtain ⟨z, g3, g4⟩ := hA.get (i := 1) rfl
  obtain rfl := g4.str_inv
  have hvs : vs = #[y, .string ⟨#[]⟩] := by
    have hs : vs.size = 2 := hA.1.symm
    cases vs with | mk r => match r, hs, g1, g3 with
      | [a, b], _, h1, h3 => simp at h1 h3; subst h1 h3; rfl
  rw [hvs]
  rcases g2.lst_inv with ⟨e0, e1 | ⟨a, c, e1⟩⟩ | ⟨u, b, off, c, row, e1, e2, e3, e4, e5, e6⟩
  · subst e1
    have : l = [] := by simpa using e0
    subst this
    refine (Tryd.strings_Join_none none 0 ⟨#[]⟩ w).mono ?_
    rintro e w' ⟨rfl, rfl⟩
    exact ⟨_, rfl, fun ρ' => .mkStr, Below.refl _ _⟩
  · subst e1
    have : l = [] := by simpa using e0
    subst this
    refine (Tryd.strings_Join_none (some a) c ⟨#[]⟩ w).mono ?_
    rintro e w' ⟨rfl, rfl⟩
    exact ⟨_, rfl, fun ρ' => .mkStr, Below.refl _ _⟩
  · subst e1
    obtain ⟨e, fr, hb⟩ := hf b row e2
    obtain ⟨bs, hbs⟩ : ∃ bs : List ByteArray, bs = l.map fun s => (⟨s.toArray⟩ : ByteArray) := ⟨_, rfl⟩
    have hL : (l.map DV.str).length = bs.length := by rw [hbs]; simp
    have hmap : bs.map (fun x => x.data.toList) = l := by
      rw [hbs, List.map_map]
      exact (List.map_congr_left fun s _ => rfl).trans (List.map_id l)
    have hj : Lib.join l [] = l.flatten := by
      unfold Lib.join
      cases l with
      | nil => rfl
      | cons x r => exact (Lib.join_cons x r []).trans (by simp [Lib.joinTail])
    have hmap2 : bs.map (·.data.toList) = l := hmap
    have p1 : ∀ (j : Nat) x, bs[j]? = some x → w.cell? ⟨b, off + j, none⟩ = some (.string x) := by
      intro j x hx
      rw [hbs, List.getElem?_map] at hx
      obtain ⟨s, hs, rfl⟩ := Option.map_eq_some_iff.1 hx
      have hc : (cellsL (l.map DV.str))[j]? = some (DV.str s) := by rw [cellsL_map1 (fun _ => rfl), List.getElem?_map, hs]; rfl
      obtain ⟨v, v1, v2⟩ := e6.get hc
      rw [v2.str_inv] at v1
      simp only [World.cell?, hb]
      exact v1
    have p2 : b < w.heap.size := (Array.getElem?_eq_some_iff.1 hb).1
    have p3 : bs.length ≤ 140737488355328 := by rw [hbs]; simpa using h1
    have p4 : bs.length ≤ c := by rw [← hL]; exact e3
    have p5 : (Lib.join (bs.map (·.data.toList)) (⟨#[]⟩ : ByteArray).data.toList).length ≤ 140737488355328 := by
      rw [hmap2]; exact hj ▸ h2
    rw [hL]
    have key := Tryd.strings_Join b off c bs ⟨#[]⟩ w p1 p2 p3 p4 p5
    rw [hmap2] at key
    refine key.mono fun e w' hq => ⟨_, hq.1, fun ρ' => ?_, hq.2⟩
    have e7 : Lib.join l (⟨#[]⟩ : ByteArray).data.toList = l.flatten := hj
    rw [e7]; exact .mkStr
theorem c_ItoaS' (n : Int) (h0 : 0 ≤ n) (h1 : n < 100) : PC Tryd.prog 49 [I64 n] (.str (decI n)) := by
  obtain ⟨i, rfl⟩ : ∃ i : Nat, n = (i : Int) := ⟨n.toNat, by omega⟩
  exact c_ItoaS i (by omega)
theorem c_ListingS (c : Prg) (hl : c.instrs.length ≤ 100) (hb : ∀ i ∈ c.instrs, (0 ≤ i.op ∧ i.op < 100) ∧ 0 ≤ i.A ∧ i.A < 100) : PC Tryd.prog 25 [c.v] (.str (lstF c.instrs 0)) := by
  refine PC.of mixedU isU25 (Nat.le_of_ble_eq_true rfl) (by simp [DV.nlL, DV.nl, nlL_ints, nlL_strs, nlL_instrs, nlL_entries, nlL_stp]) (by simp [DV.nlL, DV.nl, nlL_ints, nlL_strs, nlL_instrs, nlL_entries, nlL_stp]) ?_
  show IW Tryd.prog 33 u25_1 ⟨argT _, _, _⟩ (rt [.tmp 2] _)
  repeat' ((first | with_reducible refine wr ?_ | with_reducible refine i_ret ?_ | with_reducible refine i_skip ?_ | with_reducible refine i_exit ?_ | ((with_reducible refine k_cb ?_ ?_) <;> (intro hb; try simp only [hb])) | ((with_reducible refine k_gb ?_ ?_) <;> (intro hb; try simp only [hb])) | ((with_reducible refine k_gb' ?_ ?_) <;> (intro hb; try simp only [hb]))) <;> try simp only [go_sem, Nat.reduceAdd, Nat.reduceLeDiff, Nat.reduceEqDiff, Nat.reduceMul, Nat.reduceSub, ↓reduceIte, Int.reduceLT, Int.reduceLE, Int.reduceGT, Int.reduceGE, Nat.reduceLT, Nat.reduceGT, Int.reduceToNat, reduceCtorEq, Nat.reduceBEq, Int.reduceBEq, Int.reduceBNe, Int.reduceEq, Int.reduceNe, decide_true, decide_false])
  refine i_loop (fun q : Nat × Option Nat => [(3, todoV q.2 q.1), (7, inssV c.instrs), (8, I64 c.instrs.length), (9, I64 q.1)]) (fun q => optH Sym.nil q.2 ⟨1, true, cellsL ((lnM (c.instrs.take q.1) 0).map DV.str)⟩) (fun q cc => q.1 ≤ c.instrs.length ∧ (q.2 = none → q.1 = 0) ∧ ∀ i, q.2 = some i → i < cc) (fun q => c.instrs.length - q.1) (0, none)
    (by simp [tmLe, tm, Tm.upd, todoV]) (Sub.nil _) ⟨by simp, by simp, by simp⟩ ?_
  rintro ⟨k, o⟩ cc ⟨hk, hno, hso⟩
  simp only at hk hno hso
  have hkl : (lnM (c.instrs.take k) 0).length = k := by rw [lnM_len, List.length_take]; omega
  by_cases hlt : k < c.instrs.length
  · have hd : decide ((k : Int) < c.instrs.length) = true := by simpa using hlt
    have hg := List.getElem?_eq_getElem hlt
    have hw : IntKind.i64.wrap ((k : Int) + 1) = ((k + 1 : Nat) : Int) := by rw [w64 (by omega) (by omega)]; omega
    have hx := hb _ (List.getElem_mem hlt)
    have l1 := decI_len (n := (k : Int)) (by omega) (by omega)
    have l2 := decI_len (n := c.instrs[k].op) (by omega) (by omega)
    have l3 := decI_len (n := c.instrs[k].A) (by omega) (by omega)
    have a1 := sadd (s := decI k) (t := [32]) (by first | omega | (simp only [List.length_append, List.length_singleton]; omega))
    have a2 := sadd (s := decI k ++ [32]) (t := decI c.instrs[k].op) (by first | omega | (simp only [List.length_append, List.length_singleton]; omega))
    have a3 := sadd (s := decI k ++ [32] ++ decI c.instrs[k].op) (t := [32]) (by first | omega | (simp only [List.length_append, List.length_singleton]; omega))
    have a4 := sadd (s := decI k ++ [32] ++ decI c.instrs[k].op ++ [32]) (t := decI c.instrs[k].A) (by first | omega | (simp only [List.length_append, List.length_singleton]; omega))
    have a5 := sadd (s := decI k ++ [32] ++ decI c.instrs[k].op ++ [32] ++ decI c.instrs[k].A) (t := [10]) (by first | omega | (simp only [List.length_append, List.length_singleton]; omega))
    have est : cellsL ((lnM (c.instrs.take (k + 1)) 0).map DV.str) = cellsL ((lnM (c.instrs.take k) 0).map DV.str) ++ [DV.str (lineB k c.instrs[k])] := by
      rw [lnM_step hg, List.map_append, cellsL_append]; rfl
    have hL := strC_len (lnM (c.instrs.take k) 0)
    rw [hkl] at hL
    have fa1 : ¬cc + 1 = cc := by omega
    have fa2 : ¬cc + 2 = cc := by omega
    have fa3 : ¬cc + 3 = cc := by omega
    have fa4 : ¬cc + 4 = cc := by omega
    have fa5 : ¬cc + 5 = cc := by omega
    have fa6 : ¬cc + 6 = cc := by omega
    have fa7 : ¬cc + 7 = cc := by omega
    have fa8 : ¬cc + 8 = cc := by omega
    have fa9 : ¬cc + 9 = cc := by omega
    have fa10 : ¬cc + 10 = cc := by omega
    have fa11 : ¬cc + 11 = cc := by omega
    have fa12 : ¬cc + 12 = cc := by omega
    have fa13 : ¬cc + 13 = cc := by omega
    have fa14 : ¬cc + 14 = cc := by omega
    have fa15 : ¬cc + 15 = cc := by omega
    have fa16 : ¬cc + 16 = cc := by omega
    have fa17 : ¬cc + 17 = cc := by omega
    have fa18 : ¬cc + 18 = cc := by omega
    rcases o with _ | id
    · obtain rfl := hno rfl
      repeat' ((first | with_reducible refine wr ?_ | with_reducible refine i_ret ?_ | with_reducible refine i_skip ?_ | with_reducible refine i_exit ?_ | ((with_reducible refine k_cb ?_ ?_) <;> (intro hb; try simp only [hb])) | ((with_reducible refine k_gb ?_ ?_) <;> (intro hb; try simp only [hb])) | ((with_reducible refine k_gb' ?_ ?_) <;> (intro hb; try simp only [hb])) | ((with_reducible refine k_eval (r_appn' (by decide) (by decide) (by decide)) ?_)) | ((with_reducible refine x_eval (r_appn' (by decide) (by decide) (by decide)) ?_)) | ((with_reducible refine AC.call ((c_ItoaS' ((0 : Nat) : Int) (by omega) (by omega)).at _ _) ?_); rintro _ _ _ ⟨rfl, rfl, rfl⟩ -) | ((with_reducible refine AC.call ((c_ItoaS' _ hx.1.1 hx.1.2).at _ _) ?_); rintro _ _ _ ⟨rfl, rfl, rfl⟩ -) | ((with_reducible refine AC.call ((c_ItoaS' _ hx.2.1 hx.2.2).at _ _) ?_); rintro _ _ _ ⟨rfl, rfl, rfl⟩ -)) <;> try simp only [go_sem, Nat.reduceAdd, Nat.reduceLeDiff, Nat.reduceEqDiff, Nat.reduceMul, Nat.reduceSub, ↓reduceIte, Int.reduceLT, Int.reduceLE, Int.reduceGT, Int.reduceGE, Nat.reduceLT, Nat.reduceGT, Int.reduceToNat, reduceCtorEq, Nat.reduceBEq, Int.reduceBEq, Int.reduceBNe, Int.reduceEq, Int.reduceNe, decide_true, decide_false, hd, hg, hw, a1, a2, a3, a4, a5, fa1, fa2, fa3, fa4, fa5, fa6, fa7, fa8, fa9, fa10, fa11, fa12, fa13, fa14, fa15, fa16, fa17, fa18])
      have est0 : cellsL ((lnM (c.instrs.take 1) 0).map DV.str) = [DV.str (decI ((0 : Nat) : Int) ++ ([32] : List UInt8) ++ decI (c.instrs[0]'hlt).op ++ ([32] : List UInt8) ++ decI (c.instrs[0]'hlt).A ++ ([10] : List UInt8))] := est
      exact ⟨(1, some (cc + 1 + 17)), ⟨rfl, rfl⟩, by simp only [est0]; (intro j b hj; simp only [optH, Hp.upd, Hp.del, Sym.nil] at hj ⊢; (repeat' split at hj) <;> (repeat' split) <;> first | exact hj | (exfalso; omega) | cases hj), inv ⟨hlt, by simp, fun i hi => by cases hi; omega⟩, by simp only; omega⟩
    · have hid := hso id rfl
      have fb1 : ¬cc + 1 = id := by omega
      have fb2 : ¬cc + 2 = id := by omega
      have fb3 : ¬cc + 3 = id := by omega
      have fb4 : ¬cc + 4 = id := by omega
      have fb5 : ¬cc + 5 = id := by omega
      have fb6 : ¬cc + 6 = id := by omega
      have fb7 : ¬cc + 7 = id := by omega
      have fb8 : ¬cc + 8 = id := by omega
      have fb9 : ¬cc + 9 = id := by omega
      have fb10 : ¬cc + 10 = id := by omega
      have fb11 : ¬cc + 11 = id := by omega
      have fb12 : ¬cc + 12 = id := by omega
      have fb13 : ¬cc + 13 = id := by omega
      have fb14 : ¬cc + 14 = id := by omega
      have fb15 : ¬cc + 15 = id := by omega
      have fb16 : ¬cc + 16 = id := by omega
      have fb17 : ¬cc + 17 = id := by omega
      have fb18 : ¬cc + 18 = id := by omega
      have fb0 : ¬cc = id := by omega
      have fc1 : ¬id = cc + 1 := by omega
      have fc2 : ¬id = cc + 2 := by omega
      have fc3 : ¬id = cc + 3 := by omega
      have fc4 : ¬id = cc + 4 := by omega
      have fc5 : ¬id = cc + 5 := by omega
      have fc6 : ¬id = cc + 6 := by omega
      have fc7 : ¬id = cc + 7 := by omega
      have fc8 : ¬id = cc + 8 := by omega
      have fc9 : ¬id = cc + 9 := by omega
      have fc10 : ¬id = cc + 10 := by omega
      have fc11 : ¬id = cc + 11 := by omega
      have fc12 : ¬id = cc + 12 := by omega
      have fc13 : ¬id = cc + 13 := by omega
      have fc14 : ¬id = cc + 14 := by omega
      have fc15 : ¬id = cc + 15 := by omega
      have fc16 : ¬id = cc + 16 := by omega
      have fc17 : ¬id = cc + 17 := by omega
      have fc18 : ¬id = cc + 18 := by omega
      have fc0 : ¬id = cc := by omega
      repeat' ((first | with_reducible refine wr ?_ | with_reducible refine i_ret ?_ | with_reducible refine i_skip ?_ | with_reducible refine i_exit ?_ | ((with_reducible refine k_cb ?_ ?_) <;> (intro hb; try simp only [hb])) | ((with_reducible refine k_gb ?_ ?_) <;> (intro hb; try simp only [hb])) | ((with_reducible refine k_gb' ?_ ?_) <;> (intro hb; try simp only [hb])) | ((with_reducible refine k_eval (b_appx hL (by omega) (by omega)) ?_)) | ((with_reducible refine x_eval (b_appx hL (by omega) (by omega)) ?_)) | ((with_reducible refine AC.call ((c_ItoaS' (k : Int) (by omega) (by omega)).at _ _) ?_); rintro _ _ _ ⟨rfl, rfl, rfl⟩ -) | ((with_reducible refine AC.call ((c_ItoaS' _ hx.1.1 hx.1.2).at _ _) ?_); rintro _ _ _ ⟨rfl, rfl, rfl⟩ -) | ((with_reducible refine AC.call ((c_ItoaS' _ hx.2.1 hx.2.2).at _ _) ?_); rintro _ _ _ ⟨rfl, rfl, rfl⟩ -)) <;> try simp only [go_sem, Nat.reduceAdd, Nat.reduceLeDiff, Nat.reduceEqDiff, Nat.reduceMul, Nat.reduceSub, ↓reduceIte, Int.reduceLT, Int.reduceLE, Int.reduceGT, Int.reduceGE, Nat.reduceLT, Nat.reduceGT, Int.reduceToNat, reduceCtorEq, Nat.reduceBEq, Int.reduceBEq, Int.reduceBNe, Int.reduceEq, Int.reduceNe, decide_true, decide_false, hd, hg, hw, a1, a2, a3, a4, a5, fa1, fa2, fa3, fa4, fa5, fa6, fa7, fa8, fa9, fa10, fa11, fa12, fa13, fa14, fa15, fa16, fa17, fa18, fb0, fc0, fb1, fc1, fb2, fc2, fb3, fc3, fb4, fc4, fb5, fc5, fb6, fc6, fb7, fc7, fb8, fc8, fb9, fc9, fb10, fc10, fb11, fc11, fb12, fc12, fb13, fc13, fb14, fc14, fb15, fc15, fb16, fc16, fb17, fc17, fb18, fc18])
      exact ⟨(k + 1, some (cc + 1 + 17)), ⟨rfl, rfl⟩, by simp only [est, lineB]; (intro j b hj; simp only [optH, Hp.upd, Hp.del, Sym.nil] at hj ⊢; (repeat' split at hj) <;> (repeat' split) <;> first | exact hj | (exfalso; omega) | cases hj), inv ⟨hlt, by simp, fun i hi => by cases hi; omega⟩, by simp only; omega⟩
  have hd : decide ((k : Int) < c.instrs.length) = false := by simpa using hlt
  rw [List.take_of_length_le (by omega)] at hkl ⊢
  have hll := lstF_len c.instrs 0 (by omega) (fun i hi => by have := hb i hi; exact ⟨⟨by omega, by omega⟩, by omega, by omega⟩)
  have hj := c_Join (lnM c.instrs 0) (by omega) (by rw [lnM_flat]; omega)
  rw [lnM_flat] at hj
  have hkn : k = c.instrs.length := by omega
  rcases o with _ | id
  · have hk0 := hno rfl
    have h00 : c.instrs = [] := List.eq_nil_of_length_eq_zero (by omega)
    repeat' ((first | with_reducible refine wr ?_ | with_reducible refine i_ret ?_ | with_reducible refine i_skip ?_ | with_reducible refine i_exit ?_ | ((with_reducible refine k_cb ?_ ?_) <;> (intro hb; try simp only [hb])) | ((with_reducible refine k_gb ?_ ?_) <;> (intro hb; try simp only [hb])) | ((with_reducible refine k_gb' ?_ ?_) <;> (intro hb; try simp only [hb]))) <;> try simp only [go_sem, Nat.reduceAdd, Nat.reduceLeDiff, Nat.reduceEqDiff, Nat.reduceMul, Nat.reduceSub, ↓reduceIte, Int.reduceLT, Int.reduceLE, Int.reduceGT, Int.reduceGE, Nat.reduceLT, Nat.reduceGT, Int.reduceToNat, reduceCtorEq, Nat.reduceBEq, Int.reduceBEq, Int.reduceBNe, Int.reduceEq, Int.reduceNe, decide_true, decide_false, hd])
    refine AC.call (hj.give (H0 := Sym.nil) ⟨fun _ h => h, fun ρ w vs h1 h2 => ⟨ρ, rfl, h1, ?_, Ext.refl _ _ _⟩⟩) ?_
    · rw [h00]
      exact ⟨h2.1, fun i x y hx hy => by
        match i with
        | 0 => cases hx; exact (h2.2 0 _ y rfl hy).snil_lst
        | 1 => cases hx; exact h2.2 1 _ y rfl hy
        | _ + 2 => cases hx⟩
    · rintro v H' c' ⟨rfl, rfl, rfl⟩ -
      simp only [go_sem, Nat.reduceAdd, Nat.reduceLeDiff, Nat.reduceEqDiff, Nat.reduceMul, Nat.reduceSub, ↓reduceIte, Int.reduceLT, Int.reduceLE, Int.reduceGT, Int.reduceGE, Nat.reduceLT, Nat.reduceGT, Int.reduceToNat, reduceCtorEq, Nat.reduceBEq, Int.reduceBEq, Int.reduceBNe, Int.reduceEq, Int.reduceNe, decide_true, decide_false]
      repeat' ((first | with_reducible refine wr ?_ | with_reducible refine i_ret ?_ | with_reducible refine i_skip ?_ | with_reducible refine i_exit ?_ | ((with_reducible refine k_cb ?_ ?_) <;> (intro hb; try simp only [hb])) | ((with_reducible refine k_gb ?_ ?_) <;> (intro hb; try simp only [hb])) | ((with_reducible refine k_gb' ?_ ?_) <;> (intro hb; try simp only [hb]))) <;> try simp only [go_sem, Nat.reduceAdd, Nat.reduceLeDiff, Nat.reduceEqDiff, Nat.reduceMul, Nat.reduceSub, ↓reduceIte, Int.reduceLT, Int.reduceLE, Int.reduceGT, Int.reduceGE, Nat.reduceLT, Nat.reduceGT, Int.reduceToNat, reduceCtorEq, Nat.reduceBEq, Int.reduceBEq, Int.reduceBNe, Int.reduceEq, Int.reduceNe, decide_true, decide_false])
      exact pc_ret rfl
  · repeat' ((first | with_reducible refine wr ?_ | with_reducible refine i_ret ?_ | with_reducible refine i_skip ?_ | with_reducible refine i_exit ?_ | ((with_reducible refine k_cb ?_ ?_) <;> (intro hb; try simp only [hb])) | ((with_reducible refine k_gb ?_ ?_) <;> (intro hb; try simp only [hb])) | ((with_reducible refine k_gb' ?_ ?_) <;> (intro hb; try simp only [hb]))) <;> try simp only [go_sem, Nat.reduceAdd, Nat.reduceLeDiff, Nat.reduceEqDiff, Nat.reduceMul, Nat.reduceSub, ↓reduceIte, Int.reduceLT, Int.reduceLE, Int.reduceGT, Int.reduceGE, Nat.reduceLT, Nat.reduceGT, Int.reduceToNat, reduceCtorEq, Nat.reduceBEq, Int.reduceBEq, Int.reduceBNe, Int.reduceEq, Int.reduceNe, decide_true, decide_false, hd])
    refine AC.call (hj.give (H0 := Sym.nil) (GL.one (id := id) h_same rfl (.cons _ _ _ _ (fz_slc (u := 1) (by rw [List.length_map, hkl]) (str_unit _) ⟨[], by simp⟩) (.cons _ _ _ _ (.same _) .nil)))) ?_
    rintro v H' c' ⟨rfl, rfl, rfl⟩ -
    simp only [go_sem, Nat.reduceAdd, Nat.reduceLeDiff, Nat.reduceEqDiff, Nat.reduceMul, Nat.reduceSub, ↓reduceIte, Int.reduceLT, Int.reduceLE, Int.reduceGT, Int.reduceGE, Nat.reduceLT, Nat.reduceGT, Int.reduceToNat, reduceCtorEq, Nat.reduceBEq, Int.reduceBEq, Int.reduceBNe, Int.reduceEq, Int.reduceNe, decide_true, decide_false]
    repeat' ((first | with_reducible refine wr ?_ | with_reducible refine i_ret ?_ | with_reducible refine i_skip ?_ | with_reducible refine i_exit ?_ | ((with_reducible refine k_cb ?_ ?_) <;> (intro hb; try simp only [hb])) | ((with_reducible refine k_gb ?_ ?_) <;> (intro hb; try simp only [hb])) | ((with_reducible refine k_gb' ?_ ?_) <;> (intro hb; try simp only [hb]))) <;> try simp only [go_sem, Nat.reduceAdd, Nat.reduceLeDiff, Nat.reduceEqDiff, Nat.reduceMul, Nat.reduceSub, ↓reduceIte, Int.reduceLT, Int.reduceLE, Int.reduceGT, Int.reduceGE, Nat.reduceLT, Nat.reduceGT, Int.reduceToNat, reduceCtorEq, Nat.reduceBEq, Int.reduceBEq, Int.reduceBNe, Int.reduceEq, Int.reduceNe, decide_true, decide_false])
    exact pc_ret rfl
end Go.Proofs.YtcallbfckjlagaaDoor
set_option maxHeartbeats 4000000
set_option maxRecDepth 100000
set_option linter.unusedSimpArgs false
set_option linter.unusedVariables false
namespace Go.Proofs.YtcallbfckjlagaaDoor
open Go.Eng (IC IOper DReg IFn IsFn Callable)
open Go.Sym Go.Pb Go.RowKit
noncomputable section
def u13_9r : List IOper := [⟨some 44, .pur (.mv (.t 3)), none⟩, ⟨some 45, .pur (.bin .eql (.t 44) (.k (.int .i64 0))), none⟩, ⟨some 46, .pur (.mv (.t 45)), none⟩, ⟨some 47, .pur (.mv (.t 2)), some (46, true)⟩, ⟨some 48, .new (.bsl 1 3 #[.int .i64 0] [(0, .k (.int .i64 0)), (1, .k (.int .i64 1)), (2, .k (.int .i64 0))]), some (46, true)⟩, ⟨some 49, .call 24 [.t 47, .t 48], some (46, true)⟩, ⟨some 50, .pur (.pick (.t 46) (.t 49) (.k (.bool false))), none⟩, ⟨some 51, .pur (.mv (.t 50)), none⟩, ⟨some 52, .pur (.ld 7 true (.t 4)), some (51, true)⟩, ⟨some 53, .call 14 [.t 52], some (51, true)⟩, ⟨some 54, .pur (.bin .eql (.t 53) (.k (.int .i64 53))), some (51, true)⟩, ⟨some 55, .pur (.pick (.t 51) (.t 54) (.k (.bool false))), none⟩, ⟨some 56, .pur (.mv (.t 55)), none⟩, ⟨some 57, .pur (.mv (.t 6)), some (56, true)⟩, ⟨some 58, .pur (.bin .eql (.t 57) (.k (.int .i64 0))), some (56, true)⟩, ⟨some 59, .pur (.pick (.t 56) (.t 58) (.k (.bool false))), none⟩, ⟨some 60, .pur (.mv (.t 59)), none⟩, ⟨some 61, .pur (.mv (.t 5)), some (60, true)⟩, ⟨some 62, .pur (.lens (.t 61)), some (60, true)⟩, ⟨some 63, .pur (.bin .eql (.t 62) (.k (.int .i64 18))), some (60, true)⟩, ⟨some 64, .pur (.pick (.t 60) (.t 63) (.k (.bool false))), none⟩, ⟨some 65, .pur (.mv (.t 64)), none⟩, ⟨some 66, .pur (.mv (.t 8)), some (65, true)⟩, ⟨some 67, .pur (.bin .eql (.t 66) (.k (.int .i64 0))), some (65, true)⟩, ⟨some 68, .pur (.pick (.t 65) (.t 67) (.k (.bool false))), none⟩, ⟨some 69, .pur (.mv (.t 68)), none⟩, ⟨some 70, .pur (.ld 7 true (.t 7)), some (69, true)⟩, ⟨some 71, .pur (.ld 7 true (.t 1)), some (69, true)⟩, ⟨some 72, .call 18 [.t 70, .t 71], some (69, true)⟩, ⟨some 73, .pur (.pick (.t 69) (.t 72) (.k (.bool false))), none⟩, ⟨some 74, .pur (.mv (.t 73)), none⟩, ⟨some 75, .pur (.mv (.t 9)), some (74, true)⟩, ⟨some 76, .pur (.bin .eql (.t 75) (.k (.int .i64 0))), some (74, true)⟩, ⟨some 77, .pur (.pick (.t 74) (.t 76) (.k (.bool false))), none⟩, ⟨some 78, .pur (.mv (.t 77)), none⟩, ⟨some 79, .pur (.mv (.t 10)), some (78, true)⟩, ⟨some 80, .pur (.pick (.t 78) (.t 79) (.k (.bool false))), none⟩, ⟨some 81, .pur (.mv (.t 80)), none⟩, ⟨some 82, .pur (.ld 7 true (.t 4)), some (81, true)⟩, ⟨some 83, .call 25 [.t 82], some (81, true)⟩, ⟨some 84, .pur (.bin .eql (.t 83) (.k (.string ⟨#[48, 32, 49, 53, 32, 48, 10, 49, 32, 51, 49, 32, 48, 10]⟩))), some (81, true)⟩, ⟨some 85, .pur (.pick (.t 81) (.t 84) (.k (.bool false))), none⟩, ⟨some 0, .pur (.mv (.t 85)), none⟩]
def u13_9 : IC := .seq (.reg u13_9r) .ret
def u13_8r : List IOper := [⟨some 40, .pur (.ld 7 true (.t 1)), none⟩, ⟨some 41, .call 29 [.t 40, .k (.int .i64 0), .k (.int .i64 1), .k (.int .i64 0)], none⟩, ⟨some 39, .pur (.mv (.t 41)), none⟩, ⟨some 42, .pur (.ext (.t 39) 0), none⟩, ⟨some 43, .pur (.ext (.t 39) 1), none⟩, ⟨some 9, .pur (.mv (.t 42)), none⟩, ⟨some 10, .pur (.mv (.t 43)), none⟩]
def u13_8 : IC := .seq (.reg u13_8r) u13_9
def u13_7r : List IOper := [⟨some 35, .pur (.mv (.t 5)), none⟩, ⟨some 36, .call 16 [.t 35], none⟩, ⟨some 34, .pur (.mv (.t 36)), none⟩, ⟨some 37, .pur (.ext (.t 34) 0), none⟩, ⟨some 38, .pur (.ext (.t 34) 1), none⟩, ⟨some 7, .new (.box (.k (.agg #[.slice none 0 0, .slice none 0 0, .slice none 0 0, .slice none 0 0, .slice none 0 0, .int .i64 0, .int .i64 0]))), none⟩, ⟨none, .eff (.st 7 (.t 7) (.t 37)), none⟩, ⟨some 8, .pur (.mv (.t 38)), none⟩]
def u13_7 : IC := .seq (.reg u13_7r) u13_8
def u13_6r : List IOper := [⟨some 30, .pur (.ld 7 true (.t 1)), none⟩, ⟨some 31, .call 19 [.t 30], none⟩, ⟨some 29, .pur (.mv (.t 31)), none⟩, ⟨some 32, .pur (.ext (.t 29) 0), none⟩, ⟨some 33, .pur (.ext (.t 29) 1), none⟩, ⟨some 5, .pur (.mv (.t 32)), none⟩, ⟨some 6, .pur (.mv (.t 33)), none⟩]
def u13_6 : IC := .seq (.reg u13_6r) u13_7
def u13_5r : List IOper := [⟨some 25, .pur (.fad 0 (.t 1)), none⟩, ⟨some 26, .pur (.ld 1 false (.t 25)), none⟩, ⟨some 27, .pur (.slc 2 (.t 26) (some (.k (.int .i64 1))) none), none⟩, ⟨some 28, .pur (.fad 0 (.t 4)), none⟩, ⟨none, .eff (.st 1 (.t 28) (.t 27)), none⟩]
def u13_5 : IC := .seq (.reg u13_5r) u13_6
def u13_4r : List IOper := [⟨some 24, .pur (.ld 7 true (.t 1)), none⟩, ⟨some 4, .new (.box (.k (.agg #[.slice none 0 0, .slice none 0 0, .slice none 0 0, .slice none 0 0, .slice none 0 0, .int .i64 0, .int .i64 0]))), none⟩, ⟨none, .eff (.st 7 (.t 4) (.t 24)), none⟩]
def u13_4 : IC := .seq (.reg u13_4r) u13_5
def u13_3r : List IOper := [⟨some 20, .pur (.ld 7 true (.t 1)), none⟩, ⟨some 21, .call 20 [.t 20], none⟩, ⟨some 19, .pur (.mv (.t 21)), none⟩, ⟨some 22, .pur (.ext (.t 19) 0), none⟩, ⟨some 23, .pur (.ext (.t 19) 1), none⟩, ⟨some 2, .pur (.mv (.t 22)), none⟩, ⟨some 3, .pur (.mv (.t 23)), none⟩]
def u13_3 : IC := .seq (.reg u13_3r) u13_4
def u13_2r : List IOper := [⟨some 11, .pur (.bld #[.int .i64 0, .int .i64 0] [(0, 1), (1, 1)] [(0, .k (.int .i64 1)), (1, .k (.int .i64 5))]), none⟩, ⟨some 12, .pur (.bld #[.int .i64 0, .int .i64 0] [(0, 1), (1, 1)] [(0, .k (.int .i64 15))]), none⟩, ⟨some 13, .pur (.bld #[.int .i64 0, .int .i64 0] [(0, 1), (1, 1)] [(0, .k (.int .i64 31))]), none⟩, ⟨some 14, .new (.bsl 2 3 #[.int .i64 0, .int .i64 0] [(0, .t 11), (1, .t 12), (2, .t 13)]), none⟩, ⟨some 15, .pur (.bld #[.int .i64 0, .int .i64 0, .int .i64 0, .int .i64 0] [(0, 1), (1, 1), (2, 1), (3, 1)] [(1, .k (.int .i64 1))]), none⟩, ⟨some 16, .new (.bsl 4 1 #[.int .i64 0, .int .i64 0, .int .i64 0, .int .i64 0] [(0, .t 15)]), none⟩, ⟨some 17, .new (.bsl 1 1 #[.int .i64 0] [(0, .k (.int .i64 1))]), none⟩, ⟨some 18, .pur (.bld #[.slice none 0 0, .slice none 0 0, .slice none 0 0, .slice none 0 0, .slice none 0 0, .int .i64 0, .int .i64 0] [(0, 1), (1, 1), (2, 1), (3, 1), (4, 1), (5, 1), (6, 1)] [(0, .t 14), (2, .t 16), (3, .t 17)]), none⟩, ⟨some 1, .new (.box (.k (.agg #[.slice none 0 0, .slice none 0 0, .slice none 0 0, .slice none 0 0, .slice none 0 0, .int .i64 0, .int .i64 0]))), none⟩, ⟨none, .eff (.st 7 (.t 1) (.t 18)), none⟩]
def u13_2 : IC := .seq (.reg u13_2r) u13_3
def u13_1r : List IOper := [⟨some 0, .pur (.mv (.k (.bool false))), none⟩]
def u13_1 : IC := .seq (.reg u13_1r) u13_2
def u13 : IFn := ⟨86, u13_1, [.tmp 0]⟩
end
theorem isU13 : IsFn Tryd.prog 13 u13 := by unfold IsFn; kernel_rfl
instance i13_9 : WR Tryd.prog 86 u13_9 (rS u13_9r .ret [1, 2, 3, 4, 5, 6, 7, 8, 9, 10]) := ⟨mkS⟩
instance i13_8 : WR Tryd.prog 86 u13_8 (rS u13_8r u13_9 [1, 2, 3, 4, 5, 6, 7, 8]) := ⟨mkS⟩
instance i13_7 : WR Tryd.prog 86 u13_7 (rS u13_7r u13_8 [1, 2, 3, 4, 5, 6]) := ⟨mkS⟩
instance i13_6 : WR Tryd.prog 86 u13_6 (rS u13_6r u13_7 [1, 2, 3, 4]) := ⟨mkS⟩
instance i13_5 : WR Tryd.prog 86 u13_5 (rS u13_5r u13_6 [1, 2, 3, 4]) := ⟨mkS⟩
instance i13_4 : WR Tryd.prog 86 u13_4 (rS u13_4r u13_5 [1, 2, 3]) := ⟨mkS⟩
instance i13_3 : WR Tryd.prog 86 u13_3 (rS u13_3r u13_4 [1]) := ⟨mkS⟩
instance i13_2 : WR Tryd.prog 86 u13_2 (rS u13_2r u13_3 []) := ⟨mkS⟩
instance i13_1 : WR Tryd.prog 86 u13_1 (rS u13_1r u13_2 []) := ⟨mkS⟩
attribute [go_sem] u13_9r u13_8r u13_7r u13_6r u13_5r u13_4r u13_3r u13_2r u13_1r
def sn1 : Prg := ⟨[⟨1, 5⟩, ⟨15, 0⟩, ⟨31, 0⟩], [], [⟨0, 1, 0, 0⟩], [1], [], 0, 0⟩
def sn2 : Prg := ⟨[⟨15, 0⟩, ⟨31, 0⟩], [], [⟨0, 1, 0, 0⟩], [1], [], 0, 0⟩
theorem sn1_valid : validM sn1 = 0 := by decide +kernel
theorem sn2_valid : validM sn2 = 53 := by decide +kernel
theorem sn1_hts : vHts sn1 = [0, 1, 0] := by decide +kernel
theorem numI_lt {n : Int} (h : zig n < 128) : numI n = [UInt8.ofNat (zig n)] := numB_lt h
theorem sn1_enc : encV sn1 = [6, 2, 10, 30, 0, 62, 0, 0, 2, 0, 2, 0, 0, 2, 2, 0, 0, 0] := by
  rw [encV, if_pos sn1_valid]
  simp [encM, sn1, insB, entB, numsB, numI_lt, zig]
theorem sn1_dec : decP [6, 2, 10, 30, 0, 62, 0, 0, 2, 0, 2, 0, 0, 2, 2, 0, 0, 0] = some sn1 := by
  have e : rdPrg ([6, 2, 10, 30, 0, 62, 0, 0, 2, 0, 2, 0, 0, 2, 2, 0, 0, 0], false) = (sn1, ([], false)) := by decide +kernel
  rw [decP, e]
  simp [sn1_valid, sn1_enc]
theorem sn2_list : lstF sn2.instrs 0 = [48, 32, 49, 53, 32, 48, 10, 49, 32, 51, 49, 32, 48, 10] := by
  have d0 : decI 0 = [48] := by rw [decI, if_neg (by omega), decB_lt (by decide)]; rfl
  have d1 : decI 1 = [49] := by rw [decI, if_neg (by omega), decB_lt (by decide)]; rfl
  have d15 : decI 15 = [49, 53] := by rw [decI, if_neg (by omega), decB_ge (by decide), decB_lt (by decide)]; rfl
  have d31 : decI 31 = [51, 49] := by rw [decI, if_neg (by omega), decB_ge (by decide), decB_lt (by decide)]; rfl
  simp [lstF, sn2, lineB, d0, d1, d15, d31]
theorem c_sane : PC Tryd.prog 13 [] (.bool true) := by
  refine PC.of mixedU isU13 (Nat.le_of_ble_eq_true rfl) (by simp [DV.nlL, DV.nl, nlL_ints, nlL_strs, nlL_instrs, nlL_entries, nlL_stp]) (by simp [DV.nlL, DV.nl, nlL_ints, nlL_strs, nlL_instrs, nlL_entries, nlL_stp]) ?_
  show IW Tryd.prog 86 u13_1 ⟨argT _, _, _⟩ (rt [.tmp 0] _)
  repeat' ((first | with_reducible refine wr ?_ | with_reducible refine i_ret ?_ | with_reducible refine i_skip ?_ | with_reducible refine i_exit ?_ | ((with_reducible refine k_cb ?_ ?_) <;> (intro hb; try simp only [hb])) | ((with_reducible refine k_gb ?_ ?_) <;> (intro hb; try simp only [hb])) | ((with_reducible refine k_gb' ?_ ?_) <;> (intro hb; try simp only [hb]))) <;> try simp only [go_sem, Nat.reduceAdd, Nat.reduceLeDiff, Nat.reduceEqDiff, Nat.reduceMul, Nat.reduceSub, ↓reduceIte, Int.reduceLT, Int.reduceLE, Int.reduceGT, Int.reduceGE, Nat.reduceLT, Nat.reduceGT, Int.reduceToNat, reduceCtorEq, Nat.reduceBEq, Int.reduceBEq, Int.reduceBNe, Int.reduceEq, Int.reduceNe, decide_true, decide_false])
  refine AC.ghost ((g_one (a := 0) (k := 3) (u := 2) (u' := 2) (pre := []) (suf := [.snil, .slc 1 0 1, .slc 2 0 1, .snil, I64 0, I64 0]) (xs := sn1.instrs.map Ins.v) (junk := []) rfl rfl (by simp [DV.one]) rfl (ins_unit _) (by decide)).trans
    ((g_one (a := 1) (k := 3) (u := 4) (u' := 4) (pre := [inssV sn1.instrs, .snil]) (suf := [.slc 2 0 1, .snil, I64 0, I64 0]) (xs := sn1.entries.map Ent.v) (junk := []) rfl rfl (by simp [DV.one]) rfl (ent_unit _) (by decide)).trans
    ((g_one (a := 2) (k := 3) (u := 1) (u' := 1) (pre := [inssV sn1.instrs, .snil, entsV sn1.entries]) (suf := [.snil, I64 0, I64 0]) (xs := sn1.prios.map I64) (junk := []) rfl rfl (by simp [DV.one]) rfl (ints_unit _) (by decide)).trans
    ((g_nil (k := 3) (pre := [inssV sn1.instrs]) (suf := [entsV sn1.entries, ints sn1.prios, .snil, I64 0, I64 0]) rfl).trans
    ((g_nil (k := 3) (pre := [inssV sn1.instrs, strs [], entsV sn1.entries, ints sn1.prios]) (suf := [I64 0, I64 0]) rfl).trans
    (GL.less (H0 := Sym.nil.upd 3 ⟨0, true, [inssV sn1.instrs, strs [], entsV sn1.entries, ints sn1.prios, ints [], I64 0, I64 0]⟩) fun j => ?_)))))) ?_
  · by_cases ej : j = 3
    · subst ej; exact .inr rfl
    · left; rw [h_ne ej]; rfl
  have h18 : (((18 : Nat) : Int) == 18) = true := rfl
  have hsl : ∀ H, slcR H 2 (inssV sn1.instrs) (some (I64 1)) none = some (inssV sn2.instrs) := fun H => rfl
  refine AC.call ((c_Heights sn1 (by simp [sn1]) (by simp [sn1])).at _ _) ?_
  rintro _ _ _ ⟨rfl, rfl, rfl⟩ -
  rw [sn1_valid, sn1_hts]
  simp only [go_sem, Nat.reduceAdd, Nat.reduceLeDiff, Nat.reduceEqDiff, Nat.reduceMul, Nat.reduceSub, ↓reduceIte, Int.reduceLT, Int.reduceLE, Int.reduceGT, Int.reduceGE, Nat.reduceLT, Nat.reduceGT, Int.reduceToNat, reduceCtorEq, Nat.reduceBEq, Int.reduceBEq, Int.reduceBNe, Int.reduceEq, Int.reduceNe, decide_true, decide_false, h18]
  repeat' ((first | with_reducible refine wr ?_ | with_reducible refine i_ret ?_ | with_reducible refine i_skip ?_ | with_reducible refine i_exit ?_ | ((with_reducible refine k_cb ?_ ?_) <;> (intro hb; try simp only [hb])) | ((with_reducible refine k_gb ?_ ?_) <;> (intro hb; try simp only [hb])) | ((with_reducible refine k_gb' ?_ ?_) <;> (intro hb; try simp only [hb]))) <;> try simp only [go_sem, Nat.reduceAdd, Nat.reduceLeDiff, Nat.reduceEqDiff, Nat.reduceMul, Nat.reduceSub, ↓reduceIte, Int.reduceLT, Int.reduceLE, Int.reduceGT, Int.reduceGE, Nat.reduceLT, Nat.reduceGT, Int.reduceToNat, reduceCtorEq, Nat.reduceBEq, Int.reduceBEq, Int.reduceBNe, Int.reduceEq, Int.reduceNe, decide_true, decide_false, hsl, h18])
  refine AC.call ((c_Encode sn1 (by simp [sn1]) (by simp [sn1])).at _ _) ?_
  rintro _ _ _ ⟨rfl, rfl, rfl⟩ -
  rw [sn1_valid, sn1_enc]
  simp only [go_sem, Nat.reduceAdd, Nat.reduceLeDiff, Nat.reduceEqDiff, Nat.reduceMul, Nat.reduceSub, ↓reduceIte, Int.reduceLT, Int.reduceLE, Int.reduceGT, Int.reduceGE, Nat.reduceLT, Nat.reduceGT, Int.reduceToNat, reduceCtorEq, Nat.reduceBEq, Int.reduceBEq, Int.reduceBNe, Int.reduceEq, Int.reduceNe, decide_true, decide_false, h18]
  repeat' ((first | with_reducible refine wr ?_ | with_reducible refine i_ret ?_ | with_reducible refine i_skip ?_ | with_reducible refine i_exit ?_ | ((with_reducible refine k_cb ?_ ?_) <;> (intro hb; try simp only [hb])) | ((with_reducible refine k_gb ?_ ?_) <;> (intro hb; try simp only [hb])) | ((with_reducible refine k_gb' ?_ ?_) <;> (intro hb; try simp only [hb]))) <;> try simp only [go_sem, Nat.reduceAdd, Nat.reduceLeDiff, Nat.reduceEqDiff, Nat.reduceMul, Nat.reduceSub, ↓reduceIte, Int.reduceLT, Int.reduceLE, Int.reduceGT, Int.reduceGE, Nat.reduceLT, Nat.reduceGT, Int.reduceToNat, reduceCtorEq, Nat.reduceBEq, Int.reduceBEq, Int.reduceBNe, Int.reduceEq, Int.reduceNe, decide_true, decide_false, hsl, h18])
  refine AC.call ((c_Decode _ (by simp)).at _ _) ?_
  rintro _ _ _ ⟨rfl, rfl, rfl⟩ -
  have hdv : decV (some sn1) = .tup [.agg [inssV sn1.instrs, strs [], entsV sn1.entries, ints sn1.prios, ints [], I64 0, I64 0], I64 0] := rfl
  rw [sn1_dec, hdv]
  simp only [go_sem, Nat.reduceAdd, Nat.reduceLeDiff, Nat.reduceEqDiff, Nat.reduceMul, Nat.reduceSub, ↓reduceIte, Int.reduceLT, Int.reduceLE, Int.reduceGT, Int.reduceGE, Nat.reduceLT, Nat.reduceGT, Int.reduceToNat, reduceCtorEq, Nat.reduceBEq, Int.reduceBEq, Int.reduceBNe, Int.reduceEq, Int.reduceNe, decide_true, decide_false, h18]
  repeat' ((first | with_reducible refine wr ?_ | with_reducible refine i_ret ?_ | with_reducible refine i_skip ?_ | with_reducible refine i_exit ?_ | ((with_reducible refine k_cb ?_ ?_) <;> (intro hb; try simp only [hb])) | ((with_reducible refine k_gb ?_ ?_) <;> (intro hb; try simp only [hb])) | ((with_reducible refine k_gb' ?_ ?_) <;> (intro hb; try simp only [hb]))) <;> try simp only [go_sem, Nat.reduceAdd, Nat.reduceLeDiff, Nat.reduceEqDiff, Nat.reduceMul, Nat.reduceSub, ↓reduceIte, Int.reduceLT, Int.reduceLE, Int.reduceGT, Int.reduceGE, Nat.reduceLT, Nat.reduceGT, Int.reduceToNat, reduceCtorEq, Nat.reduceBEq, Int.reduceBEq, Int.reduceBNe, Int.reduceEq, Int.reduceNe, decide_true, decide_false, hsl, h18])
  refine AC.call ((c_Find sn1 (by simp [sn1]) 0 1 0).at _ _) ?_
  rintro _ _ _ ⟨rfl, rfl, rfl⟩ -
  have hfd : findV (findM 0 1 0 sn1.entries) = .tup [I64 0, .bool true] := rfl
  rw [hfd]
  simp only [go_sem, Nat.reduceAdd, Nat.reduceLeDiff, Nat.reduceEqDiff, Nat.reduceMul, Nat.reduceSub, ↓reduceIte, Int.reduceLT, Int.reduceLE, Int.reduceGT, Int.reduceGE, Nat.reduceLT, Nat.reduceGT, Int.reduceToNat, reduceCtorEq, Nat.reduceBEq, Int.reduceBEq, Int.reduceBNe, Int.reduceEq, Int.reduceNe, decide_true, decide_false, h18]
  repeat' ((first | with_reducible refine wr ?_ | with_reducible refine i_ret ?_ | with_reducible refine i_skip ?_ | with_reducible refine i_exit ?_ | ((with_reducible refine k_cb ?_ ?_) <;> (intro hb; try simp only [hb])) | ((with_reducible refine k_gb ?_ ?_) <;> (intro hb; try simp only [hb])) | ((with_reducible refine k_gb' ?_ ?_) <;> (intro hb; try simp only [hb]))) <;> try simp only [go_sem, Nat.reduceAdd, Nat.reduceLeDiff, Nat.reduceEqDiff, Nat.reduceMul, Nat.reduceSub, ↓reduceIte, Int.reduceLT, Int.reduceLE, Int.reduceGT, Int.reduceGE, Nat.reduceLT, Nat.reduceGT, Int.reduceToNat, reduceCtorEq, Nat.reduceBEq, Int.reduceBEq, Int.reduceBNe, Int.reduceEq, Int.reduceNe, decide_true, decide_false, hsl, h18])
  refine AC.call ((c_SameInts [0, 1, 0] [0, 1, 0] (by simp)).lend (H0 := Sym.nil) rfl (GL.one (id := 6) h_same rfl (.cons _ _ _ _ (.same _) (.cons _ _ _ _ (fz_slc (u := 1) rfl (ints_unit [0, 1, 0]) ⟨[], rfl⟩) .nil)))) ?_
  rintro _ _ _ ⟨rfl, rfl, rfl⟩ -
  simp only [go_sem, Nat.reduceAdd, Nat.reduceLeDiff, Nat.reduceEqDiff, Nat.reduceMul, Nat.reduceSub, ↓reduceIte, Int.reduceLT, Int.reduceLE, Int.reduceGT, Int.reduceGE, Nat.reduceLT, Nat.reduceGT, Int.reduceToNat, reduceCtorEq, Nat.reduceBEq, Int.reduceBEq, Int.reduceBNe, Int.reduceEq, Int.reduceNe, decide_true, decide_false, h18]
  repeat' ((first | with_reducible refine wr ?_ | with_reducible refine i_ret ?_ | with_reducible refine i_skip ?_ | with_reducible refine i_exit ?_ | ((with_reducible refine k_cb ?_ ?_) <;> (intro hb; try simp only [hb])) | ((with_reducible refine k_gb ?_ ?_) <;> (intro hb; try simp only [hb])) | ((with_reducible refine k_gb' ?_ ?_) <;> (intro hb; try simp only [hb]))) <;> try simp only [go_sem, Nat.reduceAdd, Nat.reduceLeDiff, Nat.reduceEqDiff, Nat.reduceMul, Nat.reduceSub, ↓reduceIte, Int.reduceLT, Int.reduceLE, Int.reduceGT, Int.reduceGE, Nat.reduceLT, Nat.reduceGT, Int.reduceToNat, reduceCtorEq, Nat.reduceBEq, Int.reduceBEq, Int.reduceBNe, Int.reduceEq, Int.reduceNe, decide_true, decide_false, hsl, h18])
  refine AC.call ((c_valid sn2 (by simp [sn2]) (by simp [sn2])).at _ _) ?_
  rintro _ _ _ ⟨rfl, rfl, rfl⟩ -
  rw [sn2_valid]
  simp only [go_sem, Nat.reduceAdd, Nat.reduceLeDiff, Nat.reduceEqDiff, Nat.reduceMul, Nat.reduceSub, ↓reduceIte, Int.reduceLT, Int.reduceLE, Int.reduceGT, Int.reduceGE, Nat.reduceLT, Nat.reduceGT, Int.reduceToNat, reduceCtorEq, Nat.reduceBEq, Int.reduceBEq, Int.reduceBNe, Int.reduceEq, Int.reduceNe, decide_true, decide_false, h18]
  repeat' ((first | with_reducible refine wr ?_ | with_reducible refine i_ret ?_ | with_reducible refine i_skip ?_ | with_reducible refine i_exit ?_ | ((with_reducible refine k_cb ?_ ?_) <;> (intro hb; try simp only [hb])) | ((with_reducible refine k_gb ?_ ?_) <;> (intro hb; try simp only [hb])) | ((with_reducible refine k_gb' ?_ ?_) <;> (intro hb; try simp only [hb]))) <;> try simp only [go_sem, Nat.reduceAdd, Nat.reduceLeDiff, Nat.reduceEqDiff, Nat.reduceMul, Nat.reduceSub, ↓reduceIte, Int.reduceLT, Int.reduceLE, Int.reduceGT, Int.reduceGE, Nat.reduceLT, Nat.reduceGT, Int.reduceToNat, reduceCtorEq, Nat.reduceBEq, Int.reduceBEq, Int.reduceBNe, Int.reduceEq, Int.reduceNe, decide_true, decide_false, hsl, h18])
  refine AC.call ((c_SameR sn1 sn1 (by simp [sn1]) (by simp [sn1]) (by simp [sn1]) (by simp [sn1]) (by simp [sn1])).at _ _) ?_
  rintro _ _ _ ⟨rfl, rfl, rfl⟩ -
  simp only [go_sem, Nat.reduceAdd, Nat.reduceLeDiff, Nat.reduceEqDiff, Nat.reduceMul, Nat.reduceSub, ↓reduceIte, Int.reduceLT, Int.reduceLE, Int.reduceGT, Int.reduceGE, Nat.reduceLT, Nat.reduceGT, Int.reduceToNat, reduceCtorEq, Nat.reduceBEq, Int.reduceBEq, Int.reduceBNe, Int.reduceEq, Int.reduceNe, decide_true, decide_false, h18]
  repeat' ((first | with_reducible refine wr ?_ | with_reducible refine i_ret ?_ | with_reducible refine i_skip ?_ | with_reducible refine i_exit ?_ | ((with_reducible refine k_cb ?_ ?_) <;> (intro hb; try simp only [hb])) | ((with_reducible refine k_gb ?_ ?_) <;> (intro hb; try simp only [hb])) | ((with_reducible refine k_gb' ?_ ?_) <;> (intro hb; try simp only [hb]))) <;> try simp only [go_sem, Nat.reduceAdd, Nat.reduceLeDiff, Nat.reduceEqDiff, Nat.reduceMul, Nat.reduceSub, ↓reduceIte, Int.reduceLT, Int.reduceLE, Int.reduceGT, Int.reduceGE, Nat.reduceLT, Nat.reduceGT, Int.reduceToNat, reduceCtorEq, Nat.reduceBEq, Int.reduceBEq, Int.reduceBNe, Int.reduceEq, Int.reduceNe, decide_true, decide_false, hsl, h18])
  refine AC.call ((c_ListingS sn2 (by simp [sn2]) (by simp [sn2])).at _ _) ?_
  rintro _ _ _ ⟨rfl, rfl, rfl⟩ -
  rw [sn2_list]
  simp only [go_sem, Nat.reduceAdd, Nat.reduceLeDiff, Nat.reduceEqDiff, Nat.reduceMul, Nat.reduceSub, ↓reduceIte, Int.reduceLT, Int.reduceLE, Int.reduceGT, Int.reduceGE, Nat.reduceLT, Nat.reduceGT, Int.reduceToNat, reduceCtorEq, Nat.reduceBEq, Int.reduceBEq, Int.reduceBNe, Int.reduceEq, Int.reduceNe, decide_true, decide_false, h18]
  repeat' ((first | with_reducible refine wr ?_ | with_reducible refine i_ret ?_ | with_reducible refine i_skip ?_ | with_reducible refine i_exit ?_ | ((with_reducible refine k_cb ?_ ?_) <;> (intro hb; try simp only [hb])) | ((with_reducible refine k_gb ?_ ?_) <;> (intro hb; try simp only [hb])) | ((with_reducible refine k_gb' ?_ ?_) <;> (intro hb; try simp only [hb]))) <;> try simp only [go_sem, Nat.reduceAdd, Nat.reduceLeDiff, Nat.reduceEqDiff, Nat.reduceMul, Nat.reduceSub, ↓reduceIte, Int.reduceLT, Int.reduceLE, Int.reduceGT, Int.reduceGE, Nat.reduceLT, Nat.reduceGT, Int.reduceToNat, reduceCtorEq, Nat.reduceBEq, Int.reduceBEq, Int.reduceBNe, Int.reduceEq, Int.reduceNe, decide_true, decide_false, hsl, h18])
  exact pc_ret rfl
end Go.Proofs.YtcallbfckjlagaaDoor
set_option maxHeartbeats 4000000
set_option maxRecDepth 100000
set_option linter.unusedSimpArgs false
set_option linter.unusedVariables false
namespace Go.Proofs.YtcallbfckjlagaaDoor
open Go.Eng (IC IOper DReg IFn IsFn)
open Go.Sym Go.Pb
noncomputable section
def u52_6r : List IOper := [⟨some 5, .pur (.mv (.k (.int .i64 0))), none⟩]
def u52_6 : IC := .reg u52_6r
def u52_5 : IC := .cond (.t 15) u52_6 .skip
def u52_4r : List IOper := [⟨some 10, .pur (.mv (.t 1)), none⟩, ⟨some 11, .pur (.bin .leq (.t 10) (.k (.int .i64 0))), none⟩, ⟨some 12, .pur (.mv (.t 11)), none⟩, ⟨some 13, .pur (.mv (.t 5)), some (12, true)⟩, ⟨some 14, .pur (.bin .gtr (.t 13) (.k (.int .i64 5))), some (12, true)⟩, ⟨some 15, .pur (.pick (.t 12) (.t 14) (.k (.bool false))), none⟩]
def u52_4 : IC := .seq (.reg u52_4r) u52_5
def u52_12r : List IOper := [⟨some 19, .pur (.mv (.t 0)), none⟩, ⟨some 20, .call 27 [.t 19, .k (.int .i64 3)], none⟩, ⟨some 21, .pur (.bld #[.int .i64 0, .int .i64 0] [(0, 1), (1, 1)] [(0, .k (.int .i64 2)), (1, .t 20)]), none⟩, ⟨some 22, .new (.bsl 2 1 #[.int .i64 0, .int .i64 0] [(0, .t 21)]), none⟩, ⟨some 4, .pur (.mv (.t 22)), none⟩]
def u52_12 : IC := .seq (.reg u52_12r) .ret
def u52_15r : List IOper := [⟨some 25, .pur (.mv (.t 0)), none⟩, ⟨some 26, .call 27 [.t 25, .k (.int .i64 64)], none⟩, ⟨some 27, .pur (.bld #[.int .i64 0, .int .i64 0] [(0, 1), (1, 1)] [(0, .k (.int .i64 4)), (1, .t 26)]), none⟩, ⟨some 28, .new (.bsl 2 1 #[.int .i64 0, .int .i64 0] [(0, .t 27)]), none⟩, ⟨some 4, .pur (.mv (.t 28)), none⟩]
def u52_15 : IC := .seq (.reg u52_15r) .ret
def u52_18r : List IOper := [⟨some 31, .pur (.mv (.t 0)), none⟩, ⟨some 32, .call 27 [.t 31, .k (.int .i64 2)], none⟩, ⟨some 33, .pur (.bld #[.int .i64 0, .int .i64 0] [(0, 1), (1, 1)] [(0, .k (.int .i64 5)), (1, .t 32)]), none⟩, ⟨some 34, .new (.bsl 2 1 #[.int .i64 0, .int .i64 0] [(0, .t 33)]), none⟩, ⟨some 4, .pur (.mv (.t 34)), none⟩]
def u52_18 : IC := .seq (.reg u52_18r) .ret
def u52_21r : List IOper := [⟨some 37, .pur (.mv (.t 0)), none⟩, ⟨some 38, .call 27 [.t 37, .k (.int .i64 2)], none⟩, ⟨some 39, .pur (.bld #[.int .i64 0, .int .i64 0] [(0, 1), (1, 1)] [(0, .k (.int .i64 6)), (1, .t 38)]), none⟩, ⟨some 40, .new (.bsl 2 1 #[.int .i64 0, .int .i64 0] [(0, .t 39)]), none⟩, ⟨some 4, .pur (.mv (.t 40)), none⟩]
def u52_21 : IC := .seq (.reg u52_21r) .ret
def u52_24r : List IOper := [⟨some 43, .pur (.mv (.t 0)), none⟩, ⟨some 44, .call 27 [.t 43, .k (.int .i64 2)], none⟩, ⟨some 45, .pur (.bin .add (.k (.int .i64 7)) (.t 44)), none⟩, ⟨some 46, .pur (.bld #[.int .i64 0, .int .i64 0] [(0, 1), (1, 1)] [(0, .t 45)]), none⟩, ⟨some 47, .new (.bsl 2 1 #[.int .i64 0, .int .i64 0] [(0, .t 46)]), none⟩, ⟨some 4, .pur (.mv (.t 47)), none⟩]
def u52_24 : IC := .seq (.reg u52_24r) .ret
def u52_27r : List IOper := [⟨some 50, .pur (.mv (.t 0)), none⟩, ⟨some 51, .pur (.mv (.t 1)), none⟩, ⟨some 52, .pur (.bin .sub (.t 51) (.k (.int .i64 1))), none⟩, ⟨some 53, .call 52 [.t 50, .t 52], none⟩, ⟨some 54, .pur (.mv (.t 0)), none⟩, ⟨some 55, .call 27 [.t 54, .k (.int .i64 2)], none⟩, ⟨some 56, .pur (.bin .add (.k (.int .i64 9)) (.t 55)), none⟩, ⟨some 57, .pur (.bld #[.int .i64 0, .int .i64 0] [(0, 1), (1, 1)] [(0, .t 56)]), none⟩, ⟨some 58, .new (.bsl 2 1 #[.int .i64 0, .int .i64 0] [(0, .t 57)]), none⟩, ⟨some 59, .eff (.app 2 16 (.t 53) (.t 58)), none⟩, ⟨some 4, .pur (.mv (.t 59)), none⟩]
def u52_27 : IC := .seq (.reg u52_27r) .ret
def u52_31r : List IOper := [⟨some 62, .pur (.bin .eql (.t 16) (.k (.int .i64 8))), none⟩, ⟨some 60, .pur (.mv (.t 62)), none⟩]
def u52_31 : IC := .reg u52_31r
def u52_30 : IC := .cond (.t 60) .skip u52_31
def u52_29r : List IOper := [⟨some 61, .pur (.bin .eql (.t 16) (.k (.int .i64 7))), none⟩, ⟨some 60, .pur (.mv (.t 61)), none⟩]
def u52_29 : IC := .seq (.reg u52_29r) u52_30
def u52_35r : List IOper := [⟨some 71, .pur (.mv (.t 6)), none⟩, ⟨some 72, .pur (.mv (.t 7)), none⟩, ⟨some 73, .eff (.app 2 16 (.t 71) (.t 72)), none⟩, ⟨some 74, .pur (.mv (.t 0)), none⟩, ⟨some 75, .call 27 [.t 74, .k (.int .i64 13)], none⟩, ⟨some 76, .pur (.bin .add (.k (.int .i64 12)) (.t 75)), none⟩, ⟨some 77, .pur (.bld #[.int .i64 0, .int .i64 0] [(0, 1), (1, 1)] [(0, .k (.int .i64 11)), (1, .t 76)]), none⟩, ⟨some 78, .new (.bsl 2 1 #[.int .i64 0, .int .i64 0] [(0, .t 77)]), none⟩, ⟨some 79, .eff (.app 2 16 (.t 73) (.t 78)), none⟩, ⟨some 4, .pur (.mv (.t 79)), none⟩]
def u52_35 : IC := .seq (.reg u52_35r) .ret
def u52_34r : List IOper := [⟨some 67, .pur (.mv (.t 0)), none⟩, ⟨some 68, .pur (.mv (.t 1)), none⟩, ⟨some 69, .pur (.bin .sub (.t 68) (.k (.int .i64 1))), none⟩, ⟨some 70, .call 52 [.t 67, .t 69], none⟩, ⟨some 7, .pur (.mv (.t 70)), none⟩]
def u52_34 : IC := .seq (.reg u52_34r) u52_35
def u52_33r : List IOper := [⟨some 63, .pur (.mv (.t 0)), none⟩, ⟨some 64, .pur (.mv (.t 1)), none⟩, ⟨some 65, .pur (.bin .sub (.t 64) (.k (.int .i64 1))), none⟩, ⟨some 66, .call 52 [.t 63, .t 65], none⟩, ⟨some 6, .pur (.mv (.t 66)), none⟩]
def u52_33 : IC := .seq (.reg u52_33r) u52_34
def u52_32 : IC := .cond (.t 60) u52_33 .skip
def u52_28 : IC := .seq u52_29 u52_32
def u52_26 : IC := .cond (.t 48) u52_27 u52_28
def u52_25r : List IOper := [⟨some 49, .pur (.bin .eql (.t 16) (.k (.int .i64 6))), none⟩, ⟨some 48, .pur (.mv (.t 49)), none⟩]
def u52_25 : IC := .seq (.reg u52_25r) u52_26
def u52_23 : IC := .cond (.t 41) u52_24 u52_25
def u52_22r : List IOper := [⟨some 42, .pur (.bin .eql (.t 16) (.k (.int .i64 5))), none⟩, ⟨some 41, .pur (.mv (.t 42)), none⟩]
def u52_22 : IC := .seq (.reg u52_22r) u52_23
def u52_20 : IC := .cond (.t 35) u52_21 u52_22
def u52_19r : List IOper := [⟨some 36, .pur (.bin .eql (.t 16) (.k (.int .i64 4))), none⟩, ⟨some 35, .pur (.mv (.t 36)), none⟩]
def u52_19 : IC := .seq (.reg u52_19r) u52_20
def u52_17 : IC := .cond (.t 29) u52_18 u52_19
def u52_16r : List IOper := [⟨some 30, .pur (.bin .eql (.t 16) (.k (.int .i64 3))), none⟩, ⟨some 29, .pur (.mv (.t 30)), none⟩]
def u52_16 : IC := .seq (.reg u52_16r) u52_17
def u52_14 : IC := .cond (.t 23) u52_15 u52_16
def u52_13r : List IOper := [⟨some 24, .pur (.bin .eql (.t 16) (.k (.int .i64 2))), none⟩, ⟨some 23, .pur (.mv (.t 24)), none⟩]
def u52_13 : IC := .seq (.reg u52_13r) u52_14
def u52_11 : IC := .cond (.t 17) u52_12 u52_13
def u52_10r : List IOper := [⟨some 18, .pur (.bin .eql (.t 16) (.k (.int .i64 1))), none⟩, ⟨some 17, .pur (.mv (.t 18)), none⟩]
def u52_10 : IC := .seq (.reg u52_10r) u52_11
def u52_9 : IC := .blk 0 u52_10
def u52_8r : List IOper := [⟨some 16, .pur (.mv (.t 5)), none⟩]
def u52_8 : IC := .seq (.reg u52_8r) u52_9
def u52_36r : List IOper := [⟨some 80, .new (.bsl 1 10 #[.int .i64 0] [(0, .k (.int .i64 0)), (1, .k (.int .i64 1)), (2, .k (.int .i64 2)), (3, .k (.int .i64 3)), (4, .k (.int .i64 (-1))), (5, .k (.int .i64 7)), (6, .k (.int .i64 1000)), (7, .k (.int .i64 2147483647)), (8, .k (.int .i64 (-2147483647))), (9, .k (.int .i64 65536))]), none⟩, ⟨some 81, .pur (.mv (.t 0)), none⟩, ⟨some 82, .call 27 [.t 81, .k (.int .i64 10)], none⟩, ⟨some 83, .pur (.iad 1 (.t 80) (.t 82)), none⟩, ⟨some 84, .pur (.ld 1 false (.t 83)), none⟩, ⟨some 85, .pur (.bld #[.int .i64 0, .int .i64 0] [(0, 1), (1, 1)] [(0, .k (.int .i64 1)), (1, .t 84)]), none⟩, ⟨some 86, .new (.bsl 2 1 #[.int .i64 0, .int .i64 0] [(0, .t 85)]), none⟩, ⟨some 4, .pur (.mv (.t 86)), none⟩]
def u52_36 : IC := .seq (.reg u52_36r) .ret
def u52_7 : IC := .seq u52_8 u52_36
def u52_3 : IC := .seq u52_4 u52_7
def u52_2r : List IOper := [⟨some 8, .pur (.mv (.t 0)), none⟩, ⟨some 9, .call 27 [.t 8, .k (.int .i64 9)], none⟩, ⟨some 5, .pur (.mv (.t 9)), none⟩]
def u52_2 : IC := .seq (.reg u52_2r) u52_3
def u52_1r : List IOper := [⟨some 4, .pur (.mv (.k (.slice none 0 0))), none⟩]
def u52_1 : IC := .seq (.reg u52_1r) u52_2
def u52 : IFn := ⟨87, u52_1, [.tmp 4]⟩
end
theorem isU52 : IsFn Tryd.prog 52 u52 := by unfold IsFn; kernel_rfl
instance i52_6 : WR Tryd.prog 87 u52_6 (rE u52_6r [0, 1]) := ⟨mkE⟩
instance i52_5 : WR Tryd.prog 87 u52_5 (rCE (.t 15) u52_6 .skip [0, 1, 5, 15]) := ⟨mkCE⟩
instance i52_4 : WR Tryd.prog 87 u52_4 (rS u52_4r u52_5 [0, 1, 5]) := ⟨mkS⟩
instance i52_12 : WR Tryd.prog 87 u52_12 (rS u52_12r .ret [0]) := ⟨mkS⟩
instance i52_15 : WR Tryd.prog 87 u52_15 (rS u52_15r .ret [0]) := ⟨mkS⟩
instance i52_18 : WR Tryd.prog 87 u52_18 (rS u52_18r .ret [0]) := ⟨mkS⟩
instance i52_21 : WR Tryd.prog 87 u52_21 (rS u52_21r .ret [0]) := ⟨mkS⟩
instance i52_24 : WR Tryd.prog 87 u52_24 (rS u52_24r .ret [0]) := ⟨mkS⟩
instance i52_27 : WR Tryd.prog 87 u52_27 (rS u52_27r .ret [0, 1]) := ⟨mkS⟩
instance i52_31 : WR Tryd.prog 87 u52_31 (rE u52_31r [0, 1, 16]) := ⟨mkE⟩
instance i52_30 : WR Tryd.prog 87 u52_30 (rCE (.t 60) .skip u52_31 [0, 1, 16, 60]) := ⟨mkCE⟩
instance i52_29 : WR Tryd.prog 87 u52_29 (rS u52_29r u52_30 [0, 1, 16]) := ⟨mkS⟩
instance i52_35 : WR Tryd.prog 87 u52_35 (rS u52_35r .ret [0, 6, 7]) := ⟨mkS⟩
instance i52_34 : WR Tryd.prog 87 u52_34 (rS u52_34r u52_35 [0, 1, 6]) := ⟨mkS⟩
instance i52_33 : WR Tryd.prog 87 u52_33 (rS u52_33r u52_34 [0, 1]) := ⟨mkS⟩
instance i52_32 : WR Tryd.prog 87 u52_32 (rCE (.t 60) u52_33 .skip [0, 1, 60]) := ⟨mkCE⟩
instance i52_28 : WR Tryd.prog 87 u52_28 (rQ u52_29 u52_32 [0, 1, 16]) := ⟨mkQ⟩
instance i52_26 : WR Tryd.prog 87 u52_26 (rCE (.t 48) u52_27 u52_28 [0, 1, 16, 48]) := ⟨mkCE⟩
instance i52_25 : WR Tryd.prog 87 u52_25 (rS u52_25r u52_26 [0, 1, 16]) := ⟨mkS⟩
instance i52_23 : WR Tryd.prog 87 u52_23 (rCE (.t 41) u52_24 u52_25 [0, 1, 16, 41]) := ⟨mkCE⟩
instance i52_22 : WR Tryd.prog 87 u52_22 (rS u52_22r u52_23 [0, 1, 16]) := ⟨mkS⟩
instance i52_20 : WR Tryd.prog 87 u52_20 (rCE (.t 35) u52_21 u52_22 [0, 1, 16, 35]) := ⟨mkCE⟩
instance i52_19 : WR Tryd.prog 87 u52_19 (rS u52_19r u52_20 [0, 1, 16]) := ⟨mkS⟩
instance i52_17 : WR Tryd.prog 87 u52_17 (rCE (.t 29) u52_18 u52_19 [0, 1, 16, 29]) := ⟨mkCE⟩
instance i52_16 : WR Tryd.prog 87 u52_16 (rS u52_16r u52_17 [0, 1, 16]) := ⟨mkS⟩
instance i52_14 : WR Tryd.prog 87 u52_14 (rCE (.t 23) u52_15 u52_16 [0, 1, 16, 23]) := ⟨mkCE⟩
instance i52_13 : WR Tryd.prog 87 u52_13 (rS u52_13r u52_14 [0, 1, 16]) := ⟨mkS⟩
instance i52_11 : WR Tryd.prog 87 u52_11 (rCE (.t 17) u52_12 u52_13 [0, 1, 16, 17]) := ⟨mkCE⟩
instance i52_10 : WR Tryd.prog 87 u52_10 (rS u52_10r u52_11 [0, 1, 16]) := ⟨mkS⟩
instance i52_9 : WR Tryd.prog 87 u52_9 (rBE 0 u52_10 [0, 1, 16]) := ⟨mkBE⟩
instance i52_8 : WR Tryd.prog 87 u52_8 (rS u52_8r u52_9 [0, 1, 5]) := ⟨mkS⟩
instance i52_36 : WR Tryd.prog 87 u52_36 (rS u52_36r .ret [0]) := ⟨mkS⟩
instance i52_7 : WR Tryd.prog 87 u52_7 (rQ u52_8 u52_36 [0, 1, 5]) := ⟨mkQ⟩
instance i52_3 : WR Tryd.prog 87 u52_3 (rQ u52_4 u52_7 [0, 1, 5]) := ⟨mkQ⟩
instance i52_2 : WR Tryd.prog 87 u52_2 (rS u52_2r u52_3 [0, 1]) := ⟨mkS⟩
instance i52_1 : WR Tryd.prog 87 u52_1 (rS u52_1r u52_2 [0, 1]) := ⟨mkS⟩
attribute [go_sem] u52_6r u52_4r u52_12r u52_15r u52_18r u52_21r u52_24r u52_27r u52_31r u52_29r u52_35r u52_34r u52_33r u52_25r u52_22r u52_19r u52_16r u52_13r u52_10r u52_8r u52_36r u52_2r u52_1r
theorem v_end {l : List UInt8} {H H' : Hp} {cc t id c' p : Nat} {L : List Ins} {d : DV} (hfr : ∀ id, cc ≤ id → H id = none) (h1 : cc ≤ id) (h2 : id < c') (htc : t < cc) (hd : d = .slc id 0 L.length)
    (hT : H' t = some (tapeB l p)) (hI : H' id = some ⟨2, true, insC L⟩) (hO : ∀ j, j < cc → j ≠ t → H' j = H j) :
    ∃ v2 H2, GL H' [d] H2 [v2] ∧ ∃ id, cc ≤ id ∧ id < c' ∧ v2 = .slc id 0 L.length ∧ H2 = (H.upd t (tapeB l p)).upd id ⟨2, true, insC L⟩ := by
  subst hd
  refine ⟨_, (H.upd t (tapeB l p)).upd id ⟨2, true, insC L⟩, GL.less fun j => ?_, id, h1, h2, rfl, rfl⟩
  by_cases e1 : j = id
  · subst e1; right; rw [h_same, hI]
  rw [h_ne e1]
  by_cases e2 : j = t
  · subst e2; right; rw [h_same, hT]
  rw [h_ne e2]
  by_cases e3 : j < cc
  · right; exact (hO j e3 e2).symm
  · left; exact hfr j (by omega)
theorem c_value (l : List UInt8) (hl : l.length ≤ 100000) : ∀ (d : Nat), d ≤ 2 → ∀ (p : Nat), p ≤ l.length → ∀ (H : Hp) (cc t : Nat), H t = some (tapeB l p) → t < cc →
    AC Tryd.prog 52 [.ptr t 0, I64 d] H cc (fun v H' c' => ∃ id, cc ≤ id ∧ id < c' ∧ v = .slc id 0 (valueM l d p).1.length ∧ H' = (H.upd t (tapeB l (valueM l d p).2)).upd id ⟨2, true, insC (valueM l d p).1⟩) := by
  intro d
  induction d with
  | zero =>
    intro hd2 p hp H cc t ht htc
    refine AC.body mixedU isU52 (Nat.le_of_ble_eq_true rfl) fun hfr => ?_
    show IW Tryd.prog 87 u52_1 ⟨argT _, _, _⟩ (rt [.tmp 4] _)
    repeat' ((first | with_reducible refine wr ?_ | with_reducible refine i_ret ?_ | with_reducible refine i_skip ?_ | with_reducible refine i_exit ?_ | ((with_reducible refine k_cb ?_ ?_) <;> (intro hb; try simp only [hb])) | ((with_reducible refine k_gb ?_ ?_) <;> (intro hb; try simp only [hb])) | ((with_reducible refine k_gb' ?_ ?_) <;> (intro hb; try simp only [hb]))) <;> try simp only [go_sem, Nat.reduceAdd, Nat.reduceLeDiff, Nat.reduceEqDiff, Nat.reduceMul, Nat.reduceSub, ↓reduceIte, Int.reduceLT, Int.reduceLE, Int.reduceGT, Int.reduceGE, Nat.reduceLT, Nat.reduceGT, Int.reduceToNat, reduceCtorEq, Nat.reduceBEq, Int.reduceBEq, Int.reduceBNe, Int.reduceEq, Int.reduceNe, decide_true, decide_false])
    refine AC.call (c_next l hl p hp 9 (by omega) (by omega) H cc t ht htc) ?_
    rintro v H' c' ⟨rfl, rfl⟩ hcc
    have hp1 := nextM_le (n := 9) hp
    have hk := nextM_lt (l := l) (p := p) (n := 9) (by omega)
    obtain ⟨k0, p1, e0⟩ : ∃ k0 p1, nextM l p 9 = (k0, p1) := ⟨_, _, rfl⟩
    rw [e0] at hp1 hk ⊢
    simp only at hp1 hk
    have hv : k0 = 1 ∨ k0 = 2 ∨ k0 = 3 ∨ k0 = 4 ∨ k0 = 5 ∨ (k0 = 0 ∨ k0 = 6 ∨ k0 = 7 ∨ k0 = 8) := by omega
    have n0 : ((0 : Nat) : Int) = 0 := rfl
    have n1 : ((1 : Nat) : Int) = 1 := rfl
    have n2 : ((2 : Nat) : Int) = 2 := rfl
    have n3 : ((3 : Nat) : Int) = 3 := rfl
    have n4 : ((4 : Nat) : Int) = 4 := rfl
    have n5 : ((5 : Nat) : Int) = 5 := rfl
    have n6 : ((6 : Nat) : Int) = 6 := rfl
    have n7 : ((7 : Nat) : Int) = 7 := rfl
    have n8 : ((8 : Nat) : Int) = 8 := rfl
    rcases hv with rfl | rfl | rfl | rfl | rfl | hv
    · simp only [go_sem, Nat.reduceAdd, Nat.reduceLeDiff, Nat.reduceEqDiff, Nat.reduceMul, Nat.reduceSub, ↓reduceIte, Int.reduceLT, Int.reduceLE, Int.reduceGT, Int.reduceGE, Nat.reduceLT, Nat.reduceGT, Int.reduceToNat, reduceCtorEq, Nat.reduceBEq, Int.reduceBEq, Int.reduceBNe, Int.reduceEq, Int.reduceNe, decide_true, decide_false, n0, n1, n2, n3, n4, n5, Int.reduceGT, Int.reduceBEq, Int.reduceLE, decide_true, decide_false]
      repeat' ((first | with_reducible refine wr ?_ | with_reducible refine i_ret ?_ | with_reducible refine i_skip ?_ | with_reducible refine i_exit ?_ | ((with_reducible refine k_cb ?_ ?_) <;> (intro hb; try simp only [hb])) | ((with_reducible refine k_gb ?_ ?_) <;> (intro hb; try simp only [hb])) | ((with_reducible refine k_gb' ?_ ?_) <;> (intro hb; try simp only [hb]))) <;> try simp only [go_sem, Nat.reduceAdd, Nat.reduceLeDiff, Nat.reduceEqDiff, Nat.reduceMul, Nat.reduceSub, ↓reduceIte, Int.reduceLT, Int.reduceLE, Int.reduceGT, Int.reduceGE, Nat.reduceLT, Nat.reduceGT, Int.reduceToNat, reduceCtorEq, Nat.reduceBEq, Int.reduceBEq, Int.reduceBNe, Int.reduceEq, Int.reduceNe, decide_true, decide_false, n0, n1, n2, n3, n4, n5, Int.reduceGT, Int.reduceBEq, Int.reduceLE, decide_true, decide_false])
      refine AC.call (c_next l hl p1 hp1 3 (by omega) (by omega) (H.upd t (tapeB l p1)) c' t h_same (by omega)) ?_
      rintro v H' c2 ⟨rfl, rfl⟩ hcc2
      have hq := nextM_lt (l := l) (p := p1) (n := 3) (by omega)
      have hadd := w64 (n := 7 + ((nextM l p1 3).1 : Int)) (by omega) (by omega)
      simp only [go_sem, Nat.reduceAdd, Nat.reduceLeDiff, Nat.reduceEqDiff, Nat.reduceMul, Nat.reduceSub, ↓reduceIte, Int.reduceLT, Int.reduceLE, Int.reduceGT, Int.reduceGE, Nat.reduceLT, Nat.reduceGT, Int.reduceToNat, reduceCtorEq, Nat.reduceBEq, Int.reduceBEq, Int.reduceBNe, Int.reduceEq, Int.reduceNe, decide_true, decide_false]
      repeat' ((first | with_reducible refine wr ?_ | with_reducible refine i_ret ?_ | with_reducible refine i_skip ?_ | with_reducible refine i_exit ?_ | ((with_reducible refine k_cb ?_ ?_) <;> (intro hb; try simp only [hb])) | ((with_reducible refine k_gb ?_ ?_) <;> (intro hb; try simp only [hb])) | ((with_reducible refine k_gb' ?_ ?_) <;> (intro hb; try simp only [hb]))) <;> try simp only [go_sem, Nat.reduceAdd, Nat.reduceLeDiff, Nat.reduceEqDiff, Nat.reduceMul, Nat.reduceSub, ↓reduceIte, Int.reduceLT, Int.reduceLE, Int.reduceGT, Int.reduceGE, Nat.reduceLT, Nat.reduceGT, Int.reduceToNat, reduceCtorEq, Nat.reduceBEq, Int.reduceBEq, Int.reduceBNe, Int.reduceEq, Int.reduceNe, decide_true, decide_false, hadd])
      have ev : valueM l 0 p = ([⟨2, ((nextM l p1 3).1 : Int)⟩], (nextM l p1 3).2) := by simp [valueM, e0]
      rw [ev]
      refine v_end hfr (by omega) (by omega) htc rfl ?_ ?_ fun j h1 h2 => ?_
      · rw [h_ne (by omega), h_same]
      · rw [h_same, insC_one]
      · rw [h_ne (by omega), h_ne h2, h_ne h2]
    · simp only [go_sem, Nat.reduceAdd, Nat.reduceLeDiff, Nat.reduceEqDiff, Nat.reduceMul, Nat.reduceSub, ↓reduceIte, Int.reduceLT, Int.reduceLE, Int.reduceGT, Int.reduceGE, Nat.reduceLT, Nat.reduceGT, Int.reduceToNat, reduceCtorEq, Nat.reduceBEq, Int.reduceBEq, Int.reduceBNe, Int.reduceEq, Int.reduceNe, decide_true, decide_false, n0, n1, n2, n3, n4, n5, Int.reduceGT, Int.reduceBEq, Int.reduceLE, decide_true, decide_false]
      repeat' ((first | with_reducible refine wr ?_ | with_reducible refine i_ret ?_ | with_reducible refine i_skip ?_ | with_reducible refine i_exit ?_ | ((with_reducible refine k_cb ?_ ?_) <;> (intro hb; try simp only [hb])) | ((with_reducible refine k_gb ?_ ?_) <;> (intro hb; try simp only [hb])) | ((with_reducible refine k_gb' ?_ ?_) <;> (intro hb; try simp only [hb]))) <;> try simp only [go_sem, Nat.reduceAdd, Nat.reduceLeDiff, Nat.reduceEqDiff, Nat.reduceMul, Nat.reduceSub, ↓reduceIte, Int.reduceLT, Int.reduceLE, Int.reduceGT, Int.reduceGE, Nat.reduceLT, Nat.reduceGT, Int.reduceToNat, reduceCtorEq, Nat.reduceBEq, Int.reduceBEq, Int.reduceBNe, Int.reduceEq, Int.reduceNe, decide_true, decide_false, n0, n1, n2, n3, n4, n5, Int.reduceGT, Int.reduceBEq, Int.reduceLE, decide_true, decide_false])
      refine AC.call (c_next l hl p1 hp1 64 (by omega) (by omega) (H.upd t (tapeB l p1)) c' t h_same (by omega)) ?_
      rintro v H' c2 ⟨rfl, rfl⟩ hcc2
      have hq := nextM_lt (l := l) (p := p1) (n := 64) (by omega)
      have hadd := w64 (n := 7 + ((nextM l p1 64).1 : Int)) (by omega) (by omega)
      simp only [go_sem, Nat.reduceAdd, Nat.reduceLeDiff, Nat.reduceEqDiff, Nat.reduceMul, Nat.reduceSub, ↓reduceIte, Int.reduceLT, Int.reduceLE, Int.reduceGT, Int.reduceGE, Nat.reduceLT, Nat.reduceGT, Int.reduceToNat, reduceCtorEq, Nat.reduceBEq, Int.reduceBEq, Int.reduceBNe, Int.reduceEq, Int.reduceNe, decide_true, decide_false]
      repeat' ((first | with_reducible refine wr ?_ | with_reducible refine i_ret ?_ | with_reducible refine i_skip ?_ | with_reducible refine i_exit ?_ | ((with_reducible refine k_cb ?_ ?_) <;> (intro hb; try simp only [hb])) | ((with_reducible refine k_gb ?_ ?_) <;> (intro hb; try simp only [hb])) | ((with_reducible refine k_gb' ?_ ?_) <;> (intro hb; try simp only [hb]))) <;> try simp only [go_sem, Nat.reduceAdd, Nat.reduceLeDiff, Nat.reduceEqDiff, Nat.reduceMul, Nat.reduceSub, ↓reduceIte, Int.reduceLT, Int.reduceLE, Int.reduceGT, Int.reduceGE, Nat.reduceLT, Nat.reduceGT, Int.reduceToNat, reduceCtorEq, Nat.reduceBEq, Int.reduceBEq, Int.reduceBNe, Int.reduceEq, Int.reduceNe, decide_true, decide_false, hadd])
      have ev : valueM l 0 p = ([⟨4, ((nextM l p1 64).1 : Int)⟩], (nextM l p1 64).2) := by simp [valueM, e0]
      rw [ev]
      refine v_end hfr (by omega) (by omega) htc rfl ?_ ?_ fun j h1 h2 => ?_
      · rw [h_ne (by omega), h_same]
      · rw [h_same, insC_one]
      · rw [h_ne (by omega), h_ne h2, h_ne h2]
    · simp only [go_sem, Nat.reduceAdd, Nat.reduceLeDiff, Nat.reduceEqDiff, Nat.reduceMul, Nat.reduceSub, ↓reduceIte, Int.reduceLT, Int.reduceLE, Int.reduceGT, Int.reduceGE, Nat.reduceLT, Nat.reduceGT, Int.reduceToNat, reduceCtorEq, Nat.reduceBEq, Int.reduceBEq, Int.reduceBNe, Int.reduceEq, Int.reduceNe, decide_true, decide_false, n0, n1, n2, n3, n4, n5, Int.reduceGT, Int.reduceBEq, Int.reduceLE, decide_true, decide_false]
      repeat' ((first | with_reducible refine wr ?_ | with_reducible refine i_ret ?_ | with_reducible refine i_skip ?_ | with_reducible refine i_exit ?_ | ((with_reducible refine k_cb ?_ ?_) <;> (intro hb; try simp only [hb])) | ((with_reducible refine k_gb ?_ ?_) <;> (intro hb; try simp only [hb])) | ((with_reducible refine k_gb' ?_ ?_) <;> (intro hb; try simp only [hb]))) <;> try simp only [go_sem, Nat.reduceAdd, Nat.reduceLeDiff, Nat.reduceEqDiff, Nat.reduceMul, Nat.reduceSub, ↓reduceIte, Int.reduceLT, Int.reduceLE, Int.reduceGT, Int.reduceGE, Nat.reduceLT, Nat.reduceGT, Int.reduceToNat, reduceCtorEq, Nat.reduceBEq, Int.reduceBEq, Int.reduceBNe, Int.reduceEq, Int.reduceNe, decide_true, decide_false, n0, n1, n2, n3, n4, n5, Int.reduceGT, Int.reduceBEq, Int.reduceLE, decide_true, decide_false])
      refine AC.call (c_next l hl p1 hp1 2 (by omega) (by omega) (H.upd t (tapeB l p1)) c' t h_same (by omega)) ?_
      rintro v H' c2 ⟨rfl, rfl⟩ hcc2
      have hq := nextM_lt (l := l) (p := p1) (n := 2) (by omega)
      have hadd := w64 (n := 7 + ((nextM l p1 2).1 : Int)) (by omega) (by omega)
      simp only [go_sem, Nat.reduceAdd, Nat.reduceLeDiff, Nat.reduceEqDiff, Nat.reduceMul, Nat.reduceSub, ↓reduceIte, Int.reduceLT, Int.reduceLE, Int.reduceGT, Int.reduceGE, Nat.reduceLT, Nat.reduceGT, Int.reduceToNat, reduceCtorEq, Nat.reduceBEq, Int.reduceBEq, Int.reduceBNe, Int.reduceEq, Int.reduceNe, decide_true, decide_false]
      repeat' ((first | with_reducible refine wr ?_ | with_reducible refine i_ret ?_ | with_reducible refine i_skip ?_ | with_reducible refine i_exit ?_ | ((with_reducible refine k_cb ?_ ?_) <;> (intro hb; try simp only [hb])) | ((with_reducible refine k_gb ?_ ?_) <;> (intro hb; try simp only [hb])) | ((with_reducible refine k_gb' ?_ ?_) <;> (intro hb; try simp only [hb]))) <;> try simp only [go_sem, Nat.reduceAdd, Nat.reduceLeDiff, Nat.reduceEqDiff, Nat.reduceMul, Nat.reduceSub, ↓reduceIte, Int.reduceLT, Int.reduceLE, Int.reduceGT, Int.reduceGE, Nat.reduceLT, Nat.reduceGT, Int.reduceToNat, reduceCtorEq, Nat.reduceBEq, Int.reduceBEq, Int.reduceBNe, Int.reduceEq, Int.reduceNe, decide_true, decide_false, hadd])
      have ev : valueM l 0 p = ([⟨5, ((nextM l p1 2).1 : Int)⟩], (nextM l p1 2).2) := by simp [valueM, e0]
      rw [ev]
      refine v_end hfr (by omega) (by omega) htc rfl ?_ ?_ fun j h1 h2 => ?_
      · rw [h_ne (by omega), h_same]
      · rw [h_same, insC_one]
      · rw [h_ne (by omega), h_ne h2, h_ne h2]
    · simp only [go_sem, Nat.reduceAdd, Nat.reduceLeDiff, Nat.reduceEqDiff, Nat.reduceMul, Nat.reduceSub, ↓reduceIte, Int.reduceLT, Int.reduceLE, Int.reduceGT, Int.reduceGE, Nat.reduceLT, Nat.reduceGT, Int.reduceToNat, reduceCtorEq, Nat.reduceBEq, Int.reduceBEq, Int.reduceBNe, Int.reduceEq, Int.reduceNe, decide_true, decide_false, n0, n1, n2, n3, n4, n5, Int.reduceGT, Int.reduceBEq, Int.reduceLE, decide_true, decide_false]
      repeat' ((first | with_reducible refine wr ?_ | with_reducible refine i_ret ?_ | with_reducible refine i_skip ?_ | with_reducible refine i_exit ?_ | ((with_reducible refine k_cb ?_ ?_) <;> (intro hb; try simp only [hb])) | ((with_reducible refine k_gb ?_ ?_) <;> (intro hb; try simp only [hb])) | ((with_reducible refine k_gb' ?_ ?_) <;> (intro hb; try simp only [hb]))) <;> try simp only [go_sem, Nat.reduceAdd, Nat.reduceLeDiff, Nat.reduceEqDiff, Nat.reduceMul, Nat.reduceSub, ↓reduceIte, Int.reduceLT, Int.reduceLE, Int.reduceGT, Int.reduceGE, Nat.reduceLT, Nat.reduceGT, Int.reduceToNat, reduceCtorEq, Nat.reduceBEq, Int.reduceBEq, Int.reduceBNe, Int.reduceEq, Int.reduceNe, decide_true, decide_false, n0, n1, n2, n3, n4, n5, Int.reduceGT, Int.reduceBEq, Int.reduceLE, decide_true, decide_false])
      refine AC.call (c_next l hl p1 hp1 2 (by omega) (by omega) (H.upd t (tapeB l p1)) c' t h_same (by omega)) ?_
      rintro v H' c2 ⟨rfl, rfl⟩ hcc2
      have hq := nextM_lt (l := l) (p := p1) (n := 2) (by omega)
      have hadd := w64 (n := 7 + ((nextM l p1 2).1 : Int)) (by omega) (by omega)
      simp only [go_sem, Nat.reduceAdd, Nat.reduceLeDiff, Nat.reduceEqDiff, Nat.reduceMul, Nat.reduceSub, ↓reduceIte, Int.reduceLT, Int.reduceLE, Int.reduceGT, Int.reduceGE, Nat.reduceLT, Nat.reduceGT, Int.reduceToNat, reduceCtorEq, Nat.reduceBEq, Int.reduceBEq, Int.reduceBNe, Int.reduceEq, Int.reduceNe, decide_true, decide_false]
      repeat' ((first | with_reducible refine wr ?_ | with_reducible refine i_ret ?_ | with_reducible refine i_skip ?_ | with_reducible refine i_exit ?_ | ((with_reducible refine k_cb ?_ ?_) <;> (intro hb; try simp only [hb])) | ((with_reducible refine k_gb ?_ ?_) <;> (intro hb; try simp only [hb])) | ((with_reducible refine k_gb' ?_ ?_) <;> (intro hb; try simp only [hb]))) <;> try simp only [go_sem, Nat.reduceAdd, Nat.reduceLeDiff, Nat.reduceEqDiff, Nat.reduceMul, Nat.reduceSub, ↓reduceIte, Int.reduceLT, Int.reduceLE, Int.reduceGT, Int.reduceGE, Nat.reduceLT, Nat.reduceGT, Int.reduceToNat, reduceCtorEq, Nat.reduceBEq, Int.reduceBEq, Int.reduceBNe, Int.reduceEq, Int.reduceNe, decide_true, decide_false, hadd])
      have ev : valueM l 0 p = ([⟨6, ((nextM l p1 2).1 : Int)⟩], (nextM l p1 2).2) := by simp [valueM, e0]
      rw [ev]
      refine v_end hfr (by omega) (by omega) htc rfl ?_ ?_ fun j h1 h2 => ?_
      · rw [h_ne (by omega), h_same]
      · rw [h_same, insC_one]
      · rw [h_ne (by omega), h_ne h2, h_ne h2]
    · simp only [go_sem, Nat.reduceAdd, Nat.reduceLeDiff, Nat.reduceEqDiff, Nat.reduceMul, Nat.reduceSub, ↓reduceIte, Int.reduceLT, Int.reduceLE, Int.reduceGT, Int.reduceGE, Nat.reduceLT, Nat.reduceGT, Int.reduceToNat, reduceCtorEq, Nat.reduceBEq, Int.reduceBEq, Int.reduceBNe, Int.reduceEq, Int.reduceNe, decide_true, decide_false, n0, n1, n2, n3, n4, n5, Int.reduceGT, Int.reduceBEq, Int.reduceLE, decide_true, decide_false]
      repeat' ((first | with_reducible refine wr ?_ | with_reducible refine i_ret ?_ | with_reducible refine i_skip ?_ | with_reducible refine i_exit ?_ | ((with_reducible refine k_cb ?_ ?_) <;> (intro hb; try simp only [hb])) | ((with_reducible refine k_gb ?_ ?_) <;> (intro hb; try simp only [hb])) | ((with_reducible refine k_gb' ?_ ?_) <;> (intro hb; try simp only [hb]))) <;> try simp only [go_sem, Nat.reduceAdd, Nat.reduceLeDiff, Nat.reduceEqDiff, Nat.reduceMul, Nat.reduceSub, ↓reduceIte, Int.reduceLT, Int.reduceLE, Int.reduceGT, Int.reduceGE, Nat.reduceLT, Nat.reduceGT, Int.reduceToNat, reduceCtorEq, Nat.reduceBEq, Int.reduceBEq, Int.reduceBNe, Int.reduceEq, Int.reduceNe, decide_true, decide_false, n0, n1, n2, n3, n4, n5, Int.reduceGT, Int.reduceBEq, Int.reduceLE, decide_true, decide_false])
      refine AC.call (c_next l hl p1 hp1 2 (by omega) (by omega) (H.upd t (tapeB l p1)) c' t h_same (by omega)) ?_
      rintro v H' c2 ⟨rfl, rfl⟩ hcc2
      have hq := nextM_lt (l := l) (p := p1) (n := 2) (by omega)
      have hadd := w64 (n := 7 + ((nextM l p1 2).1 : Int)) (by omega) (by omega)
      simp only [go_sem, Nat.reduceAdd, Nat.reduceLeDiff, Nat.reduceEqDiff, Nat.reduceMul, Nat.reduceSub, ↓reduceIte, Int.reduceLT, Int.reduceLE, Int.reduceGT, Int.reduceGE, Nat.reduceLT, Nat.reduceGT, Int.reduceToNat, reduceCtorEq, Nat.reduceBEq, Int.reduceBEq, Int.reduceBNe, Int.reduceEq, Int.reduceNe, decide_true, decide_false]
      repeat' ((first | with_reducible refine wr ?_ | with_reducible refine i_ret ?_ | with_reducible refine i_skip ?_ | with_reducible refine i_exit ?_ | ((with_reducible refine k_cb ?_ ?_) <;> (intro hb; try simp only [hb])) | ((with_reducible refine k_gb ?_ ?_) <;> (intro hb; try simp only [hb])) | ((with_reducible refine k_gb' ?_ ?_) <;> (intro hb; try simp only [hb]))) <;> try simp only [go_sem, Nat.reduceAdd, Nat.reduceLeDiff, Nat.reduceEqDiff, Nat.reduceMul, Nat.reduceSub, ↓reduceIte, Int.reduceLT, Int.reduceLE, Int.reduceGT, Int.reduceGE, Nat.reduceLT, Nat.reduceGT, Int.reduceToNat, reduceCtorEq, Nat.reduceBEq, Int.reduceBEq, Int.reduceBNe, Int.reduceEq, Int.reduceNe, decide_true, decide_false, hadd])
      have ev : valueM l 0 p = ([⟨7 + ((nextM l p1 2).1 : Int), 0⟩], (nextM l p1 2).2) := by simp [valueM, e0]
      rw [ev]
      refine v_end hfr (by omega) (by omega) htc rfl ?_ ?_ fun j h1 h2 => ?_
      · rw [h_ne (by omega), h_same]
      · rw [h_same, insC_one]
      · rw [h_ne (by omega), h_ne h2, h_ne h2]
    · rcases hv with rfl | rfl | rfl | rfl
      all_goals
        simp only [go_sem, Nat.reduceAdd, Nat.reduceLeDiff, Nat.reduceEqDiff, Nat.reduceMul, Nat.reduceSub, ↓reduceIte, Int.reduceLT, Int.reduceLE, Int.reduceGT, Int.reduceGE, Nat.reduceLT, Nat.reduceGT, Int.reduceToNat, reduceCtorEq, Nat.reduceBEq, Int.reduceBEq, Int.reduceBNe, Int.reduceEq, Int.reduceNe, decide_true, decide_false, n0, n1, n2, n3, n4, n5, n6, n7, n8, Int.reduceGT, Int.reduceBEq, Int.reduceLE, decide_true, decide_false]
        repeat' ((first | with_reducible refine wr ?_ | with_reducible refine i_ret ?_ | with_reducible refine i_skip ?_ | with_reducible refine i_exit ?_ | ((with_reducible refine k_cb ?_ ?_) <;> (intro hb; try simp only [hb])) | ((with_reducible refine k_gb ?_ ?_) <;> (intro hb; try simp only [hb])) | ((with_reducible refine k_gb' ?_ ?_) <;> (intro hb; try simp only [hb]))) <;> try simp only [go_sem, Nat.reduceAdd, Nat.reduceLeDiff, Nat.reduceEqDiff, Nat.reduceMul, Nat.reduceSub, ↓reduceIte, Int.reduceLT, Int.reduceLE, Int.reduceGT, Int.reduceGE, Nat.reduceLT, Nat.reduceGT, Int.reduceToNat, reduceCtorEq, Nat.reduceBEq, Int.reduceBEq, Int.reduceBNe, Int.reduceEq, Int.reduceNe, decide_true, decide_false, n0, n1, n2, n3, n4, n5, n6, n7, n8, Int.reduceGT, Int.reduceBEq, Int.reduceLE, decide_true, decide_false])
        refine AC.call (c_next l hl p1 hp1 10 (by omega) (by omega) _ (c' + 1) t ((h_ne (by omega)).trans h_same) (by omega)) ?_
        rintro v H' c2 ⟨rfl, rfl⟩ hcc2
        have hq := nextM_lt (l := l) (p := p1) (n := 10) (by omega)
        have hget := push_get hq
        have ne0 : ¬ t = c' := by omega
        have ne1 : ¬ t = c2 := by omega
        have ne2 : ¬ c' = t := by omega
        have ne3 : ¬ c' = c2 := by omega
        have ne4 : ¬ c2 = t := by omega
        have ne5 : ¬ c2 = c' := by omega
        simp only [go_sem, Nat.reduceAdd, Nat.reduceLeDiff, Nat.reduceEqDiff, Nat.reduceMul, Nat.reduceSub, ↓reduceIte, Int.reduceLT, Int.reduceLE, Int.reduceGT, Int.reduceGE, Nat.reduceLT, Nat.reduceGT, Int.reduceToNat, reduceCtorEq, Nat.reduceBEq, Int.reduceBEq, Int.reduceBNe, Int.reduceEq, Int.reduceNe, decide_true, decide_false, hget, hq, ne0, ne1, ne2, ne3, ne4, ne5]
        repeat' ((first | with_reducible refine wr ?_ | with_reducible refine i_ret ?_ | with_reducible refine i_skip ?_ | with_reducible refine i_exit ?_ | ((with_reducible refine k_cb ?_ ?_) <;> (intro hb; try simp only [hb])) | ((with_reducible refine k_gb ?_ ?_) <;> (intro hb; try simp only [hb])) | ((with_reducible refine k_gb' ?_ ?_) <;> (intro hb; try simp only [hb]))) <;> try simp only [go_sem, Nat.reduceAdd, Nat.reduceLeDiff, Nat.reduceEqDiff, Nat.reduceMul, Nat.reduceSub, ↓reduceIte, Int.reduceLT, Int.reduceLE, Int.reduceGT, Int.reduceGE, Nat.reduceLT, Nat.reduceGT, Int.reduceToNat, reduceCtorEq, Nat.reduceBEq, Int.reduceBEq, Int.reduceBNe, Int.reduceEq, Int.reduceNe, decide_true, decide_false, hget, hq, ne0, ne1, ne2, ne3, ne4, ne5])
        have ev : valueM l 0 p = ([⟨1, pushT.getD (nextM l p1 10).1 0⟩], (nextM l p1 10).2) := by simp [valueM, e0]
        rw [ev]
        refine v_end hfr (by omega) (by omega) htc rfl ?_ ?_ fun j h1 h2 => ?_
        · rw [h_ne (by omega), h_same]
        · rw [h_same, insC_one]
        · rw [h_ne (by omega), h_ne h2, h_ne (by omega), h_ne h2]
  | succ d ih =>
    intro hd2 p hp H cc t ht htc
    refine AC.body mixedU isU52 (Nat.le_of_ble_eq_true rfl) fun hfr => ?_
    show IW Tryd.prog 87 u52_1 ⟨argT _, _, _⟩ (rt [.tmp 4] _)
    repeat' ((first | with_reducible refine wr ?_ | with_reducible refine i_ret ?_ | with_reducible refine i_skip ?_ | with_reducible refine i_exit ?_ | ((with_reducible refine k_cb ?_ ?_) <;> (intro hb; try simp only [hb])) | ((with_reducible refine k_gb ?_ ?_) <;> (intro hb; try simp only [hb])) | ((with_reducible refine k_gb' ?_ ?_) <;> (intro hb; try simp only [hb]))) <;> try simp only [go_sem, Nat.reduceAdd, Nat.reduceLeDiff, Nat.reduceEqDiff, Nat.reduceMul, Nat.reduceSub, ↓reduceIte, Int.reduceLT, Int.reduceLE, Int.reduceGT, Int.reduceGE, Nat.reduceLT, Nat.reduceGT, Int.reduceToNat, reduceCtorEq, Nat.reduceBEq, Int.reduceBEq, Int.reduceBNe, Int.reduceEq, Int.reduceNe, decide_true, decide_false])
    refine AC.call (c_next l hl p hp 9 (by omega) (by omega) H cc t ht htc) ?_
    rintro v H' c' ⟨rfl, rfl⟩ hcc
    have hp1 := nextM_le (n := 9) hp
    have hk := nextM_lt (l := l) (p := p) (n := 9) (by omega)
    have hdl : decide (((d + 1 : Nat) : Int) ≤ 0) = false := decide_eq_false (by omega)
    have hw1 := w64 (n := ((d + 1 : Nat) : Int) - 1) (by omega) (by omega)
    have hw2 : ((d + 1 : Nat) : Int) - 1 = (d : Int) := by omega
    rw [hw2] at hw1
    obtain ⟨k0, p1, e0⟩ : ∃ k0 p1, nextM l p 9 = (k0, p1) := ⟨_, _, rfl⟩
    rw [e0] at hp1 hk ⊢
    simp only at hp1 hk
    have hv : k0 = 1 ∨ k0 = 2 ∨ k0 = 3 ∨ k0 = 4 ∨ k0 = 5 ∨ k0 = 6 ∨ k0 = 7 ∨ k0 = 8 ∨ k0 = 0 := by omega
    have n0 : ((0 : Nat) : Int) = 0 := rfl
    have n1 : ((1 : Nat) : Int) = 1 := rfl
    have n2 : ((2 : Nat) : Int) = 2 := rfl
    have n3 : ((3 : Nat) : Int) = 3 := rfl
    have n4 : ((4 : Nat) : Int) = 4 := rfl
    have n5 : ((5 : Nat) : Int) = 5 := rfl
    have n6 : ((6 : Nat) : Int) = 6 := rfl
    have n7 : ((7 : Nat) : Int) = 7 := rfl
    have n8 : ((8 : Nat) : Int) = 8 := rfl
    rcases hv with rfl | rfl | rfl | rfl | rfl | rfl | rfl | rfl | rfl
    · simp only [go_sem, Nat.reduceAdd, Nat.reduceLeDiff, Nat.reduceEqDiff, Nat.reduceMul, Nat.reduceSub, ↓reduceIte, Int.reduceLT, Int.reduceLE, Int.reduceGT, Int.reduceGE, Nat.reduceLT, Nat.reduceGT, Int.reduceToNat, reduceCtorEq, Nat.reduceBEq, Int.reduceBEq, Int.reduceBNe, Int.reduceEq, Int.reduceNe, decide_true, decide_false, hdl, hw2, hw1, n0, n1, n2, n3, n4, n5, Int.reduceGT, Int.reduceBEq, Int.reduceLE, decide_true, decide_false]
      repeat' ((first | with_reducible refine wr ?_ | with_reducible refine i_ret ?_ | with_reducible refine i_skip ?_ | with_reducible refine i_exit ?_ | ((with_reducible refine k_cb ?_ ?_) <;> (intro hb; try simp only [hb])) | ((with_reducible refine k_gb ?_ ?_) <;> (intro hb; try simp only [hb])) | ((with_reducible refine k_gb' ?_ ?_) <;> (intro hb; try simp only [hb]))) <;> try simp only [go_sem, Nat.reduceAdd, Nat.reduceLeDiff, Nat.reduceEqDiff, Nat.reduceMul, Nat.reduceSub, ↓reduceIte, Int.reduceLT, Int.reduceLE, Int.reduceGT, Int.reduceGE, Nat.reduceLT, Nat.reduceGT, Int.reduceToNat, reduceCtorEq, Nat.reduceBEq, Int.reduceBEq, Int.reduceBNe, Int.reduceEq, Int.reduceNe, decide_true, decide_false, hdl, hw2, hw1, n0, n1, n2, n3, n4, n5, Int.reduceGT, Int.reduceBEq, Int.reduceLE, decide_true, decide_false])
      refine AC.call (c_next l hl p1 hp1 3 (by omega) (by omega) (H.upd t (tapeB l p1)) c' t h_same (by omega)) ?_
      rintro v H' c2 ⟨rfl, rfl⟩ hcc2
      have hq := nextM_lt (l := l) (p := p1) (n := 3) (by omega)
      have hadd := w64 (n := 7 + ((nextM l p1 3).1 : Int)) (by omega) (by omega)
      simp only [go_sem, Nat.reduceAdd, Nat.reduceLeDiff, Nat.reduceEqDiff, Nat.reduceMul, Nat.reduceSub, ↓reduceIte, Int.reduceLT, Int.reduceLE, Int.reduceGT, Int.reduceGE, Nat.reduceLT, Nat.reduceGT, Int.reduceToNat, reduceCtorEq, Nat.reduceBEq, Int.reduceBEq, Int.reduceBNe, Int.reduceEq, Int.reduceNe, decide_true, decide_false]
      repeat' ((first | with_reducible refine wr ?_ | with_reducible refine i_ret ?_ | with_reducible refine i_skip ?_ | with_reducible refine i_exit ?_ | ((with_reducible refine k_cb ?_ ?_) <;> (intro hb; try simp only [hb])) | ((with_reducible refine k_gb ?_ ?_) <;> (intro hb; try simp only [hb])) | ((with_reducible refine k_gb' ?_ ?_) <;> (intro hb; try simp only [hb]))) <;> try simp only [go_sem, Nat.reduceAdd, Nat.reduceLeDiff, Nat.reduceEqDiff, Nat.reduceMul, Nat.reduceSub, ↓reduceIte, Int.reduceLT, Int.reduceLE, Int.reduceGT, Int.reduceGE, Nat.reduceLT, Nat.reduceGT, Int.reduceToNat, reduceCtorEq, Nat.reduceBEq, Int.reduceBEq, Int.reduceBNe, Int.reduceEq, Int.reduceNe, decide_true, decide_false, hadd])
      have ev : valueM l (d + 1) p = ([⟨2, ((nextM l p1 3).1 : Int)⟩], (nextM l p1 3).2) := by simp [valueM, e0]
      rw [ev]
      refine v_end hfr (by omega) (by omega) htc rfl ?_ ?_ fun j h1 h2 => ?_
      · rw [h_ne (by omega), h_same]
      · rw [h_same, insC_one]
      · rw [h_ne (by omega), h_ne h2, h_ne h2]
    · simp only [go_sem, Nat.reduceAdd, Nat.reduceLeDiff, Nat.reduceEqDiff, Nat.reduceMul, Nat.reduceSub, ↓reduceIte, Int.reduceLT, Int.reduceLE, Int.reduceGT, Int.reduceGE, Nat.reduceLT, Nat.reduceGT, Int.reduceToNat, reduceCtorEq, Nat.reduceBEq, Int.reduceBEq, Int.reduceBNe, Int.reduceEq, Int.reduceNe, decide_true, decide_false, hdl, hw2, hw1, n0, n1, n2, n3, n4, n5, Int.reduceGT, Int.reduceBEq, Int.reduceLE, decide_true, decide_false]
      repeat' ((first | with_reducible refine wr ?_ | with_reducible refine i_ret ?_ | with_reducible refine i_skip ?_ | with_reducible refine i_exit ?_ | ((with_reducible refine k_cb ?_ ?_) <;> (intro hb; try simp only [hb])) | ((with_reducible refine k_gb ?_ ?_) <;> (intro hb; try simp only [hb])) | ((with_reducible refine k_gb' ?_ ?_) <;> (intro hb; try simp only [hb]))) <;> try simp only [go_sem, Nat.reduceAdd, Nat.reduceLeDiff, Nat.reduceEqDiff, Nat.reduceMul, Nat.reduceSub, ↓reduceIte, Int.reduceLT, Int.reduceLE, Int.reduceGT, Int.reduceGE, Nat.reduceLT, Nat.reduceGT, Int.reduceToNat, reduceCtorEq, Nat.reduceBEq, Int.reduceBEq, Int.reduceBNe, Int.reduceEq, Int.reduceNe, decide_true, decide_false, hdl, hw2, hw1, n0, n1, n2, n3, n4, n5, Int.reduceGT, Int.reduceBEq, Int.reduceLE, decide_true, decide_false])
      refine AC.call (c_next l hl p1 hp1 64 (by omega) (by omega) (H.upd t (tapeB l p1)) c' t h_same (by omega)) ?_
      rintro v H' c2 ⟨rfl, rfl⟩ hcc2
      have hq := nextM_lt (l := l) (p := p1) (n := 64) (by omega)
      have hadd := w64 (n := 7 + ((nextM l p1 64).1 : Int)) (by omega) (by omega)
      simp only [go_sem, Nat.reduceAdd, Nat.reduceLeDiff, Nat.reduceEqDiff, Nat.reduceMul, Nat.reduceSub, ↓reduceIte, Int.reduceLT, Int.reduceLE, Int.reduceGT, Int.reduceGE, Nat.reduceLT, Nat.reduceGT, Int.reduceToNat, reduceCtorEq, Nat.reduceBEq, Int.reduceBEq, Int.reduceBNe, Int.reduceEq, Int.reduceNe, decide_true, decide_false]
      repeat' ((first | with_reducible refine wr ?_ | with_reducible refine i_ret ?_ | with_reducible refine i_skip ?_ | with_reducible refine i_exit ?_ | ((with_reducible refine k_cb ?_ ?_) <;> (intro hb; try simp only [hb])) | ((with_reducible refine k_gb ?_ ?_) <;> (intro hb; try simp only [hb])) | ((with_reducible refine k_gb' ?_ ?_) <;> (intro hb; try simp only [hb]))) <;> try simp only [go_sem, Nat.reduceAdd, Nat.reduceLeDiff, Nat.reduceEqDiff, Nat.reduceMul, Nat.reduceSub, ↓reduceIte, Int.reduceLT, Int.reduceLE, Int.reduceGT, Int.reduceGE, Nat.reduceLT, Nat.reduceGT, Int.reduceToNat, reduceCtorEq, Nat.reduceBEq, Int.reduceBEq, Int.reduceBNe, Int.reduceEq, Int.reduceNe, decide_true, decide_false, hadd])
      have ev : valueM l (d + 1) p = ([⟨4, ((nextM l p1 64).1 : Int)⟩], (nextM l p1 64).2) := by simp [valueM, e0]
      rw [ev]
      refine v_end hfr (by omega) (by omega) htc rfl ?_ ?_ fun j h1 h2 => ?_
      · rw [h_ne (by omega), h_same]
      · rw [h_same, insC_one]
      · rw [h_ne (by omega), h_ne h2, h_ne h2]
    · simp only [go_sem, Nat.reduceAdd, Nat.reduceLeDiff, Nat.reduceEqDiff, Nat.reduceMul, Nat.reduceSub, ↓reduceIte, Int.reduceLT, Int.reduceLE, Int.reduceGT, Int.reduceGE, Nat.reduceLT, Nat.reduceGT, Int.reduceToNat, reduceCtorEq, Nat.reduceBEq, Int.reduceBEq, Int.reduceBNe, Int.reduceEq, Int.reduceNe, decide_true, decide_false, hdl, hw2, hw1, n0, n1, n2, n3, n4, n5, Int.reduceGT, Int.reduceBEq, Int.reduceLE, decide_true, decide_false]
      repeat' ((first | with_reducible refine wr ?_ | with_reducible refine i_ret ?_ | with_reducible refine i_skip ?_ | with_reducible refine i_exit ?_ | ((with_reducible refine k_cb ?_ ?_) <;> (intro hb; try simp only [hb])) | ((with_reducible refine k_gb ?_ ?_) <;> (intro hb; try simp only [hb])) | ((with_reducible refine k_gb' ?_ ?_) <;> (intro hb; try simp only [hb]))) <;> try simp only [go_sem, Nat.reduceAdd, Nat.reduceLeDiff, Nat.reduceEqDiff, Nat.reduceMul, Nat.reduceSub, ↓reduceIte, Int.reduceLT, Int.reduceLE, Int.reduceGT, Int.reduceGE, Nat.reduceLT, Nat.reduceGT, Int.reduceToNat, reduceCtorEq, Nat.reduceBEq, Int.reduceBEq, Int.reduceBNe, Int.reduceEq, Int.reduceNe, decide_true, decide_false, hdl, hw2, hw1, n0, n1, n2, n3, n4, n5, Int.reduceGT, Int.reduceBEq, Int.reduceLE, decide_true, decide_false])
      refine AC.call (c_next l hl p1 hp1 2 (by omega) (by omega) (H.upd t (tapeB l p1)) c' t h_same (by omega)) ?_
      rintro v H' c2 ⟨rfl, rfl⟩ hcc2
      have hq := nextM_lt (l := l) (p := p1) (n := 2) (by omega)
      have hadd := w64 (n := 7 + ((nextM l p1 2).1 : Int)) (by omega) (by omega)
      simp only [go_sem, Nat.reduceAdd, Nat.reduceLeDiff, Nat.reduceEqDiff, Nat.reduceMul, Nat.reduceSub, ↓reduceIte, Int.reduceLT, Int.reduceLE, Int.reduceGT, Int.reduceGE, Nat.reduceLT, Nat.reduceGT, Int.reduceToNat, reduceCtorEq, Nat.reduceBEq, Int.reduceBEq, Int.reduceBNe, Int.reduceEq, Int.reduceNe, decide_true, decide_false]
      repeat' ((first | with_reducible refine wr ?_ | with_reducible refine i_ret ?_ | with_reducible refine i_skip ?_ | with_reducible refine i_exit ?_ | ((with_reducible refine k_cb ?_ ?_) <;> (intro hb; try simp only [hb])) | ((with_reducible refine k_gb ?_ ?_) <;> (intro hb; try simp only [hb])) | ((with_reducible refine k_gb' ?_ ?_) <;> (intro hb; try simp only [hb]))) <;> try simp only [go_sem, Nat.reduceAdd, Nat.reduceLeDiff, Nat.reduceEqDiff, Nat.reduceMul, Nat.reduceSub, ↓reduceIte, Int.reduceLT, Int.reduceLE, Int.reduceGT, Int.reduceGE, Nat.reduceLT, Nat.reduceGT, Int.reduceToNat, reduceCtorEq, Nat.reduceBEq, Int.reduceBEq, Int.reduceBNe, Int.reduceEq, Int.reduceNe, decide_true, decide_false, hadd])
      have ev : valueM l (d + 1) p = ([⟨5, ((nextM l p1 2).1 : Int)⟩], (nextM l p1 2).2) := by simp [valueM, e0]
      rw [ev]
      refine v_end hfr (by omega) (by omega) htc rfl ?_ ?_ fun j h1 h2 => ?_
      · rw [h_ne (by omega), h_same]
      · rw [h_same, insC_one]
      · rw [h_ne (by omega), h_ne h2, h_ne h2]
    · simp only [go_sem, Nat.reduceAdd, Nat.reduceLeDiff, Nat.reduceEqDiff, Nat.reduceMul, Nat.reduceSub, ↓reduceIte, Int.reduceLT, Int.reduceLE, Int.reduceGT, Int.reduceGE, Nat.reduceLT, Nat.reduceGT, Int.reduceToNat, reduceCtorEq, Nat.reduceBEq, Int.reduceBEq, Int.reduceBNe, Int.reduceEq, Int.reduceNe, decide_true, decide_false, hdl, hw2, hw1, n0, n1, n2, n3, n4, n5, Int.reduceGT, Int.reduceBEq, Int.reduceLE, decide_true, decide_false]
      repeat' ((first | with_reducible refine wr ?_ | with_reducible refine i_ret ?_ | with_reducible refine i_skip ?_ | with_reducible refine i_exit ?_ | ((with_reducible refine k_cb ?_ ?_) <;> (intro hb; try simp only [hb])) | ((with_reducible refine k_gb ?_ ?_) <;> (intro hb; try simp only [hb])) | ((with_reducible refine k_gb' ?_ ?_) <;> (intro hb; try simp only [hb]))) <;> try simp only [go_sem, Nat.reduceAdd, Nat.reduceLeDiff, Nat.reduceEqDiff, Nat.reduceMul, Nat.reduceSub, ↓reduceIte, Int.reduceLT, Int.reduceLE, Int.reduceGT, Int.reduceGE, Nat.reduceLT, Nat.reduceGT, Int.reduceToNat, reduceCtorEq, Nat.reduceBEq, Int.reduceBEq, Int.reduceBNe, Int.reduceEq, Int.reduceNe, decide_true, decide_false, hdl, hw2, hw1, n0, n1, n2, n3, n4, n5, Int.reduceGT, Int.reduceBEq, Int.reduceLE, decide_true, decide_false])
      refine AC.call (c_next l hl p1 hp1 2 (by omega) (by omega) (H.upd t (tapeB l p1)) c' t h_same (by omega)) ?_
      rintro v H' c2 ⟨rfl, rfl⟩ hcc2
      have hq := nextM_lt (l := l) (p := p1) (n := 2) (by omega)
      have hadd := w64 (n := 7 + ((nextM l p1 2).1 : Int)) (by omega) (by omega)
      simp only [go_sem, Nat.reduceAdd, Nat.reduceLeDiff, Nat.reduceEqDiff, Nat.reduceMul, Nat.reduceSub, ↓reduceIte, Int.reduceLT, Int.reduceLE, Int.reduceGT, Int.reduceGE, Nat.reduceLT, Nat.reduceGT, Int.reduceToNat, reduceCtorEq, Nat.reduceBEq, Int.reduceBEq, Int.reduceBNe, Int.reduceEq, Int.reduceNe, decide_true, decide_false]
      repeat' ((first | with_reducible refine wr ?_ | with_reducible refine i_ret ?_ | with_reducible refine i_skip ?_ | with_reducible refine i_exit ?_ | ((with_reducible refine k_cb ?_ ?_) <;> (intro hb; try simp only [hb])) | ((with_reducible refine k_gb ?_ ?_) <;> (intro hb; try simp only [hb])) | ((with_reducible refine k_gb' ?_ ?_) <;> (intro hb; try simp only [hb]))) <;> try simp only [go_sem, Nat.reduceAdd, Nat.reduceLeDiff, Nat.reduceEqDiff, Nat.reduceMul, Nat.reduceSub, ↓reduceIte, Int.reduceLT, Int.reduceLE, Int.reduceGT, Int.reduceGE, Nat.reduceLT, Nat.reduceGT, Int.reduceToNat, reduceCtorEq, Nat.reduceBEq, Int.reduceBEq, Int.reduceBNe, Int.reduceEq, Int.reduceNe, decide_true, decide_false, hadd])
      have ev : valueM l (d + 1) p = ([⟨6, ((nextM l p1 2).1 : Int)⟩], (nextM l p1 2).2) := by simp [valueM, e0]
      rw [ev]
      refine v_end hfr (by omega) (by omega) htc rfl ?_ ?_ fun j h1 h2 => ?_
      · rw [h_ne (by omega), h_same]
      · rw [h_same, insC_one]
      · rw [h_ne (by omega), h_ne h2, h_ne h2]
    · simp only [go_sem, Nat.reduceAdd, Nat.reduceLeDiff, Nat.reduceEqDiff, Nat.reduceMul, Nat.reduceSub, ↓reduceIte, Int.reduceLT, Int.reduceLE, Int.reduceGT, Int.reduceGE, Nat.reduceLT, Nat.reduceGT, Int.reduceToNat, reduceCtorEq, Nat.reduceBEq, Int.reduceBEq, Int.reduceBNe, Int.reduceEq, Int.reduceNe, decide_true, decide_false, hdl, hw2, hw1, n0, n1, n2, n3, n4, n5, Int.reduceGT, Int.reduceBEq, Int.reduceLE, decide_true, decide_false]
      repeat' ((first | with_reducible refine wr ?_ | with_reducible refine i_ret ?_ | with_reducible refine i_skip ?_ | with_reducible refine i_exit ?_ | ((with_reducible refine k_cb ?_ ?_) <;> (intro hb; try simp only [hb])) | ((with_reducible refine k_gb ?_ ?_) <;> (intro hb; try simp only [hb])) | ((with_reducible refine k_gb' ?_ ?_) <;> (intro hb; try simp only [hb]))) <;> try simp only [go_sem, Nat.reduceAdd, Nat.reduceLeDiff, Nat.reduceEqDiff, Nat.reduceMul, Nat.reduceSub, ↓reduceIte, Int.reduceLT, Int.reduceLE, Int.reduceGT, Int.reduceGE, Nat.reduceLT, Nat.reduceGT, Int.reduceToNat, reduceCtorEq, Nat.reduceBEq, Int.reduceBEq, Int.reduceBNe, Int.reduceEq, Int.reduceNe, decide_true, decide_false, hdl, hw2, hw1, n0, n1, n2, n3, n4, n5, Int.reduceGT, Int.reduceBEq, Int.reduceLE, decide_true, decide_false])
      refine AC.call (c_next l hl p1 hp1 2 (by omega) (by omega) (H.upd t (tapeB l p1)) c' t h_same (by omega)) ?_
      rintro v H' c2 ⟨rfl, rfl⟩ hcc2
      have hq := nextM_lt (l := l) (p := p1) (n := 2) (by omega)
      have hadd := w64 (n := 7 + ((nextM l p1 2).1 : Int)) (by omega) (by omega)
      simp only [go_sem, Nat.reduceAdd, Nat.reduceLeDiff, Nat.reduceEqDiff, Nat.reduceMul, Nat.reduceSub, ↓reduceIte, Int.reduceLT, Int.reduceLE, Int.reduceGT, Int.reduceGE, Nat.reduceLT, Nat.reduceGT, Int.reduceToNat, reduceCtorEq, Nat.reduceBEq, Int.reduceBEq, Int.reduceBNe, Int.reduceEq, Int.reduceNe, decide_true, decide_false]
      repeat' ((first | with_reducible refine wr ?_ | with_reducible refine i_ret ?_ | with_reducible refine i_skip ?_ | with_reducible refine i_exit ?_ | ((with_reducible refine k_cb ?_ ?_) <;> (intro hb; try simp only [hb])) | ((with_reducible refine k_gb ?_ ?_) <;> (intro hb; try simp only [hb])) | ((with_reducible refine k_gb' ?_ ?_) <;> (intro hb; try simp only [hb]))) <;> try simp only [go_sem, Nat.reduceAdd, Nat.reduceLeDiff, Nat.reduceEqDiff, Nat.reduceMul, Nat.reduceSub, ↓reduceIte, Int.reduceLT, Int.reduceLE, Int.reduceGT, Int.reduceGE, Nat.reduceLT, Nat.reduceGT, Int.reduceToNat, reduceCtorEq, Nat.reduceBEq, Int.reduceBEq, Int.reduceBNe, Int.reduceEq, Int.reduceNe, decide_true, decide_false, hadd])
      have ev : valueM l (d + 1) p = ([⟨7 + ((nextM l p1 2).1 : Int), 0⟩], (nextM l p1 2).2) := by simp [valueM, e0]
      rw [ev]
      refine v_end hfr (by omega) (by omega) htc rfl ?_ ?_ fun j h1 h2 => ?_
      · rw [h_ne (by omega), h_same]
      · rw [h_same, insC_one]
      · rw [h_ne (by omega), h_ne h2, h_ne h2]
    · simp only [go_sem, Nat.reduceAdd, Nat.reduceLeDiff, Nat.reduceEqDiff, Nat.reduceMul, Nat.reduceSub, ↓reduceIte, Int.reduceLT, Int.reduceLE, Int.reduceGT, Int.reduceGE, Nat.reduceLT, Nat.reduceGT, Int.reduceToNat, reduceCtorEq, Nat.reduceBEq, Int.reduceBEq, Int.reduceBNe, Int.reduceEq, Int.reduceNe, decide_true, decide_false, hdl, hw2, hw1, n0, n1, n2, n3, n4, n5, n6, n7, n8, Int.reduceGT, Int.reduceBEq, Int.reduceLE, decide_true, decide_false]
      repeat' ((first | with_reducible refine wr ?_ | with_reducible refine i_ret ?_ | with_reducible refine i_skip ?_ | with_reducible refine i_exit ?_ | ((with_reducible refine k_cb ?_ ?_) <;> (intro hb; try simp only [hb])) | ((with_reducible refine k_gb ?_ ?_) <;> (intro hb; try simp only [hb])) | ((with_reducible refine k_gb' ?_ ?_) <;> (intro hb; try simp only [hb]))) <;> try simp only [go_sem, Nat.reduceAdd, Nat.reduceLeDiff, Nat.reduceEqDiff, Nat.reduceMul, Nat.reduceSub, ↓reduceIte, Int.reduceLT, Int.reduceLE, Int.reduceGT, Int.reduceGE, Nat.reduceLT, Nat.reduceGT, Int.reduceToNat, reduceCtorEq, Nat.reduceBEq, Int.reduceBEq, Int.reduceBNe, Int.reduceEq, Int.reduceNe, decide_true, decide_false, hdl, hw2, hw1, n0, n1, n2, n3, n4, n5, n6, n7, n8, Int.reduceGT, Int.reduceBEq, Int.reduceLE, decide_true, decide_false])
      refine AC.call (ih (by omega) p1 hp1 (H.upd t (tapeB l p1)) c' t h_same (by omega)) ?_
      rintro v H' c2 ⟨id1, i1, i2, rfl, rfl⟩ hcc2
      have hp2 := valueM_le l d p1 hp1
      simp only [go_sem, Nat.reduceAdd, Nat.reduceLeDiff, Nat.reduceEqDiff, Nat.reduceMul, Nat.reduceSub, ↓reduceIte, Int.reduceLT, Int.reduceLE, Int.reduceGT, Int.reduceGE, Nat.reduceLT, Nat.reduceGT, Int.reduceToNat, reduceCtorEq, Nat.reduceBEq, Int.reduceBEq, Int.reduceBNe, Int.reduceEq, Int.reduceNe, decide_true, decide_false]
      repeat' ((first | with_reducible refine wr ?_ | with_reducible refine i_ret ?_ | with_reducible refine i_skip ?_ | with_reducible refine i_exit ?_ | ((with_reducible refine k_cb ?_ ?_) <;> (intro hb; try simp only [hb])) | ((with_reducible refine k_gb ?_ ?_) <;> (intro hb; try simp only [hb])) | ((with_reducible refine k_gb' ?_ ?_) <;> (intro hb; try simp only [hb]))) <;> try simp only [go_sem, Nat.reduceAdd, Nat.reduceLeDiff, Nat.reduceEqDiff, Nat.reduceMul, Nat.reduceSub, ↓reduceIte, Int.reduceLT, Int.reduceLE, Int.reduceGT, Int.reduceGE, Nat.reduceLT, Nat.reduceGT, Int.reduceToNat, reduceCtorEq, Nat.reduceBEq, Int.reduceBEq, Int.reduceBNe, Int.reduceEq, Int.reduceNe, decide_true, decide_false])
      refine AC.call (c_next l hl _ hp2 2 (by omega) (by omega) _ c2 t ((h_ne (by omega)).trans h_same) (by omega)) ?_
      rintro v H' c3 ⟨rfl, rfl⟩ hcc3
      have hq := nextM_lt (l := l) (p := (valueM l d p1).2) (n := 2) (by omega)
      have hadd := w64 (n := 9 + ((nextM l (valueM l d p1).2 2).1 : Int)) (by omega) (by omega)
      have hvl := valueM_len l d p1
      have hpw : 2 ^ (d + 1) ≤ 2 ^ 3 := Nat.pow_le_pow_right (by omega) (by omega)
      have ne0 : ¬ t = id1 := by omega
      have ne1 : ¬ t = c3 := by omega
      have ne2 : ¬ t = c3 + 1 := by omega
      have ne3 : ¬ id1 = t := by omega
      have ne4 : ¬ id1 = c3 := by omega
      have ne5 : ¬ id1 = c3 + 1 := by omega
      have ne6 : ¬ c3 = t := by omega
      have ne7 : ¬ c3 = id1 := by omega
      have ne8 : ¬ c3 = c3 + 1 := by omega
      have ne9 : ¬ c3 + 1 = t := by omega
      have ne10 : ¬ c3 + 1 = id1 := by omega
      have ne11 : ¬ c3 + 1 = c3 := by omega
      simp only [go_sem, Nat.reduceAdd, Nat.reduceLeDiff, Nat.reduceEqDiff, Nat.reduceMul, Nat.reduceSub, ↓reduceIte, Int.reduceLT, Int.reduceLE, Int.reduceGT, Int.reduceGE, Nat.reduceLT, Nat.reduceGT, Int.reduceToNat, reduceCtorEq, Nat.reduceBEq, Int.reduceBEq, Int.reduceBNe, Int.reduceEq, Int.reduceNe, decide_true, decide_false, hadd, ne0, ne1, ne2, ne3, ne4, ne5, ne6, ne7, ne8, ne9, ne10, ne11]
      repeat' ((first | with_reducible refine wr ?_ | with_reducible refine i_ret ?_ | with_reducible refine i_skip ?_ | with_reducible refine i_exit ?_ | ((with_reducible refine k_cb ?_ ?_) <;> (intro hb; try simp only [hb])) | ((with_reducible refine k_gb ?_ ?_) <;> (intro hb; try simp only [hb])) | ((with_reducible refine k_gb' ?_ ?_) <;> (intro hb; try simp only [hb])) | ((with_reducible refine k_eval (b_appx (insC_len2 _) (by omega) (by omega)) ?_))) <;> try simp only [go_sem, Nat.reduceAdd, Nat.reduceLeDiff, Nat.reduceEqDiff, Nat.reduceMul, Nat.reduceSub, ↓reduceIte, Int.reduceLT, Int.reduceLE, Int.reduceGT, Int.reduceGE, Nat.reduceLT, Nat.reduceGT, Int.reduceToNat, reduceCtorEq, Nat.reduceBEq, Int.reduceBEq, Int.reduceBNe, Int.reduceEq, Int.reduceNe, decide_true, decide_false, hadd, ne0, ne1, ne2, ne3, ne4, ne5, ne6, ne7, ne8, ne9, ne10, ne11])
      rw [valueM_6 e0]
      refine v_end (id := c3 + 1) hfr (by omega) (by omega) htc (by rw [List.length_append]; rfl) ?_ ?_ fun j h1 h2 => ?_
      · simp only [go_sem, Nat.reduceAdd, Nat.reduceLeDiff, Nat.reduceEqDiff, Nat.reduceMul, Nat.reduceSub, ↓reduceIte, Int.reduceLT, Int.reduceLE, Int.reduceGT, Int.reduceGE, Nat.reduceLT, Nat.reduceGT, Int.reduceToNat, reduceCtorEq, Nat.reduceBEq, Int.reduceBEq, Int.reduceBNe, Int.reduceEq, Int.reduceNe, decide_true, decide_false, ne0, ne1, ne2, ne3, ne4, ne5, ne6, ne7, ne8, ne9, ne10, ne11]
      · rw [h_same, insC_app, insC_one]
      · have q1 : ¬j = id1 := by omega
        have q2 : ¬j = c3 := by omega
        have q3 : ¬j = c3 + 1 := by omega
        simp only [go_sem, Nat.reduceAdd, Nat.reduceLeDiff, Nat.reduceEqDiff, Nat.reduceMul, Nat.reduceSub, ↓reduceIte, Int.reduceLT, Int.reduceLE, Int.reduceGT, Int.reduceGE, Nat.reduceLT, Nat.reduceGT, Int.reduceToNat, reduceCtorEq, Nat.reduceBEq, Int.reduceBEq, Int.reduceBNe, Int.reduceEq, Int.reduceNe, decide_true, decide_false, h2, q1, q2, q3]
    · simp only [go_sem, Nat.reduceAdd, Nat.reduceLeDiff, Nat.reduceEqDiff, Nat.reduceMul, Nat.reduceSub, ↓reduceIte, Int.reduceLT, Int.reduceLE, Int.reduceGT, Int.reduceGE, Nat.reduceLT, Nat.reduceGT, Int.reduceToNat, reduceCtorEq, Nat.reduceBEq, Int.reduceBEq, Int.reduceBNe, Int.reduceEq, Int.reduceNe, decide_true, decide_false, hdl, hw2, hw1, n0, n1, n2, n3, n4, n5, n6, n7, n8, Int.reduceGT, Int.reduceBEq, Int.reduceLE, decide_true, decide_false]
      repeat' ((first | with_reducible refine wr ?_ | with_reducible refine i_ret ?_ | with_reducible refine i_skip ?_ | with_reducible refine i_exit ?_ | ((with_reducible refine k_cb ?_ ?_) <;> (intro hb; try simp only [hb])) | ((with_reducible refine k_gb ?_ ?_) <;> (intro hb; try simp only [hb])) | ((with_reducible refine k_gb' ?_ ?_) <;> (intro hb; try simp only [hb]))) <;> try simp only [go_sem, Nat.reduceAdd, Nat.reduceLeDiff, Nat.reduceEqDiff, Nat.reduceMul, Nat.reduceSub, ↓reduceIte, Int.reduceLT, Int.reduceLE, Int.reduceGT, Int.reduceGE, Nat.reduceLT, Nat.reduceGT, Int.reduceToNat, reduceCtorEq, Nat.reduceBEq, Int.reduceBEq, Int.reduceBNe, Int.reduceEq, Int.reduceNe, decide_true, decide_false, hdl, hw2, hw1, n0, n1, n2, n3, n4, n5, n6, n7, n8, Int.reduceGT, Int.reduceBEq, Int.reduceLE, decide_true, decide_false])
      refine AC.call (ih (by omega) p1 hp1 (H.upd t (tapeB l p1)) c' t h_same (by omega)) ?_
      rintro v H' c2 ⟨id1, i1, i2, rfl, rfl⟩ hcc2
      have hp2 := valueM_le l d p1 hp1
      simp only [go_sem, Nat.reduceAdd, Nat.reduceLeDiff, Nat.reduceEqDiff, Nat.reduceMul, Nat.reduceSub, ↓reduceIte, Int.reduceLT, Int.reduceLE, Int.reduceGT, Int.reduceGE, Nat.reduceLT, Nat.reduceGT, Int.reduceToNat, reduceCtorEq, Nat.reduceBEq, Int.reduceBEq, Int.reduceBNe, Int.reduceEq, Int.reduceNe, decide_true, decide_false, hw2, hw1]
      repeat' ((first | with_reducible refine wr ?_ | with_reducible refine i_ret ?_ | with_reducible refine i_skip ?_ | with_reducible refine i_exit ?_ | ((with_reducible refine k_cb ?_ ?_) <;> (intro hb; try simp only [hb])) | ((with_reducible refine k_gb ?_ ?_) <;> (intro hb; try simp only [hb])) | ((with_reducible refine k_gb' ?_ ?_) <;> (intro hb; try simp only [hb]))) <;> try simp only [go_sem, Nat.reduceAdd, Nat.reduceLeDiff, Nat.reduceEqDiff, Nat.reduceMul, Nat.reduceSub, ↓reduceIte, Int.reduceLT, Int.reduceLE, Int.reduceGT, Int.reduceGE, Nat.reduceLT, Nat.reduceGT, Int.reduceToNat, reduceCtorEq, Nat.reduceBEq, Int.reduceBEq, Int.reduceBNe, Int.reduceEq, Int.reduceNe, decide_true, decide_false, hw2, hw1])
      refine AC.call (ih (by omega) _ hp2 _ c2 t ((h_ne (by omega)).trans h_same) (by omega)) ?_
      rintro v H' c3 ⟨id2, j1, j2, rfl, rfl⟩ hcc3
      have hp3 := valueM_le l d _ hp2
      have hvl := valueM_len l d p1
      have hvl2 := valueM_len l d (valueM l d p1).2
      have hpw : 2 ^ (d + 1) ≤ 2 ^ 3 := Nat.pow_le_pow_right (by omega) (by omega)
      have hl2 := insC_len2 (valueM l d (valueM l d p1).2).1
      have hle2 : (valueM l d (valueM l d p1).2).1.length * 2 ≤ (insC (valueM l d (valueM l d p1).2).1).length := by omega
      have htk := List.take_of_length_le (l := insC (valueM l d (valueM l d p1).2).1) (i := (valueM l d (valueM l d p1).2).1.length * 2) (by omega)
      have ne0 : ¬ t = id1 := by omega
      have ne1 : ¬ t = id2 := by omega
      have ne2 : ¬ t = c3 := by omega
      have ne3 : ¬ id1 = t := by omega
      have ne4 : ¬ id1 = id2 := by omega
      have ne5 : ¬ id1 = c3 := by omega
      have ne6 : ¬ id2 = t := by omega
      have ne7 : ¬ id2 = id1 := by omega
      have ne8 : ¬ id2 = c3 := by omega
      have ne9 : ¬ c3 = t := by omega
      have ne10 : ¬ c3 = id1 := by omega
      have ne11 : ¬ c3 = id2 := by omega
      simp only [go_sem, Nat.reduceAdd, Nat.reduceLeDiff, Nat.reduceEqDiff, Nat.reduceMul, Nat.reduceSub, ↓reduceIte, Int.reduceLT, Int.reduceLE, Int.reduceGT, Int.reduceGE, Nat.reduceLT, Nat.reduceGT, Int.reduceToNat, reduceCtorEq, Nat.reduceBEq, Int.reduceBEq, Int.reduceBNe, Int.reduceEq, Int.reduceNe, decide_true, decide_false, ne0, ne1, ne2, ne3, ne4, ne5, ne6, ne7, ne8, ne9, ne10, ne11, hle2, htk]
      repeat' ((first | with_reducible refine wr ?_ | with_reducible refine i_ret ?_ | with_reducible refine i_skip ?_ | with_reducible refine i_exit ?_ | ((with_reducible refine k_cb ?_ ?_) <;> (intro hb; try simp only [hb])) | ((with_reducible refine k_gb ?_ ?_) <;> (intro hb; try simp only [hb])) | ((with_reducible refine k_gb' ?_ ?_) <;> (intro hb; try simp only [hb])) | ((with_reducible refine k_eval (b_appx (insC_len2 _) (by omega) (by omega)) ?_))) <;> try simp only [go_sem, Nat.reduceAdd, Nat.reduceLeDiff, Nat.reduceEqDiff, Nat.reduceMul, Nat.reduceSub, ↓reduceIte, Int.reduceLT, Int.reduceLE, Int.reduceGT, Int.reduceGE, Nat.reduceLT, Nat.reduceGT, Int.reduceToNat, reduceCtorEq, Nat.reduceBEq, Int.reduceBEq, Int.reduceBNe, Int.reduceEq, Int.reduceNe, decide_true, decide_false, ne0, ne1, ne2, ne3, ne4, ne5, ne6, ne7, ne8, ne9, ne10, ne11, hle2, htk])
      refine AC.call (c_next l hl _ hp3 13 (by omega) (by omega) _ (c3 + 1) t (by repeat (first | exact h_same | rw [h_ne (by omega)] | rw [h_dne (by omega)])) (by omega)) ?_
      rintro v H' c4 ⟨rfl, rfl⟩ hcc4
      have hq := nextM_lt (l := l) (p := (valueM l d (valueM l d p1).2).2) (n := 13) (by omega)
      have hadd := w64 (n := 12 + ((nextM l (valueM l d (valueM l d p1).2).2 13).1 : Int)) (by omega) (by omega)
      have hl3 : (insC (valueM l d p1).1 ++ insC (valueM l d (valueM l d p1).2).1).length = ((valueM l d p1).1.length + (valueM l d (valueM l d p1).2).1.length) * 2 := by rw [List.length_append, insC_len, insC_len]; omega
      have ne0 : ¬ t = c3 := by omega
      have ne1 : ¬ t = c4 := by omega
      have ne2 : ¬ t = c4 + 1 := by omega
      have ne3 : ¬ c3 = t := by omega
      have ne4 : ¬ c3 = c4 := by omega
      have ne5 : ¬ c3 = c4 + 1 := by omega
      have ne6 : ¬ c4 = t := by omega
      have ne7 : ¬ c4 = c3 := by omega
      have ne8 : ¬ c4 = c4 + 1 := by omega
      have ne9 : ¬ c4 + 1 = t := by omega
      have ne10 : ¬ c4 + 1 = c3 := by omega
      have ne11 : ¬ c4 + 1 = c4 := by omega
      simp only [go_sem, Nat.reduceAdd, Nat.reduceLeDiff, Nat.reduceEqDiff, Nat.reduceMul, Nat.reduceSub, ↓reduceIte, Int.reduceLT, Int.reduceLE, Int.reduceGT, Int.reduceGE, Nat.reduceLT, Nat.reduceGT, Int.reduceToNat, reduceCtorEq, Nat.reduceBEq, Int.reduceBEq, Int.reduceBNe, Int.reduceEq, Int.reduceNe, decide_true, decide_false, hadd, ne0, ne1, ne2, ne3, ne4, ne5, ne6, ne7, ne8, ne9, ne10, ne11]
      repeat' ((first | with_reducible refine wr ?_ | with_reducible refine i_ret ?_ | with_reducible refine i_skip ?_ | with_reducible refine i_exit ?_ | ((with_reducible refine k_cb ?_ ?_) <;> (intro hb; try simp only [hb])) | ((with_reducible refine k_gb ?_ ?_) <;> (intro hb; try simp only [hb])) | ((with_reducible refine k_gb' ?_ ?_) <;> (intro hb; try simp only [hb])) | ((with_reducible refine k_eval (b_appx hl3 (by omega) (by omega)) ?_))) <;> try simp only [go_sem, Nat.reduceAdd, Nat.reduceLeDiff, Nat.reduceEqDiff, Nat.reduceMul, Nat.reduceSub, ↓reduceIte, Int.reduceLT, Int.reduceLE, Int.reduceGT, Int.reduceGE, Nat.reduceLT, Nat.reduceGT, Int.reduceToNat, reduceCtorEq, Nat.reduceBEq, Int.reduceBEq, Int.reduceBNe, Int.reduceEq, Int.reduceNe, decide_true, decide_false, hadd, ne0, ne1, ne2, ne3, ne4, ne5, ne6, ne7, ne8, ne9, ne10, ne11])
      rw [valueM_7 e0]
      refine v_end (id := c4 + 1) hfr (by omega) (by omega) htc (by simp only [List.length_append, List.length_singleton]) ?_ ?_ fun j h1 h2 => ?_
      · repeat (first | exact h_same | rw [h_ne (by omega)] | rw [h_dne (by omega)])
      · rw [h_same, insC_app, insC_app, insC_one]
      · repeat (first | rfl | rw [h_ne (by omega)] | rw [h_dne (by omega)])
    · simp only [go_sem, Nat.reduceAdd, Nat.reduceLeDiff, Nat.reduceEqDiff, Nat.reduceMul, Nat.reduceSub, ↓reduceIte, Int.reduceLT, Int.reduceLE, Int.reduceGT, Int.reduceGE, Nat.reduceLT, Nat.reduceGT, Int.reduceToNat, reduceCtorEq, Nat.reduceBEq, Int.reduceBEq, Int.reduceBNe, Int.reduceEq, Int.reduceNe, decide_true, decide_false, hdl, hw2, hw1, n0, n1, n2, n3, n4, n5, n6, n7, n8, Int.reduceGT, Int.reduceBEq, Int.reduceLE, decide_true, decide_false]
      repeat' ((first | with_reducible refine wr ?_ | with_reducible refine i_ret ?_ | with_reducible refine i_skip ?_ | with_reducible refine i_exit ?_ | ((with_reducible refine k_cb ?_ ?_) <;> (intro hb; try simp only [hb])) | ((with_reducible refine k_gb ?_ ?_) <;> (intro hb; try simp only [hb])) | ((with_reducible refine k_gb' ?_ ?_) <;> (intro hb; try simp only [hb]))) <;> try simp only [go_sem, Nat.reduceAdd, Nat.reduceLeDiff, Nat.reduceEqDiff, Nat.reduceMul, Nat.reduceSub, ↓reduceIte, Int.reduceLT, Int.reduceLE, Int.reduceGT, Int.reduceGE, Nat.reduceLT, Nat.reduceGT, Int.reduceToNat, reduceCtorEq, Nat.reduceBEq, Int.reduceBEq, Int.reduceBNe, Int.reduceEq, Int.reduceNe, decide_true, decide_false, hdl, hw2, hw1, n0, n1, n2, n3, n4, n5, n6, n7, n8, Int.reduceGT, Int.reduceBEq, Int.reduceLE, decide_true, decide_false])
      refine AC.call (ih (by omega) p1 hp1 (H.upd t (tapeB l p1)) c' t h_same (by omega)) ?_
      rintro v H' c2 ⟨id1, i1, i2, rfl, rfl⟩ hcc2
      have hp2 := valueM_le l d p1 hp1
      simp only [go_sem, Nat.reduceAdd, Nat.reduceLeDiff, Nat.reduceEqDiff, Nat.reduceMul, Nat.reduceSub, ↓reduceIte, Int.reduceLT, Int.reduceLE, Int.reduceGT, Int.reduceGE, Nat.reduceLT, Nat.reduceGT, Int.reduceToNat, reduceCtorEq, Nat.reduceBEq, Int.reduceBEq, Int.reduceBNe, Int.reduceEq, Int.reduceNe, decide_true, decide_false, hw2, hw1]
      repeat' ((first | with_reducible refine wr ?_ | with_reducible refine i_ret ?_ | with_reducible refine i_skip ?_ | with_reducible refine i_exit ?_ | ((with_reducible refine k_cb ?_ ?_) <;> (intro hb; try simp only [hb])) | ((with_reducible refine k_gb ?_ ?_) <;> (intro hb; try simp only [hb])) | ((with_reducible refine k_gb' ?_ ?_) <;> (intro hb; try simp only [hb]))) <;> try simp only [go_sem, Nat.reduceAdd, Nat.reduceLeDiff, Nat.reduceEqDiff, Nat.reduceMul, Nat.reduceSub, ↓reduceIte, Int.reduceLT, Int.reduceLE, Int.reduceGT, Int.reduceGE, Nat.reduceLT, Nat.reduceGT, Int.reduceToNat, reduceCtorEq, Nat.reduceBEq, Int.reduceBEq, Int.reduceBNe, Int.reduceEq, Int.reduceNe, decide_true, decide_false, hw2, hw1])
      refine AC.call (ih (by omega) _ hp2 _ c2 t ((h_ne (by omega)).trans h_same) (by omega)) ?_
      rintro v H' c3 ⟨id2, j1, j2, rfl, rfl⟩ hcc3
      have hp3 := valueM_le l d _ hp2
      have hvl := valueM_len l d p1
      have hvl2 := valueM_len l d (valueM l d p1).2
      have hpw : 2 ^ (d + 1) ≤ 2 ^ 3 := Nat.pow_le_pow_right (by omega) (by omega)
      have hl2 := insC_len2 (valueM l d (valueM l d p1).2).1
      have hle2 : (valueM l d (valueM l d p1).2).1.length * 2 ≤ (insC (valueM l d (valueM l d p1).2).1).length := by omega
      have htk := List.take_of_length_le (l := insC (valueM l d (valueM l d p1).2).1) (i := (valueM l d (valueM l d p1).2).1.length * 2) (by omega)
      have ne0 : ¬ t = id1 := by omega
      have ne1 : ¬ t = id2 := by omega
      have ne2 : ¬ t = c3 := by omega
      have ne3 : ¬ id1 = t := by omega
      have ne4 : ¬ id1 = id2 := by omega
      have ne5 : ¬ id1 = c3 := by omega
      have ne6 : ¬ id2 = t := by omega
      have ne7 : ¬ id2 = id1 := by omega
      have ne8 : ¬ id2 = c3 := by omega
      have ne9 : ¬ c3 = t := by omega
      have ne10 : ¬ c3 = id1 := by omega
      have ne11 : ¬ c3 = id2 := by omega
      simp only [go_sem, Nat.reduceAdd, Nat.reduceLeDiff, Nat.reduceEqDiff, Nat.reduceMul, Nat.reduceSub, ↓reduceIte, Int.reduceLT, Int.reduceLE, Int.reduceGT, Int.reduceGE, Nat.reduceLT, Nat.reduceGT, Int.reduceToNat, reduceCtorEq, Nat.reduceBEq, Int.reduceBEq, Int.reduceBNe, Int.reduceEq, Int.reduceNe, decide_true, decide_false, ne0, ne1, ne2, ne3, ne4, ne5, ne6, ne7, ne8, ne9, ne10, ne11, hle2, htk]
      repeat' ((first | with_reducible refine wr ?_ | with_reducible refine i_ret ?_ | with_reducible refine i_skip ?_ | with_reducible refine i_exit ?_ | ((with_reducible refine k_cb ?_ ?_) <;> (intro hb; try simp only [hb])) | ((with_reducible refine k_gb ?_ ?_) <;> (intro hb; try simp only [hb])) | ((with_reducible refine k_gb' ?_ ?_) <;> (intro hb; try simp only [hb])) | ((with_reducible refine k_eval (b_appx (insC_len2 _) (by omega) (by omega)) ?_))) <;> try simp only [go_sem, Nat.reduceAdd, Nat.reduceLeDiff, Nat.reduceEqDiff, Nat.reduceMul, Nat.reduceSub, ↓reduceIte, Int.reduceLT, Int.reduceLE, Int.reduceGT, Int.reduceGE, Nat.reduceLT, Nat.reduceGT, Int.reduceToNat, reduceCtorEq, Nat.reduceBEq, Int.reduceBEq, Int.reduceBNe, Int.reduceEq, Int.reduceNe, decide_true, decide_false, ne0, ne1, ne2, ne3, ne4, ne5, ne6, ne7, ne8, ne9, ne10, ne11, hle2, htk])
      refine AC.call (c_next l hl _ hp3 13 (by omega) (by omega) _ (c3 + 1) t (by repeat (first | exact h_same | rw [h_ne (by omega)] | rw [h_dne (by omega)])) (by omega)) ?_
      rintro v H' c4 ⟨rfl, rfl⟩ hcc4
      have hq := nextM_lt (l := l) (p := (valueM l d (valueM l d p1).2).2) (n := 13) (by omega)
      have hadd := w64 (n := 12 + ((nextM l (valueM l d (valueM l d p1).2).2 13).1 : Int)) (by omega) (by omega)
      have hl3 : (insC (valueM l d p1).1 ++ insC (valueM l d (valueM l d p1).2).1).length = ((valueM l d p1).1.length + (valueM l d (valueM l d p1).2).1.length) * 2 := by rw [List.length_append, insC_len, insC_len]; omega
      have ne0 : ¬ t = c3 := by omega
      have ne1 : ¬ t = c4 := by omega
      have ne2 : ¬ t = c4 + 1 := by omega
      have ne3 : ¬ c3 = t := by omega
      have ne4 : ¬ c3 = c4 := by omega
      have ne5 : ¬ c3 = c4 + 1 := by omega
      have ne6 : ¬ c4 = t := by omega
      have ne7 : ¬ c4 = c3 := by omega
      have ne8 : ¬ c4 = c4 + 1 := by omega
      have ne9 : ¬ c4 + 1 = t := by omega
      have ne10 : ¬ c4 + 1 = c3 := by omega
      have ne11 : ¬ c4 + 1 = c4 := by omega
      simp only [go_sem, Nat.reduceAdd, Nat.reduceLeDiff, Nat.reduceEqDiff, Nat.reduceMul, Nat.reduceSub, ↓reduceIte, Int.reduceLT, Int.reduceLE, Int.reduceGT, Int.reduceGE, Nat.reduceLT, Nat.reduceGT, Int.reduceToNat, reduceCtorEq, Nat.reduceBEq, Int.reduceBEq, Int.reduceBNe, Int.reduceEq, Int.reduceNe, decide_true, decide_false, hadd, ne0, ne1, ne2, ne3, ne4, ne5, ne6, ne7, ne8, ne9, ne10, ne11]
      repeat' ((first | with_reducible refine wr ?_ | with_reducible refine i_ret ?_ | with_reducible refine i_skip ?_ | with_reducible refine i_exit ?_ | ((with_reducible refine k_cb ?_ ?_) <;> (intro hb; try simp only [hb])) | ((with_reducible refine k_gb ?_ ?_) <;> (intro hb; try simp only [hb])) | ((with_reducible refine k_gb' ?_ ?_) <;> (intro hb; try simp only [hb])) | ((with_reducible refine k_eval (b_appx hl3 (by omega) (by omega)) ?_))) <;> try simp only [go_sem, Nat.reduceAdd, Nat.reduceLeDiff, Nat.reduceEqDiff, Nat.reduceMul, Nat.reduceSub, ↓reduceIte, Int.reduceLT, Int.reduceLE, Int.reduceGT, Int.reduceGE, Nat.reduceLT, Nat.reduceGT, Int.reduceToNat, reduceCtorEq, Nat.reduceBEq, Int.reduceBEq, Int.reduceBNe, Int.reduceEq, Int.reduceNe, decide_true, decide_false, hadd, ne0, ne1, ne2, ne3, ne4, ne5, ne6, ne7, ne8, ne9, ne10, ne11])
      rw [valueM_8 e0]
      refine v_end (id := c4 + 1) hfr (by omega) (by omega) htc (by simp only [List.length_append, List.length_singleton]) ?_ ?_ fun j h1 h2 => ?_
      · repeat (first | exact h_same | rw [h_ne (by omega)] | rw [h_dne (by omega)])
      · rw [h_same, insC_app, insC_app, insC_one]
      · repeat (first | rfl | rw [h_ne (by omega)] | rw [h_dne (by omega)])
    · simp only [go_sem, Nat.reduceAdd, Nat.reduceLeDiff, Nat.reduceEqDiff, Nat.reduceMul, Nat.reduceSub, ↓reduceIte, Int.reduceLT, Int.reduceLE, Int.reduceGT, Int.reduceGE, Nat.reduceLT, Nat.reduceGT, Int.reduceToNat, reduceCtorEq, Nat.reduceBEq, Int.reduceBEq, Int.reduceBNe, Int.reduceEq, Int.reduceNe, decide_true, decide_false, hdl, hw2, hw1, n0, n1, n2, n3, n4, n5, n6, n7, n8, Int.reduceGT, Int.reduceBEq, Int.reduceLE, decide_true, decide_false]
      repeat' ((first | with_reducible refine wr ?_ | with_reducible refine i_ret ?_ | with_reducible refine i_skip ?_ | with_reducible refine i_exit ?_ | ((with_reducible refine k_cb ?_ ?_) <;> (intro hb; try simp only [hb])) | ((with_reducible refine k_gb ?_ ?_) <;> (intro hb; try simp only [hb])) | ((with_reducible refine k_gb' ?_ ?_) <;> (intro hb; try simp only [hb]))) <;> try simp only [go_sem, Nat.reduceAdd, Nat.reduceLeDiff, Nat.reduceEqDiff, Nat.reduceMul, Nat.reduceSub, ↓reduceIte, Int.reduceLT, Int.reduceLE, Int.reduceGT, Int.reduceGE, Nat.reduceLT, Nat.reduceGT, Int.reduceToNat, reduceCtorEq, Nat.reduceBEq, Int.reduceBEq, Int.reduceBNe, Int.reduceEq, Int.reduceNe, decide_true, decide_false, hdl, hw2, hw1, n0, n1, n2, n3, n4, n5, n6, n7, n8, Int.reduceGT, Int.reduceBEq, Int.reduceLE, decide_true, decide_false])
      refine AC.call (c_next l hl p1 hp1 10 (by omega) (by omega) _ (c' + 1) t ((h_ne (by omega)).trans h_same) (by omega)) ?_
      rintro v H' c2 ⟨rfl, rfl⟩ hcc2
      have hq := nextM_lt (l := l) (p := p1) (n := 10) (by omega)
      have hget := push_get hq
      have ne0 : ¬ t = c' := by omega
      have ne1 : ¬ t = c2 := by omega
      have ne2 : ¬ c' = t := by omega
      have ne3 : ¬ c' = c2 := by omega
      have ne4 : ¬ c2 = t := by omega
      have ne5 : ¬ c2 = c' := by omega
      simp only [go_sem, Nat.reduceAdd, Nat.reduceLeDiff, Nat.reduceEqDiff, Nat.reduceMul, Nat.reduceSub, ↓reduceIte, Int.reduceLT, Int.reduceLE, Int.reduceGT, Int.reduceGE, Nat.reduceLT, Nat.reduceGT, Int.reduceToNat, reduceCtorEq, Nat.reduceBEq, Int.reduceBEq, Int.reduceBNe, Int.reduceEq, Int.reduceNe, decide_true, decide_false, hget, hq, ne0, ne1, ne2, ne3, ne4, ne5]
      repeat' ((first | with_reducible refine wr ?_ | with_reducible refine i_ret ?_ | with_reducible refine i_skip ?_ | with_reducible refine i_exit ?_ | ((with_reducible refine k_cb ?_ ?_) <;> (intro hb; try simp only [hb])) | ((with_reducible refine k_gb ?_ ?_) <;> (intro hb; try simp only [hb])) | ((with_reducible refine k_gb' ?_ ?_) <;> (intro hb; try simp only [hb]))) <;> try simp only [go_sem, Nat.reduceAdd, Nat.reduceLeDiff, Nat.reduceEqDiff, Nat.reduceMul, Nat.reduceSub, ↓reduceIte, Int.reduceLT, Int.reduceLE, Int.reduceGT, Int.reduceGE, Nat.reduceLT, Nat.reduceGT, Int.reduceToNat, reduceCtorEq, Nat.reduceBEq, Int.reduceBEq, Int.reduceBNe, Int.reduceEq, Int.reduceNe, decide_true, decide_false, hget, hq, ne0, ne1, ne2, ne3, ne4, ne5])
      have ev : valueM l (d + 1) p = ([⟨1, pushT.getD (nextM l p1 10).1 0⟩], (nextM l p1 10).2) := by simp [valueM, e0]
      rw [ev]
      refine v_end hfr (by omega) (by omega) htc rfl ?_ ?_ fun j h1 h2 => ?_
      · rw [h_ne (by omega), h_same]
      · rw [h_same, insC_one]
      · rw [h_ne (by omega), h_ne h2, h_ne (by omega), h_ne h2]
end Go.Proofs.YtcallbfckjlagaaDoor
set_option linter.unusedVariables false
set_option linter.unusedSimpArgs false
namespace Go.Pb
open Go.Sym
theorem valueM_l0 (l : List UInt8) (p : Nat) : (valueM l 0 p).1.length ≤ 1 := by have := valueM_len l 0 p; omega
theorem valueM_l1 (l : List UInt8) (p : Nat) : (valueM l 1 p).1.length ≤ 3 := by
  have := valueM_len l 1 p
  have e : 2 ^ (1 + 1) = 4 := rfl
  omega
theorem valueM_l2 (l : List UInt8) (p : Nat) : (valueM l 2 p).1.length ≤ 7 := by
  have := valueM_len l 2 p
  have e : 2 ^ (2 + 1) = 8 := rfl
  omega
def stK (l : List UInt8) (rec : Nat → Nat → List Ins × Nat) (base k p : Nat) : List Ins × Nat :=
  match k with
  | 1 => ((valueM l 1 p).1 ++ [⟨15, 0⟩], (valueM l 1 p).2)
  | 2 => ([⟨16 + ((nextM l p 3).1 : Int), ((nextM l (nextM l p 3).2 32).1 : Int)⟩], (nextM l (nextM l p 3).2 32).2)
  | 3 => ((valueM l 0 p).1 ++ [⟨19, ((nextM l (valueM l 0 p).2 64).1 : Int)⟩], (nextM l (valueM l 0 p).2 64).2)
  | 4 => ((valueM l 0 p).1 ++ (valueM l 0 (valueM l 0 p).2).1 ++ [⟨20, ((nextM l (valueM l 0 (valueM l 0 p).2).2 64).1 : Int)⟩], (nextM l (valueM l 0 (valueM l 0 p).2).2 64).2)
  | 5 => ((valueM l 1 p).1 ++ [⟨21, ((nextM l (valueM l 1 p).2 2).1 : Int)⟩], (nextM l (valueM l 1 p).2 2).2)
  | 6 => ([⟨22, ((nextM l p 2).1 : Int)⟩], (nextM l p 2).2)
  | 7 => ([⟨23 + ((nextM l p 2).1 : Int), ((nextM l (nextM l p 2).2 2).1 : Int)⟩], (nextM l (nextM l p 2).2 2).2)
  | 8 => ([⟨25, ((nextM l p 2).1 : Int)⟩], (nextM l p 2).2)
  | 9 => ([⟨26 + ((nextM l p 3).1 : Int), ((nextM l (nextM l p 3).2 64).1 : Int)⟩], (nextM l (nextM l p 3).2 64).2)
  | 10 => ((valueM l 1 p).1 ++ [⟨29, ((nextM l (valueM l 1 p).2 2).1 : Int)⟩], (nextM l (valueM l 1 p).2 2).2)
  | 11 => ([⟨30, 0⟩], p)
  | 12 => ((valueM l 1 p).1 ++ [⟨13, ((base + (valueM l 1 p).1.length + 1 + (rec (base + (valueM l 1 p).1.length + 1) (valueM l 1 p).2).1.length : Nat) : Int)⟩] ++ (rec (base + (valueM l 1 p).1.length + 1) (valueM l 1 p).2).1, (rec (base + (valueM l 1 p).1.length + 1) (valueM l 1 p).2).2)
  | 13 | 14 => ((valueM l 0 p).1 ++ [⟨14, ((base + (valueM l 0 p).1.length + 2 + (rec (base + (valueM l 0 p).1.length + 1) (valueM l 0 p).2).1.length : Nat) : Int)⟩] ++ (rec (base + (valueM l 0 p).1.length + 1) (valueM l 0 p).2).1 ++ [⟨12, ((base + (valueM l 0 p).1.length : Nat) : Int)⟩], (rec (base + (valueM l 0 p).1.length + 1) (valueM l 0 p).2).2)
  | _ => ((valueM l 2 p).1 ++ [⟨3, ((nextM l (valueM l 2 p).2 3).1 : Int)⟩], (nextM l (valueM l 2 p).2 3).2)
def stmtM (l : List UInt8) : Nat → Nat → Nat → List Ins × Nat
  | 0, base, p => stK l (fun _ p => ([], p)) base (if 11 < (nextM l p 15).1 then 0 else (nextM l p 15).1) (nextM l p 15).2
  | d + 1, base, p => stK l (stmtM l d) base (nextM l p 15).1 (nextM l p 15).2
theorem stK_pos {l : List UInt8} {rec : Nat → Nat → List Ins × Nat} (hr : ∀ b p, p ≤ l.length → (rec b p).2 ≤ l.length) (base k p : Nat) (h : p ≤ l.length) : (stK l rec base k p).2 ≤ l.length := by
  unfold stK
  split
  all_goals first
    | exact h
    | exact nextM_le h
    | exact nextM_le (nextM_le h)
    | exact valueM_le _ _ _ h
    | exact nextM_le (valueM_le _ _ _ h)
    | exact nextM_le (valueM_le _ _ _ (valueM_le _ _ _ h))
    | exact hr _ _ (valueM_le _ _ _ h)
theorem stmtM_le (l : List UInt8) : ∀ (d base p : Nat), p ≤ l.length → (stmtM l d base p).2 ≤ l.length
  | 0, base, p, h => stK_pos (fun _ _ h => h) _ _ _ (nextM_le h)
  | d + 1, base, p, h => stK_pos (fun b p h => stmtM_le l d b p h) _ _ _ (nextM_le h)
theorem stK_len {l : List UInt8} {rec : Nat → Nat → List Ins × Nat} {m : Nat} (hr : ∀ b p, (rec b p).1.length ≤ m) (h8 : 4 ≤ m) (base k p : Nat) : (stK l rec base k p).1.length ≤ m + 4 := by
  have a := valueM_l0 l
  have b := valueM_l1 l
  have c := valueM_l2 l
  unfold stK
  split
  all_goals simp only [List.length_append, List.length_singleton]
  · have := b p; omega
  · omega
  · have := a p; omega
  · have := a p; have := a (valueM l 0 p).2; omega
  · have := b p; omega
  · omega
  · omega
  · omega
  · omega
  · have := b p; omega
  · omega
  · have := b p; have := hr (base + (valueM l 1 p).1.length + 1) (valueM l 1 p).2; omega
  · have := a p; have := hr (base + (valueM l 0 p).1.length + 1) (valueM l 0 p).2; omega
  · have := a p; have := hr (base + (valueM l 0 p).1.length + 1) (valueM l 0 p).2; omega
  · have := c p; omega
theorem stmtM_len (l : List UInt8) : ∀ (d base p : Nat), (stmtM l d base p).1.length ≤ 8 + 4 * d
  | 0, base, p => by
    have := stK_len (l := l) (rec := fun _ p => ([], p)) (m := 4) (fun _ _ => by simp) (by omega) base (if 11 < (nextM l p 15).1 then 0 else (nextM l p 15).1) (nextM l p 15).2
    simp only [stmtM]; omega
  | d + 1, base, p => by
    have := stK_len (l := l) (rec := stmtM l d) (m := 8 + 4 * d) (fun b p => stmtM_len l d b p) (by omega) base (nextM l p 15).1 (nextM l p 15).2
    simp only [stmtM]; omega
theorem w_sum {a b : Nat} (h : a + b ≤ 1000000) : IntKind.i64.wrap ((a : Int) + (b : Int)) = ((a + b : Nat) : Int) := by rw [w64 (by omega) (by omega)]; omega
theorem insL1 (a : List Ins) (x y : DV) : (insC a ++ [x, y]).length = (a.length + 1) * 2 := by rw [List.length_append, insC_len]; simp; omega
theorem insL2 (a b : List Ins) : (insC a ++ insC b).length = (a.length + b.length) * 2 := by rw [List.length_append, insC_len, insC_len]; omega
theorem insL3 (a b : List Ins) (x y : DV) : (insC a ++ [x, y] ++ insC b).length = (a.length + 1 + b.length) * 2 := by rw [List.length_append, insL1, insC_len]; omega
end Go.Pb

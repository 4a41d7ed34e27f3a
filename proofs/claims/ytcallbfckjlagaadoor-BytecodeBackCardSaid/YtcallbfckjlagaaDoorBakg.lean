/-
  HELPERS of the claim: part 7 of its texts.
-/
import Derived.Shelf.Strings.OnBuilder
import Derived.Shelf.Strconv.Itoa3
import Derived.Test.YtcallbfckjlagaaDoorProg
import Derived.Test.YtcallbfckjlagaaDoorBakf
set_option linter.unusedVariables false
namespace Go.Proofs
open Go.Shelf
def Tryd.lays156_ren : Go.Shelf.Ren := ⟨fun | 156 => 50 | 165 => 64 | 166 => 65 | 169 => 66 | 240 => 83 | 241 => 84 | 276 => 92 | 277 => 93 | n => n, fun | 31 => 24 | 9 => 9 | 3 => 3 | 4 => 4 | 0 => 0 | 20 => 20 | 72 => 100 | 76 => 104 | 70 => 98 | 37 => 22 | 75 => 103 | 127 => 117 | 164 => 126 | 5 => 5 | 80 => 106 | n => n, fun | n => n⟩
theorem Tryd.lays156 : Go.Proofs.Lays.n156 Tryd.prog Tryd.lays156_ren := {
  mixed := by kernel_rfl
  f156 := Tryd.func50.trans (congrArg some (by kernel_rfl))
  f165 := Tryd.func64.trans (congrArg some (by kernel_rfl))
  f166 := Tryd.func65.trans (congrArg some (by kernel_rfl))
  f169 := Tryd.func66.trans (congrArg some (by kernel_rfl))
  f240 := Tryd.func83.trans (congrArg some (by kernel_rfl))
  f241 := Tryd.func84.trans (congrArg some (by kernel_rfl))
  f276 := Tryd.func92.trans (congrArg some (by kernel_rfl))
  f277 := Tryd.func93.trans (congrArg some (by kernel_rfl))
  t0 := Tryd.underlying0
  a0 := Tryd.isAgg0
  z0 := Tryd.sizeOf0
  v0 := Tryd.zeroValue0
  t3 := Tryd.underlying3
  a3 := Tryd.isAgg3
  z3 := Tryd.sizeOf3
  v3 := Tryd.zeroValue3
  t4 := Tryd.underlying4
  a4 := Tryd.isAgg4
  z4 := Tryd.sizeOf4
  v4 := Tryd.zeroValue4
  t9 := Tryd.underlying9
  a9 := Tryd.isAgg9
  z9 := Tryd.sizeOf9
  v9 := Tryd.zeroValue9
  t20 := Tryd.underlying20
  a20 := Tryd.isAgg20
  z20 := Tryd.sizeOf20
  v20 := Tryd.zeroValue20
  t31 := Tryd.underlying24
  a31 := Tryd.isAgg24
  z31 := Tryd.sizeOf24
  v31 := Tryd.zeroValue24
  t37 := Tryd.underlying22
  a37 := Tryd.isAgg22
  z37 := Tryd.sizeOf22
  v37 := Tryd.zeroValue22
  t70 := Tryd.underlying98
  a70 := Tryd.isAgg98
  z70 := Tryd.sizeOf98
  v70 := Tryd.zeroValue98
  t72 := Tryd.underlying100
  a72 := Tryd.isAgg100
  z72 := Tryd.sizeOf100
  v72 := Tryd.zeroValue100
  t75 := Tryd.underlying103
  a75 := Tryd.isAgg103
  z75 := Tryd.sizeOf103
  v75 := Tryd.zeroValue103
  t76 := Tryd.underlying104
  a76 := Tryd.isAgg104
  z76 := Tryd.sizeOf104
  v76 := Tryd.zeroValue104
  t127 := Tryd.underlying117
  a127 := Tryd.isAgg117
  z127 := Tryd.sizeOf117
  v127 := Tryd.zeroValue117
  t164 := Tryd.underlying126
  a164 := Tryd.isAgg126
  z164 := Tryd.sizeOf126
  v164 := Tryd.zeroValue126 }
theorem Tryd.Builder_Extra_156 : Builder.Extra Tryd.prog Tryd.lays156_ren := {
  sizeBuilder := by kernel_rfl
  liesBuilder := by kernel_rfl
  t5 := Tryd.underlying5
  a5 := Tryd.isAgg5
  z5 := Tryd.sizeOf5
  v5 := Tryd.zeroValue5
  infoByte := by kernel_rfl
  cellsByte := by kernel_rfl
  sizeByte := by kernel_rfl
  neB5 := by decide }
open Go.RowKit in
theorem Tryd.strings_Join_none (a : Option Addr) (c : Nat) (sep : ByteArray) (w : World) :
    Calls Tryd.prog 50 #[.slice a 0 c, .string sep] w fun e w' => e = .returned (.string ⟨#[]⟩) ∧ w' = w := Any.strings_Join_none Tryd.lays156 Tryd.Builder_Extra_156 a c sep w
open Go.RowKit in
theorem Tryd.strings_Join (bk o c : Nat) (xs : List ByteArray) (sep : ByteArray) (w : World) (hcells : ∀ (j : Nat) x, xs[j]? = some x → w.cell? ⟨bk, o + j, none⟩ = some (.string x)) (hbk : bk < w.heap.size) (hN : xs.length ≤ 140737488355328) (hcap : xs.length ≤ c) (hlen : (Lib.join (xs.map (·.data.toList)) sep.data.toList).length ≤ 140737488355328) :
    Calls Tryd.prog 50 #[.slice (some ⟨bk, o, none⟩) xs.length c, .string sep] w fun e w' => e = .returned (.string ⟨(Lib.join (xs.map (·.data.toList)) sep.data.toList).toArray⟩) ∧ Below w.heap.size w w' := Any.strings_Join Tryd.lays156 Tryd.Builder_Extra_156 bk o c xs sep w hcells hbk hN hcap hlen
def Tryd.lays171_ren : Go.Shelf.Ren := ⟨fun | 171 => 49 | 243 => 63 | 246 => 82 | 283 => 88 | 284 => 89 | 285 => 90 | 286 => 91 | 129 => 95 | 317 => 94 | 318 => 96 | 319 => 97 | 320 => 98 | 337 => 99 | 338 => 100 | n => n, fun | 3 => 3 | 9 => 9 | 2 => 2 | 4 => 4 | 171 => 121 | 0 => 0 | 53 => 87 | 37 => 22 | 5 => 5 | 173 => 124 | 212 => 130 | 51 => 131 | 20 => 20 | 213 => 132 | 46 => 88 | 232 => 135 | 233 => 136 | n => n, fun | 17 => 0 | 18 => 2 | 19 => 3 | n => n⟩
theorem Tryd.lays171 : Go.Proofs.Lays.n171 Tryd.prog Tryd.lays171_ren := {
  mixed := by kernel_rfl
  f129 := Tryd.func95.trans (congrArg some (by kernel_rfl))
  f171 := Tryd.func49.trans (congrArg some (by kernel_rfl))
  f243 := Tryd.func63.trans (congrArg some (by kernel_rfl))
  f246 := Tryd.func82.trans (congrArg some (by kernel_rfl))
  f283 := Tryd.func88.trans (congrArg some (by kernel_rfl))
  f284 := Tryd.func89.trans (congrArg some (by kernel_rfl))
  f285 := Tryd.func90.trans (congrArg some (by kernel_rfl))
  f286 := Tryd.func91.trans (congrArg some (by kernel_rfl))
  f317 := Tryd.func94.trans (congrArg some (by kernel_rfl))
  f318 := Tryd.func96.trans (congrArg some (by kernel_rfl))
  f319 := Tryd.func97.trans (congrArg some (by kernel_rfl))
  f320 := Tryd.func98.trans (congrArg some (by kernel_rfl))
  f337 := Tryd.func99.trans (congrArg some (by kernel_rfl))
  f338 := Tryd.func100.trans (congrArg some (by kernel_rfl))
  t0 := Tryd.underlying0
  a0 := Tryd.isAgg0
  z0 := Tryd.sizeOf0
  v0 := Tryd.zeroValue0
  t2 := Tryd.underlying2
  a2 := Tryd.isAgg2
  z2 := Tryd.sizeOf2
  v2 := Tryd.zeroValue2
  t3 := Tryd.underlying3
  a3 := Tryd.isAgg3
  z3 := Tryd.sizeOf3
  v3 := Tryd.zeroValue3
  t4 := Tryd.underlying4
  a4 := Tryd.isAgg4
  z4 := Tryd.sizeOf4
  v4 := Tryd.zeroValue4
  t5 := Tryd.underlying5
  a5 := Tryd.isAgg5
  z5 := Tryd.sizeOf5
  v5 := Tryd.zeroValue5
  t9 := Tryd.underlying9
  a9 := Tryd.isAgg9
  z9 := Tryd.sizeOf9
  v9 := Tryd.zeroValue9
  t20 := Tryd.underlying20
  a20 := Tryd.isAgg20
  z20 := Tryd.sizeOf20
  v20 := Tryd.zeroValue20
  t37 := Tryd.underlying22
  a37 := Tryd.isAgg22
  z37 := Tryd.sizeOf22
  v37 := Tryd.zeroValue22
  t46 := Tryd.underlying88
  a46 := Tryd.isAgg88
  z46 := Tryd.sizeOf88
  v46 := Tryd.zeroValue88
  t51 := Tryd.underlying131
  a51 := Tryd.isAgg131
  z51 := Tryd.sizeOf131
  v51 := Tryd.zeroValue131
  t53 := Tryd.underlying87
  a53 := Tryd.isAgg87
  z53 := Tryd.sizeOf87
  v53 := Tryd.zeroValue87
  t171 := Tryd.underlying121
  a171 := Tryd.isAgg121
  z171 := Tryd.sizeOf121
  v171 := Tryd.zeroValue121
  t173 := Tryd.underlying124
  a173 := Tryd.isAgg124
  z173 := Tryd.sizeOf124
  v173 := Tryd.zeroValue124
  t212 := Tryd.underlying130
  a212 := Tryd.isAgg130
  z212 := Tryd.sizeOf130
  v212 := Tryd.zeroValue130
  t213 := Tryd.underlying132
  a213 := Tryd.isAgg132
  z213 := Tryd.sizeOf132
  t232 := Tryd.underlying135
  a232 := Tryd.isAgg135
  z232 := Tryd.sizeOf135
  v232 := Tryd.zeroValue135
  t233 := Tryd.underlying136
  a233 := Tryd.isAgg136
  z233 := Tryd.sizeOf136
  v233 := Tryd.zeroValue136
  g17 := by kernel_rfl
  g18 := by kernel_rfl
  g19 := by kernel_rfl }
open Go.RowKit Go.Sort Go.Lib in
theorem Tryd.strconv_Itoa_small (i : Nat) (hi : i < 100) (w : World) :
    Calls Tryd.prog 49 #[.int .i64 i] w fun e w' => e = .returned (.string ⟨(Lib.decDigits i).toArray⟩) ∧ w' = w := Any.strconv_Itoa_small Tryd.lays171 i hi w
end Go.Proofs
set_option maxHeartbeats 4000000
set_option maxRecDepth 100000
set_option linter.unusedSimpArgs false
set_option linter.unusedVariables false
namespace Go.Proofs.YtcallbfckjlagaaDoor
open Go.Eng (IC IOper DReg IFn IsFn Callable)
open Go.Sym Go.Pb Go.RowKit
noncomputable section
def u25_10r : DReg := ⟨[⟨some 14, .pur (.mv (.t 3)), none⟩, ⟨some 15, .pur (.mv (.t 4)), none⟩, ⟨some 16, .call 49 [.t 15], none⟩, ⟨some 17, .pur (.bin .add (.t 16) (.k (.string ⟨#[32]⟩))), none⟩, ⟨some 18, .pur (.fad 0 (.t 5)), none⟩, ⟨some 19, .pur (.ld 1 false (.t 18)), none⟩, ⟨some 20, .call 49 [.t 19], none⟩, ⟨some 21, .pur (.bin .add (.t 17) (.t 20)), none⟩, ⟨some 22, .pur (.bin .add (.t 21) (.k (.string ⟨#[32]⟩))), none⟩, ⟨some 23, .pur (.fad 1 (.t 5)), none⟩, ⟨some 24, .pur (.ld 1 false (.t 23)), none⟩, ⟨some 25, .call 49 [.t 24], none⟩, ⟨some 26, .pur (.bin .add (.t 22) (.t 25)), none⟩, ⟨some 27, .pur (.bin .add (.t 26) (.k (.string ⟨#[10]⟩))), none⟩, ⟨some 28, .new (.bsl 1 1 #[.string ⟨#[]⟩] [(0, .t 27)]), none⟩, ⟨some 29, .eff (.app 1 16 (.t 14) (.t 28)), none⟩, ⟨some 3, .pur (.mv (.t 29)), none⟩], [[], [], [1], [2, 1], [], [4], [5, 2, 4, 1], [3, 6, 2, 1, 5, 4], [7, 3, 6, 2, 1, 5, 4], [], [9], [10, 6, 9, 5, 2, 4, 1], [8, 11, 7, 3, 6, 2, 1, 5, 4, 10, 9], [12, 8, 11, 7, 3, 6, 2, 1, 5, 4, 10, 9], [13, 12, 8, 11, 7, 3, 6, 2, 1, 5, 4, 10, 9], [0, 14, 11, 13, 12, 8, 7, 3, 6, 2, 1, 5, 4, 10, 9], [15, 0, 1, 2, 3, 4, 5, 6, 7, 8, 9, 10, 11, 12, 13, 14]], [(0, none), (1, none), (4, none), (5, none), (9, none), (10, none), (2, some [0, 4, 5, 9, 10]), (3, none), (6, some [0, 9, 10, 3]), (7, none), (8, none), (11, some [0, 3, 7, 8]), (12, none), (13, none), (14, none), (15, some []), (16, some [])]⟩
def u25_10 : IC := .drw 17 u25_10r
def u25_9r : List IOper := [⟨some 11, .pur (.mv (.t 9)), none⟩, ⟨some 12, .pur (.iad 2 (.t 7) (.t 9)), none⟩, ⟨some 13, .pur (.ld 2 true (.t 12)), none⟩, ⟨some 5, .new (.box (.k (.agg #[.int .i64 0, .int .i64 0]))), none⟩, ⟨some 4, .pur (.mv (.t 11)), none⟩, ⟨none, .eff (.st 2 (.t 5) (.t 13)), none⟩]
def u25_9 : IC := .seq (.reg u25_9r) u25_10
def u25_11r : List IOper := [⟨some 30, .pur (.bin .add (.t 9) (.k (.int .i64 1))), none⟩, ⟨some 9, .pur (.mv (.t 30)), none⟩]
def u25_11 : IC := .reg u25_11r
def u25_8 : IC := .seq (.blk 1 u25_9) u25_11
def u25_7 : IC := .seq (.cond (.t 10) .skip (.exit 0)) u25_8
def u25_6r : List IOper := [⟨some 10, .pur (.bin .lss (.t 9) (.t 8)), none⟩]
def u25_6 : IC := .seq (.reg u25_6r) u25_7
def u25_5 : IC := .blk 0 (.loop u25_6)
def u25_4r : List IOper := [⟨some 6, .pur (.fad 0 (.t 1)), none⟩, ⟨some 7, .pur (.ld 1 false (.t 6)), none⟩, ⟨some 8, .pur (.len (.t 7)), none⟩, ⟨some 9, .pur (.mv (.k (.int .i64 0))), none⟩]
def u25_4 : IC := .seq (.reg u25_4r) u25_5
def u25_12r : List IOper := [⟨some 31, .pur (.mv (.t 3)), none⟩, ⟨some 32, .call 50 [.t 31, .k (.string ⟨#[]⟩)], none⟩, ⟨some 2, .pur (.mv (.t 32)), none⟩]
def u25_12 : IC := .seq (.reg u25_12r) .ret
def u25_3 : IC := .seq u25_4 u25_12
def u25_2r : List IOper := [⟨some 3, .pur (.mv (.k (.slice none 0 0))), none⟩]
def u25_2 : IC := .seq (.reg u25_2r) u25_3
def u25_1r : List IOper := [⟨some 1, .new (.box (.t 0)), none⟩, ⟨some 2, .pur (.mv (.k (.string ⟨#[]⟩))), none⟩]
def u25_1 : IC := .seq (.reg u25_1r) u25_2
def u25 : IFn := ⟨33, u25_1, [.tmp 2]⟩
end
theorem isU25 : IsFn Tryd.prog 25 u25 := by unfold IsFn; kernel_rfl
instance i25_10 : WR Tryd.prog 33 u25_10 (rDE 17 u25_10r [3, 4, 5, 7, 8, 9]) := ⟨mkDE⟩
instance i25_9 : WR Tryd.prog 33 u25_9 (rS u25_9r u25_10 [3, 7, 8, 9]) := ⟨mkS⟩
instance i25_11 : WR Tryd.prog 33 u25_11 (rE u25_11r [3, 7, 8, 9]) := ⟨mkE⟩
instance i25_8 : WR Tryd.prog 33 u25_8 (rB 1 u25_9 u25_11 [3, 7, 8, 9]) := ⟨mkB⟩
instance i25_7 : WR Tryd.prog 33 u25_7 (rC (.t 10) .skip (.exit 0) u25_8 [3, 7, 8, 9, 10]) := ⟨mkC⟩
instance i25_6 : WR Tryd.prog 33 u25_6 (rS u25_6r u25_7 [3, 7, 8, 9]) := ⟨mkS⟩
instance i25_5 : WR Tryd.prog 33 u25_5 (rBE 0 (.loop u25_6) [3, 7, 8, 9]) := ⟨mkBE⟩
instance i25_4 : WR Tryd.prog 33 u25_4 (rS u25_4r u25_5 [1, 3]) := ⟨mkS⟩
instance i25_12 : WR Tryd.prog 33 u25_12 (rS u25_12r .ret [3]) := ⟨mkS⟩
instance i25_3 : WR Tryd.prog 33 u25_3 (rQ u25_4 u25_12 [1, 3]) := ⟨mkQ⟩
instance i25_2 : WR Tryd.prog 33 u25_2 (rS u25_2r u25_3 [1]) := ⟨mkS⟩
instance i25_1 : WR Tryd.prog 33 u25_1 (rS u25_1r u25_2 [0]) := ⟨mkS⟩
attribute [go_sem] u25_10r u25_9r u25_11r u25_6r u25_4r u25_12r u25_2r u25_1r
theorem dec_eq : ∀ (m u : Nat), u < m → Lib.decDigits u = decB u := by
  intro m
  induction m with
  | zero => intro u h; omega
  | succ m ih =>
    intro u h
    unfold Lib.decDigits
    by_cases h0 : u < 10
    · rw [dif_pos h0, decB_lt h0]; rfl
    · rw [dif_neg h0, decB_ge h0, ih (u / 10) (by omega)]; rfl
theorem c_ItoaS (i : Nat) (hi : i < 100) : PC Tryd.prog 49 [I64 (i : Int)] (.str (decI i)) := by
  refine PC.of_calls (by kernel_rfl) rfl rfl fun ρ w vs hf hA => ?_
  have hvs : vs = #[.int .i64 (i : Int)] := by
    obtain ⟨y, h1, h2⟩ := hA.get (i := 0) rfl
    have hs : vs.size = 1 := hA.1.symm
    cases h2
    cases vs with | mk l => match l, hs, h1 with
      | [a], _, h1 => simp at h1; subst h1; rfl
  rw [hvs]
  refine (Tryd.strconv_Itoa_small i hi w).mono ?_
  rintro e w' ⟨rfl, rfl⟩
  have e : decI (i : Int) = Lib.decDigits i := by rw [dec_eq (i + 1) i (by omega), decI, if_neg (by omega), Int.natAbs_natCast]
  exact ⟨_, rfl, fun ρ' => by rw [e]; exact .mkStr, Below.refl _ _⟩
theorem c_Join (l : List (List UInt8)) (h1 : l.length ≤ 140737488355328) (h2 : l.flatten.length ≤ 140737488355328) : PC Tryd.prog 50 [strs l, .str []] (.str l.flatten) := by
  refine PC.of_calls (by kernel_rfl) (by simp [DV.nlL, DV.nl, nlL_strs]) rfl fun ρ w vs hf hA => ?_
  obtain ⟨y, g1, g2⟩ := hA.get (i := 0) rfl
  obtain ⟨z, g3, g4⟩ := hA.get (i := 1) rfl
  obtain rfl := g4.str_inv
  have hvs : vs = #[y, .string ⟨#[]⟩] := by
    have hs : vs.size = 2 := hA.1.symm
    cases vs with | mk r => match r, hs, g1, g3 with
      | [a, b], _, h1, h3 => simp at h1 h3; subst h1 h3; rfl
  rw [hvs]
  rcases g2.lst_inv with ⟨e0, e1 | ⟨a, c, e1⟩⟩ | ⟨u, b, off, c, row, e1, e2, e3, e4, e5, e6⟩
  · subst e1
    have : l = [] := by simpa using e0
    subst this
    refine (Tryd.strings_Join_none none 0 ⟨#[]⟩ w).mono ?_
    rintro e w' ⟨rfl, rfl⟩
    exact ⟨_, rfl, fun ρ' => .mkStr, Below.refl _ _⟩
  · subst e1
    have : l = [] := by simpa using e0
    subst this
    refine (Tryd.strings_Join_none (some a) c ⟨#[]⟩ w).mono ?_
    rintro e w' ⟨rfl, rfl⟩
    exact ⟨_, rfl, fun ρ' => .mkStr, Below.refl _ _⟩
  · subst e1
    obtain ⟨e, fr, hb⟩ := hf b row e2
    obtain ⟨bs, hbs⟩ : ∃ bs : List ByteArray, bs = l.map fun s => (⟨s.toArray⟩ : ByteArray) := ⟨_, rfl⟩
    have hL : (l.map DV.str).length = bs.length := by rw [hbs]; simp
    have hmap : bs.map (fun x => x.data.toList) = l := by
      rw [hbs, List.map_map]
      exact (List.map_congr_left fun s _ => rfl).trans (List.map_id l)
    have hj : Lib.join l [] = l.flatten := by
      unfold Lib.join
      cases l with
      | nil => rfl
      | cons x r => exact (Lib.join_cons x r []).trans (by simp [Lib.joinTail])
    have hmap2 : bs.map (·.data.toList) = l := hmap
    have p1 : ∀ (j : Nat) x, bs[j]? = some x → w.cell? ⟨b, off + j, none⟩ = some (.string x) := by
      intro j x hx
      rw [hbs, List.getElem?_map] at hx
      obtain ⟨s, hs, rfl⟩ := Option.map_eq_some_iff.1 hx
      have hc : (cellsL (l.map DV.str))[j]? = some (DV.str s) := by rw [cellsL_map1 (fun _ => rfl), List.getElem?_map, hs]; rfl
      obtain ⟨v, v1, v2⟩ := e6.get hc
      rw [v2.str_inv] at v1
      simp only [World.cell?, hb]
      exact v1
    have p2 : b < w.heap.size := (Array.getElem?_eq_some_iff.1 hb).1
    have p3 : bs.length ≤ 140737488355328 := by rw [hbs]; simpa using h1
    have p4 : bs.length ≤ c := by rw [← hL]; exact e3
    have p5 : (Lib.join (bs.map (·.data.toList)) (⟨#[]⟩ : ByteArray).data.toList).length ≤ 140737488355328 := by
      rw [hmap2]; exact hj ▸ h2
    rw [hL]
    have key := Tryd.strings_Join b off c bs ⟨#[]⟩ w p1 p2 p3 p4 p5
    rw [hmap2] at key
    refine key.mono fun e w' hq => ⟨_, hq.1, fun ρ' => ?_, hq.2⟩
    have e7 : Lib.join l (⟨#[]⟩ : ByteArray).data.toList = l.flatten := hj
    rw [e7]; exact .mkStr
theorem c_ItoaS' (n : Int) (h0 : 0 ≤ n) (h1 : n < 100) : PC Tryd.prog 49 [I64 n] (.str (decI n)) := by
  obtain ⟨i, rfl⟩ : ∃ i : Nat, n = (i : Int) := ⟨n.toNat, by omega⟩
  exact c_ItoaS i (by omega)
theorem c_ListingS (c : Prg) (hl : c.instrs.length ≤ 100) (hb : ∀ i ∈ c.instrs, (0 ≤ i.op ∧ i.op < 100) ∧ 0 ≤ i.A ∧ i.A < 100) : PC Tryd.prog 25 [c.v] (.str (lstF c.instrs 0)) := by
  refine PC.of mixedU isU25 (Nat.le_of_ble_eq_true rfl) (by simp [DV.nlL, DV.nl, nlL_ints, nlL_strs, nlL_instrs, nlL_entries, nlL_stp]) (by simp [DV.nlL, DV.nl, nlL_ints, nlL_strs, nlL_instrs, nlL_entries, nlL_stp]) ?_
  show IW Tryd.prog 33 u25_1 ⟨argT _, _, _⟩ (rt [.tmp 2] _)
  repeat' ((first | (with_reducible first | refine wr ?_ | refine i_ret ?_ | refine i_skip ?_ | refine i_exit ?_) | ((with_reducible first | refine k_cb ?_ ?_ | refine k_gb ?_ ?_ | refine k_gb' ?_ ?_) <;> (intro hb; try simp only [hb]))) <;> try simp only [go_sem, Nat.reduceAdd, Nat.reduceLeDiff, Nat.reduceEqDiff, Nat.reduceMul, Nat.reduceSub, ↓reduceIte, Int.reduceLT, Int.reduceLE, Int.reduceGT, Int.reduceGE, Nat.reduceLT, Nat.reduceGT, Int.reduceToNat, reduceCtorEq, Nat.reduceBEq, Int.reduceBEq, Int.reduceBNe, Int.reduceEq, Int.reduceNe, decide_true, decide_false])
  refine i_loop (fun q : Nat × Option Nat => [(3, todoV q.2 q.1), (7, inssV c.instrs), (8, I64 c.instrs.length), (9, I64 q.1)]) (fun q => optH Sym.nil q.2 ⟨1, true, cellsL ((lnM (c.instrs.take q.1) 0).map DV.str)⟩) (fun q cc => q.1 ≤ c.instrs.length ∧ (q.2 = none → q.1 = 0) ∧ ∀ i, q.2 = some i → i < cc) (fun q => c.instrs.length - q.1) (0, none)
    (by simp [tmLe, tm, Tm.upd, todoV]) (Sub.nil _) ⟨by simp, by simp, by simp⟩ ?_
  rintro ⟨k, o⟩ cc ⟨hk, hno, hso⟩
  simp only at hk hno hso
  have hkl : (lnM (c.instrs.take k) 0).length = k := by rw [lnM_len, List.length_take]; omega
  by_cases hlt : k < c.instrs.length
  · have hd : decide ((k : Int) < c.instrs.length) = true := by simpa using hlt
    have hg := List.getElem?_eq_getElem hlt
    have hw : IntKind.i64.wrap ((k : Int) + 1) = ((k + 1 : Nat) : Int) := by rw [w64 (by omega) (by omega)]; omega
    have hx := hb _ (List.getElem_mem hlt)
    have l1 := decI_len (n := (k : Int)) (by omega) (by omega)
    have l2 := decI_len (n := c.instrs[k].op) (by omega) (by omega)
    have l3 := decI_len (n := c.instrs[k].A) (by omega) (by omega)
    have a1 := sadd (s := decI k) (t := [32]) (by first | omega | (simp only [List.length_append, List.length_singleton]; omega))
    have a2 := sadd (s := decI k ++ [32]) (t := decI c.instrs[k].op) (by first | omega | (simp only [List.length_append, List.length_singleton]; omega))
    have a3 := sadd (s := decI k ++ [32] ++ decI c.instrs[k].op) (t := [32]) (by first | omega | (simp only [List.length_append, List.length_singleton]; omega))
    have a4 := sadd (s := decI k ++ [32] ++ decI c.instrs[k].op ++ [32]) (t := decI c.instrs[k].A) (by first | omega | (simp only [List.length_append, List.length_singleton]; omega))
    have a5 := sadd (s := decI k ++ [32] ++ decI c.instrs[k].op ++ [32] ++ decI c.instrs[k].A) (t := [10]) (by first | omega | (simp only [List.length_append, List.length_singleton]; omega))
    have est : cellsL ((lnM (c.instrs.take (k + 1)) 0).map DV.str) = cellsL ((lnM (c.instrs.take k) 0).map DV.str) ++ [DV.str (lineB k c.instrs[k])] := by
      rw [lnM_step hg, List.map_append, cellsL_append]; rfl
    have hL := strC_len (lnM (c.instrs.take k) 0)
    rw [hkl] at hL
    have fa1 : ¬cc + 1 = cc := by omega
    have fa2 : ¬cc + 2 = cc := by omega
    have fa3 : ¬cc + 3 = cc := by omega
    have fa4 : ¬cc + 4 = cc := by omega
    have fa5 : ¬cc + 5 = cc := by omega
    have fa6 : ¬cc + 6 = cc := by omega
    have fa7 : ¬cc + 7 = cc := by omega
    have fa8 : ¬cc + 8 = cc := by omega
    have fa9 : ¬cc + 9 = cc := by omega
    have fa10 : ¬cc + 10 = cc := by omega
    have fa11 : ¬cc + 11 = cc := by omega
    have fa12 : ¬cc + 12 = cc := by omega
    have fa13 : ¬cc + 13 = cc := by omega
    have fa14 : ¬cc + 14 = cc := by omega
    have fa15 : ¬cc + 15 = cc := by omega
    have fa16 : ¬cc + 16 = cc := by omega
    have fa17 : ¬cc + 17 = cc := by omega
    have fa18 : ¬cc + 18 = cc := by omega
    rcases o with _ | id
    · obtain rfl := hno rfl
      repeat' ((first | (with_reducible first | refine wr ?_ | refine i_ret ?_ | refine i_skip ?_ | refine i_exit ?_) | ((with_reducible first | refine k_cb ?_ ?_ | refine k_gb ?_ ?_ | refine k_gb' ?_ ?_) <;> (intro hb; try simp only [hb])) | ((with_reducible refine k_eval (r_appn' (by decide) (by decide) (by decide)) ?_)) | ((with_reducible refine x_eval (r_appn' (by decide) (by decide) (by decide)) ?_)) | ((with_reducible refine AC.call ((c_ItoaS' ((0 : Nat) : Int) (by omega) (by omega)).at _ _) ?_); rintro _ _ _ ⟨rfl, rfl, rfl⟩ -) | ((with_reducible refine AC.call ((c_ItoaS' _ hx.1.1 hx.1.2).at _ _) ?_); rintro _ _ _ ⟨rfl, rfl, rfl⟩ -) | ((with_reducible refine AC.call ((c_ItoaS' _ hx.2.1 hx.2.2).at _ _) ?_); rintro _ _ _ ⟨rfl, rfl, rfl⟩ -)) <;> try simp only [go_sem, Nat.reduceAdd, Nat.reduceLeDiff, Nat.reduceEqDiff, Nat.reduceMul, Nat.reduceSub, ↓reduceIte, Int.reduceLT, Int.reduceLE, Int.reduceGT, Int.reduceGE, Nat.reduceLT, Nat.reduceGT, Int.reduceToNat, reduceCtorEq, Nat.reduceBEq, Int.reduceBEq, Int.reduceBNe, Int.reduceEq, Int.reduceNe, decide_true, decide_false, hd, hg, hw, a1, a2, a3, a4, a5, fa1, fa2, fa3, fa4, fa5, fa6, fa7, fa8, fa9, fa10, fa11, fa12, fa13, fa14, fa15, fa16, fa17, fa18])
      have est0 : cellsL ((lnM (c.instrs.take 1) 0).map DV.str) = [DV.str (decI ((0 : Nat) : Int) ++ ([32] : List UInt8) ++ decI (c.instrs[0]'hlt).op ++ ([32] : List UInt8) ++ decI (c.instrs[0]'hlt).A ++ ([10] : List UInt8))] := est
      exact ⟨(1, some (cc + 1 + 17)), ⟨rfl, rfl⟩, by simp only [est0]; (intro j b hj; simp only [optH, Hp.upd, Hp.del, Sym.nil] at hj ⊢; (repeat' split at hj) <;> (repeat' split) <;> first | exact hj | (exfalso; omega) | cases hj), inv ⟨hlt, by simp, fun i hi => by cases hi; omega⟩, by simp only; omega⟩
    · have hid := hso id rfl
      have fb1 : ¬cc + 1 = id := by omega
      have fb2 : ¬cc + 2 = id := by omega
      have fb3 : ¬cc + 3 = id := by omega
      have fb4 : ¬cc + 4 = id := by omega
      have fb5 : ¬cc + 5 = id := by omega
      have fb6 : ¬cc + 6 = id := by omega
      have fb7 : ¬cc + 7 = id := by omega
      have fb8 : ¬cc + 8 = id := by omega
      have fb9 : ¬cc + 9 = id := by omega
      have fb10 : ¬cc + 10 = id := by omega
      have fb11 : ¬cc + 11 = id := by omega
      have fb12 : ¬cc + 12 = id := by omega
      have fb13 : ¬cc + 13 = id := by omega
      have fb14 : ¬cc + 14 = id := by omega
      have fb15 : ¬cc + 15 = id := by omega
      have fb16 : ¬cc + 16 = id := by omega
      have fb17 : ¬cc + 17 = id := by omega
      have fb18 : ¬cc + 18 = id := by omega
      have fb0 : ¬cc = id := by omega
      have fc1 : ¬id = cc + 1 := by omega
      have fc2 : ¬id = cc + 2 := by omega
      have fc3 : ¬id = cc + 3 := by omega
      have fc4 : ¬id = cc + 4 := by omega
      have fc5 : ¬id = cc + 5 := by omega
      have fc6 : ¬id = cc + 6 := by omega
      have fc7 : ¬id = cc + 7 := by omega
      have fc8 : ¬id = cc + 8 := by omega
      have fc9 : ¬id = cc + 9 := by omega
      have fc10 : ¬id = cc + 10 := by omega
      have fc11 : ¬id = cc + 11 := by omega
      have fc12 : ¬id = cc + 12 := by omega
      have fc13 : ¬id = cc + 13 := by omega
      have fc14 : ¬id = cc + 14 := by omega
      have fc15 : ¬id = cc + 15 := by omega
      have fc16 : ¬id = cc + 16 := by omega
      have fc17 : ¬id = cc + 17 := by omega
      have fc18 : ¬id = cc + 18 := by omega
      have fc0 : ¬id = cc := by omega
      repeat' ((first | (with_reducible first | refine wr ?_ | refine i_ret ?_ | refine i_skip ?_ | refine i_exit ?_) | ((with_reducible first | refine k_cb ?_ ?_ | refine k_gb ?_ ?_ | refine k_gb' ?_ ?_) <;> (intro hb; try simp only [hb])) | ((with_reducible refine k_eval (b_appx hL (by omega) (by omega)) ?_)) | ((with_reducible refine x_eval (b_appx hL (by omega) (by omega)) ?_)) | ((with_reducible refine AC.call ((c_ItoaS' (k : Int) (by omega) (by omega)).at _ _) ?_); rintro _ _ _ ⟨rfl, rfl, rfl⟩ -) | ((with_reducible refine AC.call ((c_ItoaS' _ hx.1.1 hx.1.2).at _ _) ?_); rintro _ _ _ ⟨rfl, rfl, rfl⟩ -) | ((with_reducible refine AC.call ((c_ItoaS' _ hx.2.1 hx.2.2).at _ _) ?_); rintro _ _ _ ⟨rfl, rfl, rfl⟩ -)) <;> try simp only [go_sem, Nat.reduceAdd, Nat.reduceLeDiff, Nat.reduceEqDiff, Nat.reduceMul, Nat.reduceSub, ↓reduceIte, Int.reduceLT, Int.reduceLE, Int.reduceGT, Int.reduceGE, Nat.reduceLT, Nat.reduceGT, Int.reduceToNat, reduceCtorEq, Nat.reduceBEq, Int.reduceBEq, Int.reduceBNe, Int.reduceEq, Int.reduceNe, decide_true, decide_false, hd, hg, hw, a1, a2, a3, a4, a5, fa1, fa2, fa3, fa4, fa5, fa6, fa7, fa8, fa9, fa10, fa11, fa12, fa13, fa14, fa15, fa16, fa17, fa18, fb0, fc0, fb1, fc1, fb2, fc2, fb3, fc3, fb4, fc4, fb5, fc5, fb6, fc6, fb7, fc7, fb8, fc8, fb9, fc9, fb10, fc10, fb11, fc11, fb12, fc12, fb13, fc13, fb14, fc14, fb15, fc15, fb16, fc16, fb17, fc17, fb18, fc18])
      exact ⟨(k + 1, some (cc + 1 + 17)), ⟨rfl, rfl⟩, by simp only [est, lineB]; (intro j b hj; simp only [optH, Hp.upd, Hp.del, Sym.nil] at hj ⊢; (repeat' split at hj) <;> (repeat' split) <;> first | exact hj | (exfalso; omega) | cases hj), inv ⟨hlt, by simp, fun i hi => by cases hi; omega⟩, by simp only; omega⟩
  have hd : decide ((k : Int) < c.instrs.length) = false := by simpa using hlt
  rw [List.take_of_length_le (by omega)] at hkl ⊢
  have hll := lstF_len c.instrs 0 (by omega) (fun i hi => by have := hb i hi; exact ⟨⟨by omega, by omega⟩, by omega, by omega⟩)
  have hj := c_Join (lnM c.instrs 0) (by omega) (by rw [lnM_flat]; omega)
  rw [lnM_flat] at hj
  have hkn : k = c.instrs.length := by omega
  rcases o with _ | id
  · have hk0 := hno rfl
    have h00 : c.instrs = [] := List.eq_nil_of_length_eq_zero (by omega)
    repeat' ((first | (with_reducible first | refine wr ?_ | refine i_ret ?_ | refine i_skip ?_ | refine i_exit ?_) | ((with_reducible first | refine k_cb ?_ ?_ | refine k_gb ?_ ?_ | refine k_gb' ?_ ?_) <;> (intro hb; try simp only [hb]))) <;> try simp only [go_sem, Nat.reduceAdd, Nat.reduceLeDiff, Nat.reduceEqDiff, Nat.reduceMul, Nat.reduceSub, ↓reduceIte, Int.reduceLT, Int.reduceLE, Int.reduceGT, Int.reduceGE, Nat.reduceLT, Nat.reduceGT, Int.reduceToNat, reduceCtorEq, Nat.reduceBEq, Int.reduceBEq, Int.reduceBNe, Int.reduceEq, Int.reduceNe, decide_true, decide_false, hd])
    refine AC.call (hj.give (H0 := Sym.nil) ⟨fun _ h => h, fun ρ w vs h1 h2 => ⟨ρ, rfl, h1, ?_, Ext.refl _ _ _⟩⟩) ?_
    · rw [h00]
      exact ⟨h2.1, fun i x y hx hy => by
        match i with
        | 0 => cases hx; exact (h2.2 0 _ y rfl hy).snil_lst
        | 1 => cases hx; exact h2.2 1 _ y rfl hy
        | _ + 2 => cases hx⟩
    · rintro v H' c' ⟨rfl, rfl, rfl⟩ -
      simp only [go_sem, Nat.reduceAdd, Nat.reduceLeDiff, Nat.reduceEqDiff, Nat.reduceMul, Nat.reduceSub, ↓reduceIte, Int.reduceLT, Int.reduceLE, Int.reduceGT, Int.reduceGE, Nat.reduceLT, Nat.reduceGT, Int.reduceToNat, reduceCtorEq, Nat.reduceBEq, Int.reduceBEq, Int.reduceBNe, Int.reduceEq, Int.reduceNe, decide_true, decide_false]
      repeat' ((first | (with_reducible first | refine wr ?_ | refine i_ret ?_ | refine i_skip ?_ | refine i_exit ?_) | ((with_reducible first | refine k_cb ?_ ?_ | refine k_gb ?_ ?_ | refine k_gb' ?_ ?_) <;> (intro hb; try simp only [hb]))) <;> try simp only [go_sem, Nat.reduceAdd, Nat.reduceLeDiff, Nat.reduceEqDiff, Nat.reduceMul, Nat.reduceSub, ↓reduceIte, Int.reduceLT, Int.reduceLE, Int.reduceGT, Int.reduceGE, Nat.reduceLT, Nat.reduceGT, Int.reduceToNat, reduceCtorEq, Nat.reduceBEq, Int.reduceBEq, Int.reduceBNe, Int.reduceEq, Int.reduceNe, decide_true, decide_false])
      exact pc_ret rfl
  · repeat' ((first | (with_reducible first | refine wr ?_ | refine i_ret ?_ | refine i_skip ?_ | refine i_exit ?_) | ((with_reducible first | refine k_cb ?_ ?_ | refine k_gb ?_ ?_ | refine k_gb' ?_ ?_) <;> (intro hb; try simp only [hb]))) <;> try simp only [go_sem, Nat.reduceAdd, Nat.reduceLeDiff, Nat.reduceEqDiff, Nat.reduceMul, Nat.reduceSub, ↓reduceIte, Int.reduceLT, Int.reduceLE, Int.reduceGT, Int.reduceGE, Nat.reduceLT, Nat.reduceGT, Int.reduceToNat, reduceCtorEq, Nat.reduceBEq, Int.reduceBEq, Int.reduceBNe, Int.reduceEq, Int.reduceNe, decide_true, decide_false, hd])
    refine AC.call (hj.give (H0 := Sym.nil) (GL.one (id := id) h_same rfl (.cons _ _ _ _ (fz_slc (u := 1) (by rw [List.length_map, hkl]) (str_unit _) ⟨[], by simp⟩) (.cons _ _ _ _ (.same _) .nil)))) ?_
    rintro v H' c' ⟨rfl, rfl, rfl⟩ -
    simp only [go_sem, Nat.reduceAdd, Nat.reduceLeDiff, Nat.reduceEqDiff, Nat.reduceMul, Nat.reduceSub, ↓reduceIte, Int.reduceLT, Int.reduceLE, Int.reduceGT, Int.reduceGE, Nat.reduceLT, Nat.reduceGT, Int.reduceToNat, reduceCtorEq, Nat.reduceBEq, Int.reduceBEq, Int.reduceBNe, Int.reduceEq, Int.reduceNe, decide_true, decide_false]
    repeat' ((first | (with_reducible first | refine wr ?_ | refine i_ret ?_ | refine i_skip ?_ | refine i_exit ?_) | ((with_reducible first | refine k_cb ?_ ?_ | refine k_gb ?_ ?_ | refine k_gb' ?_ ?_) <;> (intro hb; try simp only [hb]))) <;> try simp only [go_sem, Nat.reduceAdd, Nat.reduceLeDiff, Nat.reduceEqDiff, Nat.reduceMul, Nat.reduceSub, ↓reduceIte, Int.reduceLT, Int.reduceLE, Int.reduceGT, Int.reduceGE, Nat.reduceLT, Nat.reduceGT, Int.reduceToNat, reduceCtorEq, Nat.reduceBEq, Int.reduceBEq, Int.reduceBNe, Int.reduceEq, Int.reduceNe, decide_true, decide_false])
    exact pc_ret rfl
end Go.Proofs.YtcallbfckjlagaaDoor
set_option maxHeartbeats 4000000
set_option maxRecDepth 100000
set_option linter.unusedSimpArgs false
set_option linter.unusedVariables false
namespace Go.Proofs.YtcallbfckjlagaaDoor
open Go.Eng (IC IOper DReg IFn IsFn Callable)
open Go.Sym Go.Pb Go.RowKit
noncomputable section
def u13_9r : List IOper := [⟨some 44, .pur (.mv (.t 3)), none⟩, ⟨some 45, .pur (.bin .eql (.t 44) (.k (.int .i64 0))), none⟩, ⟨some 46, .pur (.mv (.t 45)), none⟩, ⟨some 47, .pur (.mv (.t 2)), some (46, true)⟩, ⟨some 48, .new (.bsl 1 3 #[.int .i64 0] [(0, .k (.int .i64 0)), (1, .k (.int .i64 1)), (2, .k (.int .i64 0))]), some (46, true)⟩, ⟨some 49, .call 24 [.t 47, .t 48], some (46, true)⟩, ⟨some 50, .pur (.pick (.t 46) (.t 49) (.k (.bool false))), none⟩, ⟨some 51, .pur (.mv (.t 50)), none⟩, ⟨some 52, .pur (.ld 7 true (.t 4)), some (51, true)⟩, ⟨some 53, .call 14 [.t 52], some (51, true)⟩, ⟨some 54, .pur (.bin .eql (.t 53) (.k (.int .i64 53))), some (51, true)⟩, ⟨some 55, .pur (.pick (.t 51) (.t 54) (.k (.bool false))), none⟩, ⟨some 56, .pur (.mv (.t 55)), none⟩, ⟨some 57, .pur (.mv (.t 6)), some (56, true)⟩, ⟨some 58, .pur (.bin .eql (.t 57) (.k (.int .i64 0))), some (56, true)⟩, ⟨some 59, .pur (.pick (.t 56) (.t 58) (.k (.bool false))), none⟩, ⟨some 60, .pur (.mv (.t 59)), none⟩, ⟨some 61, .pur (.mv (.t 5)), some (60, true)⟩, ⟨some 62, .pur (.lens (.t 61)), some (60, true)⟩, ⟨some 63, .pur (.bin .eql (.t 62) (.k (.int .i64 18))), some (60, true)⟩, ⟨some 64, .pur (.pick (.t 60) (.t 63) (.k (.bool false))), none⟩, ⟨some 65, .pur (.mv (.t 64)), none⟩, ⟨some 66, .pur (.mv (.t 8)), some (65, true)⟩, ⟨some 67, .pur (.bin .eql (.t 66) (.k (.int .i64 0))), some (65, true)⟩, ⟨some 68, .pur (.pick (.t 65) (.t 67) (.k (.bool false))), none⟩, ⟨some 69, .pur (.mv (.t 68)), none⟩, ⟨some 70, .pur (.ld 7 true (.t 7)), some (69, true)⟩, ⟨some 71, .pur (.ld 7 true (.t 1)), some (69, true)⟩, ⟨some 72, .call 18 [.t 70, .t 71], some (69, true)⟩, ⟨some 73, .pur (.pick (.t 69) (.t 72) (.k (.bool false))), none⟩, ⟨some 74, .pur (.mv (.t 73)), none⟩, ⟨some 75, .pur (.mv (.t 9)), some (74, true)⟩, ⟨some 76, .pur (.bin .eql (.t 75) (.k (.int .i64 0))), some (74, true)⟩, ⟨some 77, .pur (.pick (.t 74) (.t 76) (.k (.bool false))), none⟩, ⟨some 78, .pur (.mv (.t 77)), none⟩, ⟨some 79, .pur (.mv (.t 10)), some (78, true)⟩, ⟨some 80, .pur (.pick (.t 78) (.t 79) (.k (.bool false))), none⟩, ⟨some 81, .pur (.mv (.t 80)), none⟩, ⟨some 82, .pur (.ld 7 true (.t 4)), some (81, true)⟩, ⟨some 83, .call 25 [.t 82], some (81, true)⟩, ⟨some 84, .pur (.bin .eql (.t 83) (.k (.string ⟨#[48, 32, 49, 53, 32, 48, 10, 49, 32, 51, 49, 32, 48, 10]⟩))), some (81, true)⟩, ⟨some 85, .pur (.pick (.t 81) (.t 84) (.k (.bool false))), none⟩, ⟨some 0, .pur (.mv (.t 85)), none⟩]
def u13_9 : IC := .seq (.reg u13_9r) .ret
def u13_8r : List IOper := [⟨some 40, .pur (.ld 7 true (.t 1)), none⟩, ⟨some 41, .call 29 [.t 40, .k (.int .i64 0), .k (.int .i64 1), .k (.int .i64 0)], none⟩, ⟨some 39, .pur (.mv (.t 41)), none⟩, ⟨some 42, .pur (.ext (.t 39) 0), none⟩, ⟨some 43, .pur (.ext (.t 39) 1), none⟩, ⟨some 9, .pur (.mv (.t 42)), none⟩, ⟨some 10, .pur (.mv (.t 43)), none⟩]
def u13_8 : IC := .seq (.reg u13_8r) u13_9
def u13_7r : List IOper := [⟨some 35, .pur (.mv (.t 5)), none⟩, ⟨some 36, .call 16 [.t 35], none⟩, ⟨some 34, .pur (.mv (.t 36)), none⟩, ⟨some 37, .pur (.ext (.t 34) 0), none⟩, ⟨some 38, .pur (.ext (.t 34) 1), none⟩, ⟨some 7, .new (.box (.k (.agg #[.slice none 0 0, .slice none 0 0, .slice none 0 0, .slice none 0 0, .slice none 0 0, .int .i64 0, .int .i64 0]))), none⟩, ⟨none, .eff (.st 7 (.t 7) (.t 37)), none⟩, ⟨some 8, .pur (.mv (.t 38)), none⟩]
def u13_7 : IC := .seq (.reg u13_7r) u13_8
def u13_6r : List IOper := [⟨some 30, .pur (.ld 7 true (.t 1)), none⟩, ⟨some 31, .call 19 [.t 30], none⟩, ⟨some 29, .pur (.mv (.t 31)), none⟩, ⟨some 32, .pur (.ext (.t 29) 0), none⟩, ⟨some 33, .pur (.ext (.t 29) 1), none⟩, ⟨some 5, .pur (.mv (.t 32)), none⟩, ⟨some 6, .pur (.mv (.t 33)), none⟩]
def u13_6 : IC := .seq (.reg u13_6r) u13_7
def u13_5r : List IOper := [⟨some 25, .pur (.fad 0 (.t 1)), none⟩, ⟨some 26, .pur (.ld 1 false (.t 25)), none⟩, ⟨some 27, .pur (.slc 2 (.t 26) (some (.k (.int .i64 1))) none), none⟩, ⟨some 28, .pur (.fad 0 (.t 4)), none⟩, ⟨none, .eff (.st 1 (.t 28) (.t 27)), none⟩]
def u13_5 : IC := .seq (.reg u13_5r) u13_6
def u13_4r : List IOper := [⟨some 24, .pur (.ld 7 true (.t 1)), none⟩, ⟨some 4, .new (.box (.k (.agg #[.slice none 0 0, .slice none 0 0, .slice none 0 0, .slice none 0 0, .slice none 0 0, .int .i64 0, .int .i64 0]))), none⟩, ⟨none, .eff (.st 7 (.t 4) (.t 24)), none⟩]
def u13_4 : IC := .seq (.reg u13_4r) u13_5
def u13_3r : List IOper := [⟨some 20, .pur (.ld 7 true (.t 1)), none⟩, ⟨some 21, .call 20 [.t 20], none⟩, ⟨some 19, .pur (.mv (.t 21)), none⟩, ⟨some 22, .pur (.ext (.t 19) 0), none⟩, ⟨some 23, .pur (.ext (.t 19) 1), none⟩, ⟨some 2, .pur (.mv (.t 22)), none⟩, ⟨some 3, .pur (.mv (.t 23)), none⟩]
def u13_3 : IC := .seq (.reg u13_3r) u13_4
def u13_2r : List IOper := [⟨some 11, .pur (.bld #[.int .i64 0, .int .i64 0] [(0, 1), (1, 1)] [(0, .k (.int .i64 1)), (1, .k (.int .i64 5))]), none⟩, ⟨some 12, .pur (.bld #[.int .i64 0, .int .i64 0] [(0, 1), (1, 1)] [(0, .k (.int .i64 15))]), none⟩, ⟨some 13, .pur (.bld #[.int .i64 0, .int .i64 0] [(0, 1), (1, 1)] [(0, .k (.int .i64 31))]), none⟩, ⟨some 14, .new (.bsl 2 3 #[.int .i64 0, .int .i64 0] [(0, .t 11), (1, .t 12), (2, .t 13)]), none⟩, ⟨some 15, .pur (.bld #[.int .i64 0, .int .i64 0, .int .i64 0, .int .i64 0] [(0, 1), (1, 1), (2, 1), (3, 1)] [(1, .k (.int .i64 1))]), none⟩, ⟨some 16, .new (.bsl 4 1 #[.int .i64 0, .int .i64 0, .int .i64 0, .int .i64 0] [(0, .t 15)]), none⟩, ⟨some 17, .new (.bsl 1 1 #[.int .i64 0] [(0, .k (.int .i64 1))]), none⟩, ⟨some 18, .pur (.bld #[.slice none 0 0, .slice none 0 0, .slice none 0 0, .slice none 0 0, .slice none 0 0, .int .i64 0, .int .i64 0] [(0, 1), (1, 1), (2, 1), (3, 1), (4, 1), (5, 1), (6, 1)] [(0, .t 14), (2, .t 16), (3, .t 17)]), none⟩, ⟨some 1, .new (.box (.k (.agg #[.slice none 0 0, .slice none 0 0, .slice none 0 0, .slice none 0 0, .slice none 0 0, .int .i64 0, .int .i64 0]))), none⟩, ⟨none, .eff (.st 7 (.t 1) (.t 18)), none⟩]
def u13_2 : IC := .seq (.reg u13_2r) u13_3
def u13_1r : List IOper := [⟨some 0, .pur (.mv (.k (.bool false))), none⟩]
def u13_1 : IC := .seq (.reg u13_1r) u13_2
def u13 : IFn := ⟨86, u13_1, [.tmp 0]⟩
end
theorem isU13 : IsFn Tryd.prog 13 u13 := by unfold IsFn; kernel_rfl
instance i13_9 : WR Tryd.prog 86 u13_9 (rS u13_9r .ret [1, 2, 3, 4, 5, 6, 7, 8, 9, 10]) := ⟨mkS⟩
instance i13_8 : WR Tryd.prog 86 u13_8 (rS u13_8r u13_9 [1, 2, 3, 4, 5, 6, 7, 8]) := ⟨mkS⟩
instance i13_7 : WR Tryd.prog 86 u13_7 (rS u13_7r u13_8 [1, 2, 3, 4, 5, 6]) := ⟨mkS⟩
instance i13_6 : WR Tryd.prog 86 u13_6 (rS u13_6r u13_7 [1, 2, 3, 4]) := ⟨mkS⟩
instance i13_5 : WR Tryd.prog 86 u13_5 (rS u13_5r u13_6 [1, 2, 3, 4]) := ⟨mkS⟩
instance i13_4 : WR Tryd.prog 86 u13_4 (rS u13_4r u13_5 [1, 2, 3]) := ⟨mkS⟩
instance i13_3 : WR Tryd.prog 86 u13_3 (rS u13_3r u13_4 [1]) := ⟨mkS⟩
instance i13_2 : WR Tryd.prog 86 u13_2 (rS u13_2r u13_3 []) := ⟨mkS⟩
instance i13_1 : WR Tryd.prog 86 u13_1 (rS u13_1r u13_2 []) := ⟨mkS⟩
attribute [go_sem] u13_9r u13_8r u13_7r u13_6r u13_5r u13_4r u13_3r u13_2r u13_1r
def sn1 : Prg := ⟨[⟨1, 5⟩, ⟨15, 0⟩, ⟨31, 0⟩], [], [⟨0, 1, 0, 0⟩], [1], [], 0, 0⟩
def sn2 : Prg := ⟨[⟨15, 0⟩, ⟨31, 0⟩], [], [⟨0, 1, 0, 0⟩], [1], [], 0, 0⟩
theorem sn1_valid : validM sn1 = 0 := by decide +kernel
theorem sn2_valid : validM sn2 = 53 := by decide +kernel
theorem sn1_hts : vHts sn1 = [0, 1, 0] := by decide +kernel
theorem numI_lt {n : Int} (h : zig n < 128) : numI n = [UInt8.ofNat (zig n)] := numB_lt h
theorem sn1_enc : encV sn1 = [6, 2, 10, 30, 0, 62, 0, 0, 2, 0, 2, 0, 0, 2, 2, 0, 0, 0] := by
  rw [encV, if_pos sn1_valid]
  simp [encM, sn1, insB, entB, numsB, numI_lt, zig]
theorem sn1_dec : decP [6, 2, 10, 30, 0, 62, 0, 0, 2, 0, 2, 0, 0, 2, 2, 0, 0, 0] = some sn1 := by
  have e : rdPrg ([6, 2, 10, 30, 0, 62, 0, 0, 2, 0, 2, 0, 0, 2, 2, 0, 0, 0], false) = (sn1, ([], false)) := by decide +kernel
  rw [decP, e]
  simp [sn1_valid, sn1_enc]
theorem sn2_list : lstF sn2.instrs 0 = [48, 32, 49, 53, 32, 48, 10, 49, 32, 51, 49, 32, 48, 10] := by
  have d0 : decI 0 = [48] := by rw [decI, if_neg (by omega), decB_lt (by decide)]; rfl
  have d1 : decI 1 = [49] := by rw [decI, if_neg (by omega), decB_lt (by decide)]; rfl
  have d15 : decI 15 = [49, 53] := by rw [decI, if_neg (by omega), decB_ge (by decide), decB_lt (by decide)]; rfl
  have d31 : decI 31 = [51, 49] := by rw [decI, if_neg (by omega), decB_ge (by decide), decB_lt (by decide)]; rfl
  simp [lstF, sn2, lineB, d0, d1, d15, d31]
theorem c_sane : PC Tryd.prog 13 [] (.bool true) := by
  refine PC.of mixedU isU13 (Nat.le_of_ble_eq_true rfl) (by simp [DV.nlL, DV.nl, nlL_ints, nlL_strs, nlL_instrs, nlL_entries, nlL_stp]) (by simp [DV.nlL, DV.nl, nlL_ints, nlL_strs, nlL_instrs, nlL_entries, nlL_stp]) ?_
  show IW Tryd.prog 86 u13_1 ⟨argT _, _, _⟩ (rt [.tmp 0] _)
  repeat' ((first | (with_reducible first | refine wr ?_ | refine i_ret ?_ | refine i_skip ?_ | refine i_exit ?_) | ((with_reducible first | refine k_cb ?_ ?_ | refine k_gb ?_ ?_ | refine k_gb' ?_ ?_) <;> (intro hb; try simp only [hb]))) <;> try simp only [go_sem, Nat.reduceAdd, Nat.reduceLeDiff, Nat.reduceEqDiff, Nat.reduceMul, Nat.reduceSub, ↓reduceIte, Int.reduceLT, Int.reduceLE, Int.reduceGT, Int.reduceGE, Nat.reduceLT, Nat.reduceGT, Int.reduceToNat, reduceCtorEq, Nat.reduceBEq, Int.reduceBEq, Int.reduceBNe, Int.reduceEq, Int.reduceNe, decide_true, decide_false])
  refine AC.ghost ((g_one (a := 0) (k := 3) (u := 2) (u' := 2) (pre := []) (suf := [.snil, .slc 1 0 1, .slc 2 0 1, .snil, I64 0, I64 0]) (xs := sn1.instrs.map Ins.v) (junk := []) rfl rfl (by simp [DV.one]) rfl (ins_unit _) (by decide)).trans
    ((g_one (a := 1) (k := 3) (u := 4) (u' := 4) (pre := [inssV sn1.instrs, .snil]) (suf := [.slc 2 0 1, .snil, I64 0, I64 0]) (xs := sn1.entries.map Ent.v) (junk := []) rfl rfl (by simp [DV.one]) rfl (ent_unit _) (by decide)).trans
    ((g_one (a := 2) (k := 3) (u := 1) (u' := 1) (pre := [inssV sn1.instrs, .snil, entsV sn1.entries]) (suf := [.snil, I64 0, I64 0]) (xs := sn1.prios.map I64) (junk := []) rfl rfl (by simp [DV.one]) rfl (ints_unit _) (by decide)).trans
    ((g_nil (k := 3) (pre := [inssV sn1.instrs]) (suf := [entsV sn1.entries, ints sn1.prios, .snil, I64 0, I64 0]) rfl).trans
    ((g_nil (k := 3) (pre := [inssV sn1.instrs, strs [], entsV sn1.entries, ints sn1.prios]) (suf := [I64 0, I64 0]) rfl).trans
    (GL.less (H0 := Sym.nil.upd 3 ⟨0, true, [inssV sn1.instrs, strs [], entsV sn1.entries, ints sn1.prios, ints [], I64 0, I64 0]⟩) fun j => ?_)))))) ?_
  · by_cases ej : j = 3
    · subst ej; exact .inr rfl
    · left; rw [h_ne ej]; rfl
  have h18 : (((18 : Nat) : Int) == 18) = true := rfl
  have hsl : ∀ H, slcR H 2 (inssV sn1.instrs) (some (I64 1)) none = some (inssV sn2.instrs) := fun H => rfl
  refine AC.call ((c_Heights sn1 (by simp [sn1]) (by simp [sn1])).at _ _) ?_
  rintro _ _ _ ⟨rfl, rfl, rfl⟩ -
  rw [sn1_valid, sn1_hts]
  simp only [go_sem, Nat.reduceAdd, Nat.reduceLeDiff, Nat.reduceEqDiff, Nat.reduceMul, Nat.reduceSub, ↓reduceIte, Int.reduceLT, Int.reduceLE, Int.reduceGT, Int.reduceGE, Nat.reduceLT, Nat.reduceGT, Int.reduceToNat, reduceCtorEq, Nat.reduceBEq, Int.reduceBEq, Int.reduceBNe, Int.reduceEq, Int.reduceNe, decide_true, decide_false, h18]
  repeat' ((first | (with_reducible first | refine wr ?_ | refine i_ret ?_ | refine i_skip ?_ | refine i_exit ?_) | ((with_reducible first | refine k_cb ?_ ?_ | refine k_gb ?_ ?_ | refine k_gb' ?_ ?_) <;> (intro hb; try simp only [hb]))) <;> try simp only [go_sem, Nat.reduceAdd, Nat.reduceLeDiff, Nat.reduceEqDiff, Nat.reduceMul, Nat.reduceSub, ↓reduceIte, Int.reduceLT, Int.reduceLE, Int.reduceGT, Int.reduceGE, Nat.reduceLT, Nat.reduceGT, Int.reduceToNat, reduceCtorEq, Nat.reduceBEq, Int.reduceBEq, Int.reduceBNe, Int.reduceEq, Int.reduceNe, decide_true, decide_false, hsl, h18])
  refine AC.call ((c_Encode sn1 (by simp [sn1]) (by simp [sn1])).at _ _) ?_
  rintro _ _ _ ⟨rfl, rfl, rfl⟩ -
  rw [sn1_valid, sn1_enc]
  simp only [go_sem, Nat.reduceAdd, Nat.reduceLeDiff, Nat.reduceEqDiff, Nat.reduceMul, Nat.reduceSub, ↓reduceIte, Int.reduceLT, Int.reduceLE, Int.reduceGT, Int.reduceGE, Nat.reduceLT, Nat.reduceGT, Int.reduceToNat, reduceCtorEq, Nat.reduceBEq, Int.reduceBEq, Int.reduceBNe, Int.reduceEq, Int.reduceNe, decide_true, decide_false, h18]
  repeat' ((first | (with_reducible first | refine wr ?_ | refine i_ret ?_ | refine i_skip ?_ | refine i_exit ?_) | ((with_reducible first | refine k_cb ?_ ?_ | refine k_gb ?_ ?_ | refine k_gb' ?_ ?_) <;> (intro hb; try simp only [hb]))) <;> try simp only [go_sem, Nat.reduceAdd, Nat.reduceLeDiff, Nat.reduceEqDiff, Nat.reduceMul, Nat.reduceSub, ↓reduceIte, Int.reduceLT, Int.reduceLE, Int.reduceGT, Int.reduceGE, Nat.reduceLT, Nat.reduceGT, Int.reduceToNat, reduceCtorEq, Nat.reduceBEq, Int.reduceBEq, Int.reduceBNe, Int.reduceEq, Int.reduceNe, decide_true, decide_false, hsl, h18])
  refine AC.call ((c_Decode _ (by simp)).at _ _) ?_
  rintro _ _ _ ⟨rfl, rfl, rfl⟩ -
  have hdv : decV (some sn1) = .tup [.agg [inssV sn1.instrs, strs [], entsV sn1.entries, ints sn1.prios, ints [], I64 0, I64 0], I64 0] := rfl
  rw [sn1_dec, hdv]
  simp only [go_sem, Nat.reduceAdd, Nat.reduceLeDiff, Nat.reduceEqDiff, Nat.reduceMul, Nat.reduceSub, ↓reduceIte, Int.reduceLT, Int.reduceLE, Int.reduceGT, Int.reduceGE, Nat.reduceLT, Nat.reduceGT, Int.reduceToNat, reduceCtorEq, Nat.reduceBEq, Int.reduceBEq, Int.reduceBNe, Int.reduceEq, Int.reduceNe, decide_true, decide_false, h18]
  repeat' ((first | (with_reducible first | refine wr ?_ | refine i_ret ?_ | refine i_skip ?_ | refine i_exit ?_) | ((with_reducible first | refine k_cb ?_ ?_ | refine k_gb ?_ ?_ | refine k_gb' ?_ ?_) <;> (intro hb; try simp only [hb]))) <;> try simp only [go_sem, Nat.reduceAdd, Nat.reduceLeDiff, Nat.reduceEqDiff, Nat.reduceMul, Nat.reduceSub, ↓reduceIte, Int.reduceLT, Int.reduceLE, Int.reduceGT, Int.reduceGE, Nat.reduceLT, Nat.reduceGT, Int.reduceToNat, reduceCtorEq, Nat.reduceBEq, Int.reduceBEq, Int.reduceBNe, Int.reduceEq, Int.reduceNe, decide_true, decide_false, hsl, h18])
  refine AC.call ((c_Find sn1 (by simp [sn1]) 0 1 0).at _ _) ?_
  rintro _ _ _ ⟨rfl, rfl, rfl⟩ -
  have hfd : findV (findM 0 1 0 sn1.entries) = .tup [I64 0, .bool true] := rfl
  rw [hfd]
  simp only [go_sem, Nat.reduceAdd, Nat.reduceLeDiff, Nat.reduceEqDiff, Nat.reduceMul, Nat.reduceSub, ↓reduceIte, Int.reduceLT, Int.reduceLE, Int.reduceGT, Int.reduceGE, Nat.reduceLT, Nat.reduceGT, Int.reduceToNat, reduceCtorEq, Nat.reduceBEq, Int.reduceBEq, Int.reduceBNe, Int.reduceEq, Int.reduceNe, decide_true, decide_false, h18]
  repeat' ((first | (with_reducible first | refine wr ?_ | refine i_ret ?_ | refine i_skip ?_ | refine i_exit ?_) | ((with_reducible first | refine k_cb ?_ ?_ | refine k_gb ?_ ?_ | refine k_gb' ?_ ?_) <;> (intro hb; try simp only [hb]))) <;> try simp only [go_sem, Nat.reduceAdd, Nat.reduceLeDiff, Nat.reduceEqDiff, Nat.reduceMul, Nat.reduceSub, ↓reduceIte, Int.reduceLT, Int.reduceLE, Int.reduceGT, Int.reduceGE, Nat.reduceLT, Nat.reduceGT, Int.reduceToNat, reduceCtorEq, Nat.reduceBEq, Int.reduceBEq, Int.reduceBNe, Int.reduceEq, Int.reduceNe, decide_true, decide_false, hsl, h18])
  refine AC.call ((c_SameInts [0, 1, 0] [0, 1, 0] (by simp)).lend (H0 := Sym.nil) rfl (GL.one (id := 6) h_same rfl (.cons _ _ _ _ (.same _) (.cons _ _ _ _ (fz_slc (u := 1) rfl (ints_unit [0, 1, 0]) ⟨[], rfl⟩) .nil)))) ?_
  rintro _ _ _ ⟨rfl, rfl, rfl⟩ -
  simp only [go_sem, Nat.reduceAdd, Nat.reduceLeDiff, Nat.reduceEqDiff, Nat.reduceMul, Nat.reduceSub, ↓reduceIte, Int.reduceLT, Int.reduceLE, Int.reduceGT, Int.reduceGE, Nat.reduceLT, Nat.reduceGT, Int.reduceToNat, reduceCtorEq, Nat.reduceBEq, Int.reduceBEq, Int.reduceBNe, Int.reduceEq, Int.reduceNe, decide_true, decide_false, h18]
  repeat' ((first | (with_reducible first | refine wr ?_ | refine i_ret ?_ | refine i_skip ?_ | refine i_exit ?_) | ((with_reducible first | refine k_cb ?_ ?_ | refine k_gb ?_ ?_ | refine k_gb' ?_ ?_) <;> (intro hb; try simp only [hb]))) <;> try simp only [go_sem, Nat.reduceAdd, Nat.reduceLeDiff, Nat.reduceEqDiff, Nat.reduceMul, Nat.reduceSub, ↓reduceIte, Int.reduceLT, Int.reduceLE, Int.reduceGT, Int.reduceGE, Nat.reduceLT, Nat.reduceGT, Int.reduceToNat, reduceCtorEq, Nat.reduceBEq, Int.reduceBEq, Int.reduceBNe, Int.reduceEq, Int.reduceNe, decide_true, decide_false, hsl, h18])
  refine AC.call ((c_valid sn2 (by simp [sn2]) (by simp [sn2])).at _ _) ?_
  rintro _ _ _ ⟨rfl, rfl, rfl⟩ -
  rw [sn2_valid]
  simp only [go_sem, Nat.reduceAdd, Nat.reduceLeDiff, Nat.reduceEqDiff, Nat.reduceMul, Nat.reduceSub, ↓reduceIte, Int.reduceLT, Int.reduceLE, Int.reduceGT, Int.reduceGE, Nat.reduceLT, Nat.reduceGT, Int.reduceToNat, reduceCtorEq, Nat.reduceBEq, Int.reduceBEq, Int.reduceBNe, Int.reduceEq, Int.reduceNe, decide_true, decide_false, h18]
  repeat' ((first | (with_reducible first | refine wr ?_ | refine i_ret ?_ | refine i_skip ?_ | refine i_exit ?_) | ((with_reducible first | refine k_cb ?_ ?_ | refine k_gb ?_ ?_ | refine k_gb' ?_ ?_) <;> (intro hb; try simp only [hb]))) <;> try simp only [go_sem, Nat.reduceAdd, Nat.reduceLeDiff, Nat.reduceEqDiff, Nat.reduceMul, Nat.reduceSub, ↓reduceIte, Int.reduceLT, Int.reduceLE, Int.reduceGT, Int.reduceGE, Nat.reduceLT, Nat.reduceGT, Int.reduceToNat, reduceCtorEq, Nat.reduceBEq, Int.reduceBEq, Int.reduceBNe, Int.reduceEq, Int.reduceNe, decide_true, decide_false, hsl, h18])
  refine AC.call ((c_SameR sn1 sn1 (by simp [sn1]) (by simp [sn1]) (by simp [sn1]) (by simp [sn1]) (by simp [sn1])).at _ _) ?_
  rintro _ _ _ ⟨rfl, rfl, rfl⟩ -
  simp only [go_sem, Nat.reduceAdd, Nat.reduceLeDiff, Nat.reduceEqDiff, Nat.reduceMul, Nat.reduceSub, ↓reduceIte, Int.reduceLT, Int.reduceLE, Int.reduceGT, Int.reduceGE, Nat.reduceLT, Nat.reduceGT, Int.reduceToNat, reduceCtorEq, Nat.reduceBEq, Int.reduceBEq, Int.reduceBNe, Int.reduceEq, Int.reduceNe, decide_true, decide_false, h18]
  repeat' ((first | (with_reducible first | refine wr ?_ | refine i_ret ?_ | refine i_skip ?_ | refine i_exit ?_) | ((with_reducible first | refine k_cb ?_ ?_ | refine k_gb ?_ ?_ | refine k_gb' ?_ ?_) <;> (intro hb; try simp only [hb]))) <;> try simp only [go_sem, Nat.reduceAdd, Nat.reduceLeDiff, Nat.reduceEqDiff, Nat.reduceMul, Nat.reduceSub, ↓reduceIte, Int.reduceLT, Int.reduceLE, Int.reduceGT, Int.reduceGE, Nat.reduceLT, Nat.reduceGT, Int.reduceToNat, reduceCtorEq, Nat.reduceBEq, Int.reduceBEq, Int.reduceBNe, Int.reduceEq, Int.reduceNe, decide_true, decide_false, hsl, h18])
  refine AC.call ((c_ListingS sn2 (by simp [sn2]) (by simp [sn2])).at _ _) ?_
  rintro _ _ _ ⟨rfl, rfl, rfl⟩ -
  rw [sn2_list]
  simp only [go_sem, Nat.reduceAdd, Nat.reduceLeDiff, Nat.reduceEqDiff, Nat.reduceMul, Nat.reduceSub, ↓reduceIte, Int.reduceLT, Int.reduceLE, Int.reduceGT, Int.reduceGE, Nat.reduceLT, Nat.reduceGT, Int.reduceToNat, reduceCtorEq, Nat.reduceBEq, Int.reduceBEq, Int.reduceBNe, Int.reduceEq, Int.reduceNe, decide_true, decide_false, h18]
  repeat' ((first | (with_reducible first | refine wr ?_ | refine i_ret ?_ | refine i_skip ?_ | refine i_exit ?_) | ((with_reducible first | refine k_cb ?_ ?_ | refine k_gb ?_ ?_ | refine k_gb' ?_ ?_) <;> (intro hb; try simp only [hb]))) <;> try simp only [go_sem, Nat.reduceAdd, Nat.reduceLeDiff, Nat.reduceEqDiff, Nat.reduceMul, Nat.reduceSub, ↓reduceIte, Int.reduceLT, Int.reduceLE, Int.reduceGT, Int.reduceGE, Nat.reduceLT, Nat.reduceGT, Int.reduceToNat, reduceCtorEq, Nat.reduceBEq, Int.reduceBEq, Int.reduceBNe, Int.reduceEq, Int.reduceNe, decide_true, decide_false, hsl, h18])
  exact pc_ret rfl
end Go.Proofs.YtcallbfckjlagaaDoor
set_option linter.unusedVariables false
set_option linter.unusedSimpArgs false
namespace Go.Pb
open Go.Sym
abbrev Sn (n : Int) : Prop := -18014398509481984 ≤ n ∧ n ≤ 18014398509481983
structure Bndn (c : Prg) : Prop where
  ins : ∀ i ∈ c.instrs, Sn i.op ∧ Sn i.A
  ent : ∀ e ∈ c.entries, Sn e.mode ∧ Sn e.trigger ∧ Sn e.index ∧ Sn e.pos
  pri : ∀ n ∈ c.prios, Sn n
  var : ∀ n ∈ c.vars, Sn n
  tim : Sn c.timers
  evt : Sn c.events
  str : ∀ s ∈ c.strings, s.length ≤ 32
theorem sn_in {n lo hi : Int} (h : inM n lo hi = true) (h1 : -18014398509481984 ≤ lo) (h2 : hi ≤ 18014398509481983) : Sn n := by
  simp only [inM, Bool.and_eq_true, decide_eq_true_eq] at h
  exact ⟨by omega, by omega⟩
theorem kind_sn {c : Prg} (hL : limitsM c = true) {k a : Int} (hJ : k ≠ 7) (h : kindM c k a = true) : Sn a := by
  obtain ⟨d1, d2, d3, d4, d5, d6, d7, d8, d9⟩ := Lim.dims hL
  by_cases e0 : k = 0
  · subst e0
    have h' : decide (a = 0) = true := h
    simp only [decide_eq_true_eq] at h'; exact ⟨by omega, by omega⟩
  by_cases e1 : k = 1
  · subst e1; exact sn_in (lo := (-2147483647)) (hi := 2147483647) h (by omega) (by omega)
  by_cases e2 : k = 2
  · subst e2; exact sn_in (lo := 0) (hi := (c.vars.length - 1)) h (by omega) (by omega)
  by_cases e3 : k = 3
  · subst e3; exact sn_in (lo := 0) (hi := 63) h (by omega) (by omega)
  by_cases e9 : k = 9
  · subst e9; exact sn_in (lo := 0) (hi := 63) h (by omega) (by omega)
  by_cases e4 : k = 4
  · subst e4; exact sn_in (lo := 0) (hi := (c.prios.length - 1)) h (by omega) (by omega)
  by_cases e5 : k = 5
  · subst e5; exact sn_in (lo := 0) (hi := (c.timers - 1)) h (by omega) (by omega)
  by_cases e6 : k = 6
  · subst e6; exact sn_in (lo := 12) (hi := 24) h (by omega) (by omega)
  by_cases e8 : k = 8
  · subst e8; exact sn_in (lo := 0) (hi := 31) h (by omega) (by omega)
  by_cases e10 : k = 10
  · subst e10; exact sn_in (lo := 0) (hi := (c.events - 1)) h (by omega) (by omega)
  by_cases e11 : k = 11
  · subst e11; exact sn_in (lo := 0) (hi := (c.strings.length - 1)) h (by omega) (by omega)
  have : kindM c k a = false := by
    unfold kindM
    rw [if_neg e0, if_neg e1, if_neg e2, if_neg e3, if_neg e9, if_neg e4, if_neg e5, if_neg e6, if_neg hJ, if_neg e8, if_neg e10, if_neg e11]
  rw [this] at h; cases h
theorem Bndn.of {c : Prg} (hL : limitsM c = true) (hp : partsM c = true) (hj : jumpsM c = true) : Bndn c := by
  obtain ⟨d1, d2, d3, d4, d5, d6, d7, d8, d9⟩ := Lim.dims hL
  simp only [partsM, Bool.and_eq_true, List.all_eq_true] at hp
  obtain ⟨⟨⟨⟨p1, p2⟩, p3⟩, p4⟩, p5⟩ := hp
  refine ⟨fun i hi => ?_, fun e he => ?_, fun n hn => sn_in (p2 n hn) (by omega) (by omega), fun n hn => sn_in (p3 n hn) (by omega) (by omega), ⟨by omega, by omega⟩, ⟨by omega, by omega⟩, fun s hs => ?_⟩
  · have h := p5 i hi
    have h7 := jump_bd hj i hi
    have hk : (effM i.op).2.2 ≠ -1 := by
      intro e; rw [numberM, e] at h; simp [kindM] at h
    obtain ⟨o1, o2⟩ := op_bd hk
    refine ⟨⟨by omega, by omega⟩, ?_⟩
    by_cases hJ : (effM i.op).2.2 = 7
    · have hop : i.op = 12 ∨ i.op = 13 ∨ i.op = 14 := by
        have := isJ_kind i.op
        rw [hJ] at this
        simpa [isJ] using this
      have := h7 hop
      exact ⟨by omega, by omega⟩
    · exact kind_sn hL hJ h
  · have h := p4 e he
    have h7 := ent_bd hj e he
    simp only [entryM, Bool.and_eq_true] at h
    obtain ⟨h1, h2⟩ := h
    refine ⟨sn_in h1 (by omega) (by omega), ?_, ?_, ⟨by omega, by omega⟩⟩
    · repeat' split at h2
      all_goals first
        | cases h2; done
        | exact ⟨by omega, by omega⟩
    · repeat' split at h2
      all_goals first
        | exact sn_in h2 (by omega) (by omega)
        | (simp only [decide_eq_true_eq] at h2; exact ⟨by omega, by omega⟩)
        | cases h2
  · have h := p1 s hs
    simp only [printM, Bool.and_eq_true, decide_eq_true_eq] at h
    exact h.2
theorem Bndn.valid {c : Prg} (h0 : validM c = 0) : Bndn c :=
  let ⟨a, b, d, _⟩ := valid_all h0
  Bndn.of a b d
theorem varL_numB : ∀ (n k z acc : Nat) (r : List UInt8), z < 128 ^ n → n ≠ 0 → varL n k acc (numB z ++ r) = some (acc + z * 2 ^ (7 * k), r)
  | 0, _, _, _, _, _, h => absurd rfl h
  | n + 1, k, z, acc, r, hz, _ => by
    by_cases h : z < 128
    · rw [numB_lt h]
      have e : (UInt8.ofNat z).toNat = z := by rw [UInt8.toNat_ofNat']; omega
      simp only [List.cons_append, List.nil_append, varL, e, h, if_true]
      rw [Nat.mod_eq_of_lt h]
    · rw [numB_ge h]
      have e : (UInt8.ofNat (z % 128 + 128)).toNat = z % 128 + 128 := by rw [UInt8.toNat_ofNat']; omega
      have h1 : ¬ z % 128 + 128 < 128 := by omega
      have h2 : (z % 128 + 128) % 128 = z % 128 := by omega
      have hn : n ≠ 0 := by
        intro e0; subst e0; simp at hz; omega
      simp only [List.cons_append, varL, e, h1, if_false, h2]
      rw [varL_numB n (k + 1) (z / 128) _ r (by rw [Nat.pow_succ] at hz; omega) hn, pow7]
      congr 2
      have := Nat.div_add_mod z 128
      calc acc + z % 128 * 2 ^ (7 * k) + z / 128 * (128 * 2 ^ (7 * k)) = acc + (128 * (z / 128) + z % 128) * 2 ^ (7 * k) := by
            rw [Nat.add_mul, Nat.mul_comm 128 (z / 128), Nat.mul_assoc]; omega
        _ = _ := by rw [this]
theorem unzig_zig (n : Int) : unzig (zig n) = n := by
  unfold unzig zig
  split <;> split <;> omega
theorem rd_num {n : Int} (h : Sn n) (r : List UInt8) (b : Bool) : rdNum (numI n ++ r, b) = (n, (r, b)) := by
  have hz : zig n < 128 ^ 8 := by
    have e : (128 : Nat) ^ 8 = 72057594037927936 := by decide
    rw [e]; unfold zig
    obtain ⟨h1, h2⟩ := h
    split <;> omega
  unfold rdNum
  simp only [numI]
  rw [varL_numB 8 0 (zig n) 0 r hz (by omega)]
  simp only [Nat.zero_add, Nat.mul_zero, Nat.pow_zero, Nat.mul_one, unzig_zig]
theorem rd_cnt {n : Nat} (h : n ≤ 1000000) {r : List UInt8} (hr : n ≤ r.length) (b : Bool) : rdCnt (numI n ++ r, b) = (n, (r, b)) := by
  unfold rdCnt
  rw [rd_num (n := (n : Int)) ⟨by omega, by omega⟩]
  rw [if_neg (by simp only; omega)]
  simp
theorem rd_many {α : Type} {f : RS → α × RS} {g : α → List UInt8} : ∀ (l : List α) (r : List UInt8) (b : Bool), (∀ x ∈ l, ∀ r, f (g x ++ r, b) = (x, (r, b))) → rdMany f l.length (l.flatMap g ++ r, b) = (l, (r, b)) := by
  intro l
  -- from the front: what was read so far
  have key : ∀ (l2 l1 : List α) (s : RS) (r : List UInt8) (b : Bool), (∀ x ∈ l2, ∀ r, f (g x ++ r, b) = (x, (r, b))) → rdMany f l1.length s = (l1, (l2.flatMap g ++ r, b)) → rdMany f (l1.length + l2.length) s = (l1 ++ l2, (r, b)) := by
    intro l2
    induction l2 with
    | nil => intro l1 s r b _ h; simpa using h
    | cons x l2 ih =>
      intro l1 s r b hf h
      have h2 := ih (l1 ++ [x]) s r b (fun y hy => hf y (List.mem_cons_of_mem _ hy)) (by
        rw [List.length_append, List.length_singleton]
        simp only [rdMany]
        rw [h, List.flatMap_cons, List.append_assoc, hf x List.mem_cons_self])
      rw [List.length_append, List.length_singleton, List.append_assoc] at h2
      rw [List.length_cons, show l1.length + (l2.length + 1) = l1.length + 1 + l2.length by omega]
      exact h2
  intro r b hf
  have := key l [] (l.flatMap g ++ r, b) r b hf rfl
  simpa using this
theorem flat_ge {α : Type} {g : α → List UInt8} : ∀ (l : List α), (∀ x ∈ l, g x ≠ []) → l.length ≤ (l.flatMap g).length
  | [], _ => by simp
  | x :: l, h => by
    have h1 := flat_ge l (fun y hy => h y (List.mem_cons_of_mem _ hy))
    have h2 : (g x).length ≠ 0 := fun e => h x List.mem_cons_self (List.length_eq_zero_iff.1 e)
    rw [List.flatMap_cons, List.length_append, List.length_cons]; omega
theorem rd_nums {l : List Int} (h : ∀ n ∈ l, Sn n) (hl : l.length ≤ 1000000) (r : List UInt8) (b : Bool) : rdNums (numsB l ++ r, b) = (l, (r, b)) := by
  have h1 := flat_ge (g := numI) l (fun x _ => numI_ne x)
  unfold rdNums numsB
  rw [List.append_assoc, rd_cnt hl (by rw [List.length_append]; omega)]
  exact rd_many l r b (fun x hx r => rd_num (h x hx) r b)
theorem rd_ins {i : Ins} (h : Sn i.op ∧ Sn i.A) (r : List UInt8) (b : Bool) : rdIns (insB i ++ r, b) = (i, (r, b)) := by
  unfold rdIns insB
  rw [List.append_assoc, rd_num h.1]
  simp only
  rw [rd_num h.2]
theorem rd_str {s : List UInt8} (h : s.length ≤ 32) (r : List UInt8) (b : Bool) : rdStr (strB s ++ r, b) = (s, (r, b)) := by
  unfold rdStr strB
  rw [List.append_assoc, rd_cnt (n := s.length) (by omega) (by simp)]
  simp
theorem rd_ent {e : Ent} (h : Sn e.mode ∧ Sn e.trigger ∧ Sn e.index ∧ Sn e.pos) (r : List UInt8) (b : Bool) : rdEnt (entB e ++ r, b) = (e, (r, b)) := by
  obtain ⟨h1, h2, h3, h4⟩ := h
  unfold rdEnt entB
  simp only [List.append_assoc]
  rw [rd_num h1]
  simp only
  rw [rd_num h2]
  simp only
  rw [rd_num h3]
  simp only
  rw [rd_num h4]
theorem rd_prg {c : Prg} (h0 : validM c = 0) : rdPrg (encM c, false) = (c, ([], false)) := by
  obtain ⟨b1, b2, b3, b4, b5, b6, b7⟩ := Bndn.valid h0
  obtain ⟨hL, -⟩ := valid_all h0
  obtain ⟨d1, d2, d3, d4, d5, -⟩ := Lim.dims hL
  have f1 := flat_ge (g := insB) c.instrs (fun x _ e => numI_ne x.op (List.append_eq_nil_iff.1 e).1)
  have f2 := flat_ge (g := strB) c.strings (fun x _ e => numI_ne _ (List.append_eq_nil_iff.1 e).1)
  have f3 := flat_ge (g := entB) c.entries (fun x _ e => numI_ne x.mode (List.append_eq_nil_iff.1 (List.append_eq_nil_iff.1 (List.append_eq_nil_iff.1 e).1).1).1)
  unfold rdPrg encM
  simp only [List.append_assoc]
  rw [rd_cnt (by omega) (by rw [List.length_append]; omega)]
  simp only
  rw [rd_many c.instrs _ false (fun x hx r => rd_ins (b1 x hx) r false)]
  simp only
  rw [rd_cnt (by omega) (by rw [List.length_append]; omega)]
  simp only
  rw [rd_many c.strings _ false (fun x hx r => rd_str (b7 x hx) r false)]
  simp only
  rw [rd_cnt (by omega) (by rw [List.length_append]; omega)]
  simp only
  rw [rd_many c.entries _ false (fun x hx r => rd_ent (b2 x hx) r false)]
  simp only
  rw [rd_nums b3 (by omega)]
  simp only
  rw [rd_nums b4 (by omega)]
  simp only
  rw [rd_num b5]
  simp only
  have e := rd_num b6 [] false
  rw [List.append_nil] at e
  rw [e]
theorem dec_enc {c : Prg} (h0 : validM c = 0) : decP (encM c) = some c := by
  have e : encV c = encM c := by unfold encV; rw [if_pos h0]
  unfold decP
  rw [rd_prg h0, if_neg (by simp [h0, e])]
theorem enc_len {c : Prg} (h0 : validM c = 0) : (encM c).length ≤ 1000000 := by
  obtain ⟨b1, b2, b3, b4, b5, b6, b7⟩ := Bnd.valid h0
  obtain ⟨hL, -⟩ := valid_all h0
  obtain ⟨d1, d2, d3, d4, d5, -⟩ := Lim.dims hL
  have f1 := flat_len insB 20 c.instrs (fun x hx => by
    have h1 := numI_len (b1 x hx).1
    have h2 := numI_len (b1 x hx).2
    rw [insB, List.length_append]; omega)
  have f2 := flat_len strB 42 c.strings (fun x hx => by
    have h1 := b7 x hx
    have h2 := numI_len (n := (x.length : Int)) ⟨by omega, by omega⟩
    rw [strB, List.length_append]; omega)
  have f3 := flat_len entB 40 c.entries (fun x hx => by
    obtain ⟨h1, h2, h3, h4⟩ := b2 x hx
    have h1 := numI_len h1
    have h2 := numI_len h2
    have h3 := numI_len h3
    have h4 := numI_len h4
    simp only [entB, List.length_append]; omega)
  have f4 := numsB_len b3 (by omega)
  have f5 := numsB_len b4 (by omega)
  have f6 := numI_len b5
  have f7 := numI_len b6
  have f8 := numI_len (n := (c.instrs.length : Int)) ⟨by omega, by omega⟩
  have f9 := numI_len (n := (c.strings.length : Int)) ⟨by omega, by omega⟩
  have f10 := numI_len (n := (c.entries.length : Int)) ⟨by omega, by omega⟩
  simp only [encM, List.length_append]; omega
theorem enc_inj {a b : Prg} (ha : validM a = 0) (hb : validM b = 0) : encM a = encM b ↔ a = b := by
  constructor
  · intro h
    have h1 := dec_enc ha
    rw [h, dec_enc hb] at h1
    cases h1; rfl
  · intro h; rw [h]
end Go.Pb
set_option maxHeartbeats 4000000
set_option maxRecDepth 100000
set_option linter.unusedSimpArgs false
set_option linter.unusedVariables false
namespace Go.Proofs.YtcallbfckjlagaaDoor
open Go.Eng (IC IOper DReg IFn IsFn)
open Go.Sym Go.Pb
noncomputable section
def u8_11r : List IOper := [⟨some 6, .pur (.mv (.k (.bool false))), none⟩]
def u8_11 : IC := .seq (.reg u8_11r) .ret
def u8_10 : IC := .cond (.t 46) u8_11 .skip
def u8_9r : List IOper := [⟨some 39, .pur (.mv (.t 14)), none⟩, ⟨some 40, .pur (.bin .neq (.t 39) (.k (.int .i64 0))), none⟩, ⟨some 41, .pur (.mv (.t 40)), none⟩, ⟨some 42, .pur (.ld 7 true (.t 7)), some (41, false)⟩, ⟨some 43, .pur (.ld 7 true (.t 13)), some (41, false)⟩, ⟨some 44, .call 18 [.t 42, .t 43], some (41, false)⟩, ⟨some 45, .pur (.un .not (.t 44)), some (41, false)⟩, ⟨some 46, .pur (.pick (.t 41) (.k (.bool true)) (.t 45)), none⟩]
def u8_9 : IC := .seq (.reg u8_9r) u8_10
def u8_8r : List IOper := [⟨some 35, .pur (.mv (.t 9)), none⟩, ⟨some 36, .call 16 [.t 35], none⟩, ⟨some 34, .pur (.mv (.t 36)), none⟩, ⟨some 37, .pur (.ext (.t 34) 0), none⟩, ⟨some 38, .pur (.ext (.t 34) 1), none⟩, ⟨some 13, .new (.box (.k (.agg #[.slice none 0 0, .slice none 0 0, .slice none 0 0, .slice none 0 0, .slice none 0 0, .int .i64 0, .int .i64 0]))), none⟩, ⟨none, .eff (.st 7 (.t 13) (.t 37)), none⟩, ⟨some 14, .pur (.mv (.t 38)), none⟩]
def u8_8 : IC := .seq (.reg u8_8r) u8_9
def u8_7 : IC := .cond (.t 33) u8_8 .skip
def u8_6r : List IOper := [⟨some 32, .pur (.mv (.t 10)), none⟩, ⟨some 33, .pur (.bin .eql (.t 32) (.k (.int .i64 0))), none⟩]
def u8_6 : IC := .seq (.reg u8_6r) u8_7
def u8_13r : List IOper := [⟨some 50, .pur (.ld 7 true (.t 7)), none⟩, ⟨some 51, .pur (.ld 7 true (.t 8)), none⟩, ⟨some 52, .call 21 [.t 50, .t 51], none⟩, ⟨some 53, .pur (.mv (.t 15)), none⟩, ⟨some 54, .pur (.eqb false (.t 52) (.t 53)), none⟩, ⟨some 55, .pur (.mv (.t 54)), none⟩, ⟨some 56, .pur (.ld 7 true (.t 7)), some (55, true)⟩, ⟨some 57, .pur (.ld 7 true (.t 7)), some (55, true)⟩, ⟨some 58, .call 21 [.t 56, .t 57], some (55, true)⟩, ⟨some 59, .pur (.pick (.t 55) (.t 58) (.k (.bool false))), none⟩, ⟨some 60, .pur (.mv (.t 59)), none⟩, ⟨some 61, .pur (.mv (.t 10)), some (60, true)⟩, ⟨some 62, .pur (.bin .neq (.t 61) (.k (.int .i64 0))), some (60, true)⟩, ⟨some 63, .pur (.mv (.t 62)), some (60, true)⟩, ⟨some 64, .pur (.mv (.t 12)), some (63, false)⟩, ⟨some 65, .pur (.bin .neq (.t 64) (.k (.int .i64 0))), some (63, false)⟩, ⟨some 66, .pur (.pick (.t 63) (.k (.bool true)) (.t 65)), some (60, true)⟩, ⟨some 67, .pur (.mv (.t 66)), some (60, true)⟩, ⟨some 68, .pur (.mv (.t 9)), some (67, false)⟩, ⟨some 69, .pur (.mv (.t 11)), some (67, false)⟩, ⟨some 70, .pur (.bin .eql (.t 68) (.t 69)), some (67, false)⟩, ⟨some 71, .pur (.mv (.t 15)), some (67, false)⟩, ⟨some 72, .pur (.eqb false (.t 70) (.t 71)), some (67, false)⟩, ⟨some 73, .pur (.pick (.t 67) (.k (.bool true)) (.t 72)), some (60, true)⟩, ⟨some 74, .pur (.pick (.t 60) (.t 73) (.k (.bool false))), none⟩, ⟨some 75, .pur (.mv (.t 74)), none⟩, ⟨some 76, .call 13 [], some (75, true)⟩, ⟨some 77, .pur (.pick (.t 75) (.t 76) (.k (.bool false))), none⟩, ⟨some 6, .pur (.mv (.t 77)), none⟩]
def u8_13 : IC := .seq (.reg u8_13r) .ret
def u8_12r : List IOper := [⟨some 47, .pur (.ld 7 true (.t 7)), none⟩, ⟨some 48, .pur (.ld 7 true (.t 8)), none⟩, ⟨some 49, .call 18 [.t 47, .t 48], none⟩, ⟨some 15, .pur (.mv (.t 49)), none⟩]
def u8_12 : IC := .seq (.reg u8_12r) u8_13
def u8_5 : IC := .seq u8_6 u8_12
def u8_4r : List IOper := [⟨some 28, .pur (.ld 7 true (.t 8)), none⟩, ⟨some 29, .call 19 [.t 28], none⟩, ⟨some 27, .pur (.mv (.t 29)), none⟩, ⟨some 30, .pur (.ext (.t 27) 0), none⟩, ⟨some 31, .pur (.ext (.t 27) 1), none⟩, ⟨some 11, .pur (.mv (.t 30)), none⟩, ⟨some 12, .pur (.mv (.t 31)), none⟩]
def u8_4 : IC := .seq (.reg u8_4r) u8_5
def u8_3r : List IOper := [⟨some 23, .pur (.ld 7 true (.t 7)), none⟩, ⟨some 24, .call 19 [.t 23], none⟩, ⟨some 22, .pur (.mv (.t 24)), none⟩, ⟨some 25, .pur (.ext (.t 22) 0), none⟩, ⟨some 26, .pur (.ext (.t 22) 1), none⟩, ⟨some 9, .pur (.mv (.t 25)), none⟩, ⟨some 10, .pur (.mv (.t 26)), none⟩]
def u8_3 : IC := .seq (.reg u8_3r) u8_4
def u8_2r : List IOper := [⟨some 16, .pur (.mv (.t 0)), none⟩, ⟨some 17, .pur (.mv (.t 1)), none⟩, ⟨some 18, .call 11 [.t 16, .t 17], none⟩, ⟨some 19, .pur (.mv (.t 0)), none⟩, ⟨some 20, .pur (.mv (.t 2)), none⟩, ⟨some 21, .call 11 [.t 19, .t 20], none⟩, ⟨some 7, .new (.box (.k (.agg #[.slice none 0 0, .slice none 0 0, .slice none 0 0, .slice none 0 0, .slice none 0 0, .int .i64 0, .int .i64 0]))), none⟩, ⟨some 8, .new (.box (.k (.agg #[.slice none 0 0, .slice none 0 0, .slice none 0 0, .slice none 0 0, .slice none 0 0, .int .i64 0, .int .i64 0]))), none⟩, ⟨none, .eff (.st 7 (.t 7) (.t 18)), none⟩, ⟨none, .eff (.st 7 (.t 8) (.t 21)), none⟩]
def u8_2 : IC := .seq (.reg u8_2r) u8_3
def u8_1r : List IOper := [⟨some 6, .pur (.mv (.k (.bool false))), none⟩]
def u8_1 : IC := .seq (.reg u8_1r) u8_2
def u8 : IFn := ⟨78, u8_1, [.tmp 6]⟩
end
theorem isU8 : IsFn Tryd.prog 8 u8 := by unfold IsFn; kernel_rfl
instance i8_10 : WR Tryd.prog 78 u8_10 (rCE (.t 46) u8_11 .skip [7, 8, 9, 10, 11, 12, 46]) := ⟨mkCE⟩
instance i8_9 : WR Tryd.prog 78 u8_9 (rS u8_9r u8_10 [7, 8, 9, 10, 11, 12, 13, 14]) := ⟨mkS⟩
instance i8_8 : WR Tryd.prog 78 u8_8 (rS u8_8r u8_9 [7, 8, 9, 10, 11, 12]) := ⟨mkS⟩
instance i8_7 : WR Tryd.prog 78 u8_7 (rCE (.t 33) u8_8 .skip [7, 8, 9, 10, 11, 12, 33]) := ⟨mkCE⟩
instance i8_6 : WR Tryd.prog 78 u8_6 (rS u8_6r u8_7 [7, 8, 9, 10, 11, 12]) := ⟨mkS⟩
instance i8_13 : WR Tryd.prog 78 u8_13 (rS u8_13r .ret [7, 8, 9, 10, 11, 12, 15]) := ⟨mkS⟩
instance i8_12 : WR Tryd.prog 78 u8_12 (rS u8_12r u8_13 [7, 8, 9, 10, 11, 12]) := ⟨mkS⟩
instance i8_5 : WR Tryd.prog 78 u8_5 (rQ u8_6 u8_12 [7, 8, 9, 10, 11, 12]) := ⟨mkQ⟩
instance i8_4 : WR Tryd.prog 78 u8_4 (rS u8_4r u8_5 [7, 8, 9, 10]) := ⟨mkS⟩
instance i8_3 : WR Tryd.prog 78 u8_3 (rS u8_3r u8_4 [7, 8]) := ⟨mkS⟩
instance i8_2 : WR Tryd.prog 78 u8_2 (rS u8_2r u8_3 [0, 1, 2]) := ⟨mkS⟩
instance i8_1 : WR Tryd.prog 78 u8_1 (rS u8_1r u8_2 [0, 1, 2]) := ⟨mkS⟩
attribute [go_sem] u8_11r u8_9r u8_8r u8_6r u8_13r u8_12r u8_4r u8_3r u8_2r u8_1r
theorem c_backLaw (l m n : List UInt8) (hl : l.length ≤ 9223372036854775807) (hm : m.length ≤ 9223372036854775807) (hn : n.length ≤ 9223372036854775807) : PC Tryd.prog 8 [.lst (bytesC l), .lst (bytesC m), .lst (bytesC n)] (.bool true) := by
  have nlb : ∀ l, DV.nlL (bytesC l) = true := fun l => nlL_map (fun _ => rfl) l
  refine PC.of mixedU isU8 (Nat.le_of_ble_eq_true rfl) (by simp [DV.nlL, DV.nl, nlb]) rfl ?_
  show IW Tryd.prog 78 u8_1 ⟨argT _, _, _⟩ (rt [.tmp 6] _)
  have cA := c_Broken l m hl hm
  have cB := c_Broken l n hl hn
  have A := BB.broken l m
  have B := BB.broken l n
  obtain ⟨a, ha⟩ : ∃ c, c = brokenM l m := ⟨_, rfl⟩
  obtain ⟨b, hb⟩ : ∃ c, c = brokenM l n := ⟨_, rfl⟩
  rw [← ha] at A cA
  rw [← hb] at B cB
  obtain ⟨A1, A2, A3, A4, A5, A6, A7, A8, A9, A10⟩ := A
  obtain ⟨B1, B2, B3, B4, B5, B6, B7, B8, B9, B10⟩ := B
  have A6' : a.vars.length = 3 := by rw [A6]; rfl
  have B6' : b.vars.length = 3 := by rw [B6]; rfl
  have eA := c_Encode a (fun s hs => by have := A5 s hs; omega) (by omega)
  have eB := c_Encode b (fun s hs => by have := B5 s hs; omega) (by omega)
  have sR := c_SameR a b (by omega) (by omega) (by omega) (by omega) (by omega)
  have sP := c_Same a b (by omega) (by omega) (by omega) (by omega) (by omega)
  have sRa := c_SameR a a (by omega) (by omega) (by omega) (by omega) (by omega)
  have sPa := c_Same a a (by omega) (by omega) (by omega) (by omega) (by omega)
  have raa : decide (a = a) = true := by simp
  rw [raa] at sRa sPa
  have zt : (false != true) = true := rfl
  have zf : (false != false) = false := rfl
  have zb : (decide (a = b) == decide (a = b)) = true := by simp
  by_cases h0 : validM a = 0
  · have z1 : (validM a == 0) = true := by simp [h0]
    have z2 : (validM a != 0) = false := by simp [h0]
    have e1 : encV a = encM a := by unfold encV; rw [if_pos h0]
    rw [e1] at eA
    have dA := c_Decode (encM a) (enc_len h0)
    rw [dec_enc h0] at dA
    have dA' : PC Tryd.prog 16 [.str (encM a)] (.tup [a.v, I64 0]) := dA
    have z0 : ((0 : Int) != 0) = false := rfl
    by_cases h2 : validM b = 0
    · have z4 : (validM b != 0) = false := by simp [h2]
      have e2 : encV b = encM b := by unfold encV; rw [if_pos h2]
      rw [e2] at eB
      have e3 : (encM a == encM b) = decide (a = b) := by
        by_cases e : a = b
        · rw [e]; simp
        · have : ¬ encM a = encM b := fun h => e ((enc_inj h0 h2).1 h)
          simp [e, this]
      repeat' ((first | (with_reducible first | refine wr ?_ | refine i_ret ?_ | refine i_skip ?_ | refine i_exit ?_) | ((with_reducible first | refine k_cb ?_ ?_ | refine k_gb ?_ ?_ | refine k_gb' ?_ ?_) <;> (intro hb; try simp only [hb])) | ((with_reducible refine AC.call ((cA).at _ _) ?_); rintro _ _ _ ⟨rfl, rfl, rfl⟩ -) | ((with_reducible refine AC.call ((cB).at _ _) ?_); rintro _ _ _ ⟨rfl, rfl, rfl⟩ -) | ((with_reducible refine AC.call ((eA).at _ _) ?_); rintro _ _ _ ⟨rfl, rfl, rfl⟩ -) | ((with_reducible refine AC.call ((eB).at _ _) ?_); rintro _ _ _ ⟨rfl, rfl, rfl⟩ -) | ((with_reducible refine AC.call ((dA').at _ _) ?_); rintro _ _ _ ⟨rfl, rfl, rfl⟩ -) | ((with_reducible refine AC.call ((sRa).at _ _) ?_); rintro _ _ _ ⟨rfl, rfl, rfl⟩ -) | ((with_reducible refine AC.call ((sPa).at _ _) ?_); rintro _ _ _ ⟨rfl, rfl, rfl⟩ -) | ((with_reducible refine AC.call ((sR).at _ _) ?_); rintro _ _ _ ⟨rfl, rfl, rfl⟩ -) | ((with_reducible refine AC.call ((sP).at _ _) ?_); rintro _ _ _ ⟨rfl, rfl, rfl⟩ -) | ((with_reducible refine AC.call ((c_sane).at _ _) ?_); rintro _ _ _ ⟨rfl, rfl, rfl⟩ -)) <;> try simp only [go_sem, Nat.reduceAdd, Nat.reduceLeDiff, Nat.reduceEqDiff, Nat.reduceMul, Nat.reduceSub, ↓reduceIte, Int.reduceLT, Int.reduceLE, Int.reduceGT, Int.reduceGE, Nat.reduceLT, Nat.reduceGT, Int.reduceToNat, reduceCtorEq, Nat.reduceBEq, Int.reduceBEq, Int.reduceBNe, Int.reduceEq, Int.reduceNe, decide_true, decide_false, zt, zf, zb, z0, z1, z2, z4, e3])
      exact pc_ret rfl
    · have z4 : (validM b != 0) = true := by simp [h2]
      repeat' ((first | (with_reducible first | refine wr ?_ | refine i_ret ?_ | refine i_skip ?_ | refine i_exit ?_) | ((with_reducible first | refine k_cb ?_ ?_ | refine k_gb ?_ ?_ | refine k_gb' ?_ ?_) <;> (intro hb; try simp only [hb])) | ((with_reducible refine AC.call ((cA).at _ _) ?_); rintro _ _ _ ⟨rfl, rfl, rfl⟩ -) | ((with_reducible refine AC.call ((cB).at _ _) ?_); rintro _ _ _ ⟨rfl, rfl, rfl⟩ -) | ((with_reducible refine AC.call ((eA).at _ _) ?_); rintro _ _ _ ⟨rfl, rfl, rfl⟩ -) | ((with_reducible refine AC.call ((eB).at _ _) ?_); rintro _ _ _ ⟨rfl, rfl, rfl⟩ -) | ((with_reducible refine AC.call ((dA').at _ _) ?_); rintro _ _ _ ⟨rfl, rfl, rfl⟩ -) | ((with_reducible refine AC.call ((sRa).at _ _) ?_); rintro _ _ _ ⟨rfl, rfl, rfl⟩ -) | ((with_reducible refine AC.call ((sPa).at _ _) ?_); rintro _ _ _ ⟨rfl, rfl, rfl⟩ -) | ((with_reducible refine AC.call ((sR).at _ _) ?_); rintro _ _ _ ⟨rfl, rfl, rfl⟩ -) | ((with_reducible refine AC.call ((sP).at _ _) ?_); rintro _ _ _ ⟨rfl, rfl, rfl⟩ -) | ((with_reducible refine AC.call ((c_sane).at _ _) ?_); rintro _ _ _ ⟨rfl, rfl, rfl⟩ -)) <;> try simp only [go_sem, Nat.reduceAdd, Nat.reduceLeDiff, Nat.reduceEqDiff, Nat.reduceMul, Nat.reduceSub, ↓reduceIte, Int.reduceLT, Int.reduceLE, Int.reduceGT, Int.reduceGE, Nat.reduceLT, Nat.reduceGT, Int.reduceToNat, reduceCtorEq, Nat.reduceBEq, Int.reduceBEq, Int.reduceBNe, Int.reduceEq, Int.reduceNe, decide_true, decide_false, zt, zf, zb, z0, z1, z2, z4])
      exact pc_ret rfl
  · have z1 : (validM a == 0) = false := by simp [h0]
    have z2 : (validM a != 0) = true := by simp [h0]
    repeat' ((first | (with_reducible first | refine wr ?_ | refine i_ret ?_ | refine i_skip ?_ | refine i_exit ?_) | ((with_reducible first | refine k_cb ?_ ?_ | refine k_gb ?_ ?_ | refine k_gb' ?_ ?_) <;> (intro hb; try simp only [hb])) | ((with_reducible refine AC.call ((cA).at _ _) ?_); rintro _ _ _ ⟨rfl, rfl, rfl⟩ -) | ((with_reducible refine AC.call ((cB).at _ _) ?_); rintro _ _ _ ⟨rfl, rfl, rfl⟩ -) | ((with_reducible refine AC.call ((eA).at _ _) ?_); rintro _ _ _ ⟨rfl, rfl, rfl⟩ -) | ((with_reducible refine AC.call ((eB).at _ _) ?_); rintro _ _ _ ⟨rfl, rfl, rfl⟩ -) | ((with_reducible refine AC.call ((sRa).at _ _) ?_); rintro _ _ _ ⟨rfl, rfl, rfl⟩ -) | ((with_reducible refine AC.call ((sPa).at _ _) ?_); rintro _ _ _ ⟨rfl, rfl, rfl⟩ -) | ((with_reducible refine AC.call ((sR).at _ _) ?_); rintro _ _ _ ⟨rfl, rfl, rfl⟩ -) | ((with_reducible refine AC.call ((sP).at _ _) ?_); rintro _ _ _ ⟨rfl, rfl, rfl⟩ -) | ((with_reducible refine AC.call ((c_sane).at _ _) ?_); rintro _ _ _ ⟨rfl, rfl, rfl⟩ -)) <;> try simp only [go_sem, Nat.reduceAdd, Nat.reduceLeDiff, Nat.reduceEqDiff, Nat.reduceMul, Nat.reduceSub, ↓reduceIte, Int.reduceLT, Int.reduceLE, Int.reduceGT, Int.reduceGE, Nat.reduceLT, Nat.reduceGT, Int.reduceToNat, reduceCtorEq, Nat.reduceBEq, Int.reduceBEq, Int.reduceBNe, Int.reduceEq, Int.reduceNe, decide_true, decide_false, zt, zf, zb, z1, z2])
    exact pc_ret rfl
end Go.Proofs.YtcallbfckjlagaaDoor

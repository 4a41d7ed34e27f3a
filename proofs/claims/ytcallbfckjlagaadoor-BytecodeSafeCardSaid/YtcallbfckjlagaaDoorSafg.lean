/-
  HELPERS of the claim: part 7 of its texts.
-/
import Derived.Shelf.Strings.OnBuilder
import Derived.Shelf.Strconv.Itoa3
import Derived.Test.YtcallbfckjlagaaDoorProg
import Derived.Test.YtcallbfckjlagaaDoorSaff
set_option linter.unusedVariables false
namespace Go.Proofs
open Go.Shelf
def Tryd.lays156_ren : Go.Shelf.Ren := ⟨fun | 156 => 50 | 165 => 64 | 166 => 65 | 169 => 66 | 240 => 83 | 241 => 84 | 276 => 92 | 277 => 93 | n => n, fun | 31 => 24 | 9 => 9 | 3 => 3 | 4 => 4 | 0 => 0 | 20 => 20 | 72 => 100 | 76 => 104 | 70 => 98 | 37 => 22 | 75 => 103 | 127 => 117 | 164 => 126 | 5 => 5 | 80 => 106 | n => n, fun | n => n⟩
theorem Tryd.lays156 : Go.Proofs.Lays.n156 Tryd.prog Tryd.lays156_ren := {
  mixed := by kernel_rfl
  f156 := Tryd.func50.trans (congrArg some (by kernel_rfl))
  f165 := Tryd.func64.trans (congrArg some (by kernel_rfl))
  f166 := Tryd.func65.trans (congrArg some (by kernel_rfl))
  f169 := Tryd.func66.trans (congrArg some (by kernel_rfl))
  f240 := Tryd.func83.trans (congrArg some (by kernel_rfl))
  f241 := Tryd.func84.trans (congrArg some (by kernel_rfl))
  f276 := Tryd.func92.trans (congrArg some (by kernel_rfl))
  f277 := Tryd.func93.trans (congrArg some (by kernel_rfl))
  t0 := Tryd.underlying0
  a0 := Tryd.isAgg0
  z0 := Tryd.sizeOf0
  v0 := Tryd.zeroValue0
  t3 := Tryd.underlying3
  a3 := Tryd.isAgg3
  z3 := Tryd.sizeOf3
  v3 := Tryd.zeroValue3
  t4 := Tryd.underlying4
  a4 := Tryd.isAgg4
  z4 := Tryd.sizeOf4
  v4 := Tryd.zeroValue4
  t9 := Tryd.underlying9
  a9 := Tryd.isAgg9
  z9 := Tryd.sizeOf9
  v9 := Tryd.zeroValue9
  t20 := Tryd.underlying20
  a20 := Tryd.isAgg20
  z20 := Tryd.sizeOf20
  v20 := Tryd.zeroValue20
  t31 := Tryd.underlying24
  a31 := Tryd.isAgg24
  z31 := Tryd.sizeOf24
  v31 := Tryd.zeroValue24
  t37 := Tryd.underlying22
  a37 := Tryd.isAgg22
  z37 := Tryd.sizeOf22
  v37 := Tryd.zeroValue22
  t70 := Tryd.underlying98
  a70 := Tryd.isAgg98
  z70 := Tryd.sizeOf98
  v70 := Tryd.zeroValue98
  t72 := Tryd.underlying100
  a72 := Tryd.isAgg100
  z72 := Tryd.sizeOf100
  v72 := Tryd.zeroValue100
  t75 := Tryd.underlying103
  a75 := Tryd.isAgg103
  z75 := Tryd.sizeOf103
  v75 := Tryd.zeroValue103
  t76 := Tryd.underlying104
  a76 := Tryd.isAgg104
  z76 := Tryd.sizeOf104
  v76 := Tryd.zeroValue104
  t127 := Tryd.underlying117
  a127 := Tryd.isAgg117
  z127 := Tryd.sizeOf117
  v127 := Tryd.zeroValue117
  t164 := Tryd.underlying126
  a164 := Tryd.isAgg126
  z164 := Tryd.sizeOf126
  v164 := Tryd.zeroValue126 }
theorem Tryd.Builder_Extra_156 : Builder.Extra Tryd.prog Tryd.lays156_ren := {
  sizeBuilder := by kernel_rfl
  liesBuilder := by kernel_rfl
  t5 := Tryd.underlying5
  a5 := Tryd.isAgg5
  z5 := Tryd.sizeOf5
  v5 := Tryd.zeroValue5
  infoByte := by kernel_rfl
  cellsByte := by kernel_rfl
  sizeByte := by kernel_rfl
  neB5 := by decide }
open Go.RowKit in
theorem Tryd.strings_Join_none (a : Option Addr) (c : Nat) (sep : ByteArray) (w : World) :
    Calls Tryd.prog 50 #[.slice a 0 c, .string sep] w fun e w' => e = .returned (.string ⟨#[]⟩) ∧ w' = w := Any.strings_Join_none Tryd.lays156 Tryd.Builder_Extra_156 a c sep w
open Go.RowKit in
theorem Tryd.strings_Join (bk o c : Nat) (xs : List ByteArray) (sep : ByteArray) (w : World) (hcells : ∀ (j : Nat) x, xs[j]? = some x → w.cell? ⟨bk, o + j, none⟩ = some (.string x)) (hbk : bk < w.heap.size) (hN : xs.length ≤ 140737488355328) (hcap : xs.length ≤ c) (hlen : (Lib.join (xs.map (·.data.toList)) sep.data.toList).length ≤ 140737488355328) :
    Calls Tryd.prog 50 #[.slice (some ⟨bk, o, none⟩) xs.length c, .string sep] w fun e w' => e = .returned (.string ⟨(Lib.join (xs.map (·.data.toList)) sep.data.toList).toArray⟩) ∧ Below w.heap.size w w' := Any.strings_Join Tryd.lays156 Tryd.Builder_Extra_156 bk o c xs sep w hcells hbk hN hcap hlen
def Tryd.lays171_ren : Go.Shelf.Ren := ⟨fun | 171 => 49 | 243 => 63 | 246 => 82 | 283 => 88 | 284 => 89 | 285 => 90 | 286 => 91 | 129 => 95 | 317 => 94 | 318 => 96 | 319 => 97 | 320 => 98 | 337 => 99 | 338 => 100 | n => n, fun | 3 => 3 | 9 => 9 | 2 => 2 | 4 => 4 | 171 => 121 | 0 => 0 | 53 => 87 | 37 => 22 | 5 => 5 | 173 => 124 | 212 => 130 | 51 => 131 | 20 => 20 | 213 => 132 | 46 => 88 | 232 => 135 | 233 => 136 | n => n, fun | 17 => 0 | 18 => 2 | 19 => 3 | n => n⟩
theorem Tryd.lays171 : Go.Proofs.Lays.n171 Tryd.prog Tryd.lays171_ren := {
  mixed := by kernel_rfl
  f129 := Tryd.func95.trans (congrArg some (by kernel_rfl))
  f171 := Tryd.func49.trans (congrArg some (by kernel_rfl))
  f243 := Tryd.func63.trans (congrArg some (by kernel_rfl))
  f246 := Tryd.func82.trans (congrArg some (by kernel_rfl))
  f283 := Tryd.func88.trans (congrArg some (by kernel_rfl))
  f284 := Tryd.func89.trans (congrArg some (by kernel_rfl))
  f285 := Tryd.func90.trans (congrArg some (by kernel_rfl))
  f286 := Tryd.func91.trans (congrArg some (by kernel_rfl))
  f317 := Tryd.func94.trans (congrArg some (by kernel_rfl))
  f318 := Tryd.func96.trans (congrArg some (by kernel_rfl))
  f319 := Tryd.func97.trans (congrArg some (by kernel_rfl))
  f320 := Tryd.func98.trans (congrArg some (by kernel_rfl))
  f337 := Tryd.func99.trans (congrArg some (by kernel_rfl))
  f338 := Tryd.func100.trans (congrArg some (by kernel_rfl))
  t0 := Tryd.underlying0
  a0 := Tryd.isAgg0
  z0 := Tryd.sizeOf0
  v0 := Tryd.zeroValue0
  t2 := Tryd.underlying2
  a2 := Tryd.isAgg2
  z2 := Tryd.sizeOf2
  v2 := Tryd.zeroValue2
  t3 := Tryd.underlying3
  a3 := Tryd.isAgg3
  z3 := Tryd.sizeOf3
  v3 := Tryd.zeroValue3
  t4 := Tryd.underlying4
  a4 := Tryd.isAgg4
  z4 := Tryd.sizeOf4
  v4 := Tryd.zeroValue4
  t5 := Tryd.underlying5
  a5 := Tryd.isAgg5
  z5 := Tryd.sizeOf5
  v5 := Tryd.zeroValue5
  t9 := Tryd.underlying9
  a9 := Tryd.isAgg9
  z9 := Tryd.sizeOf9
  v9 := Tryd.zeroValue9
  t20 := Tryd.underlying20
  a20 := Tryd.isAgg20
  z20 := Tryd.sizeOf20
  v20 := Tryd.zeroValue20
  t37 := Tryd.underlying22
  a37 := Tryd.isAgg22
  z37 := Tryd.sizeOf22
  v37 := Tryd.zeroValue22
  t46 := Tryd.underlying88
  a46 := Tryd.isAgg88
  z46 := Tryd.sizeOf88
  v46 := Tryd.zeroValue88
  t51 := Tryd.underlying131
  a51 := Tryd.isAgg131
  z51 := Tryd.sizeOf131
  v51 := Tryd.zeroValue131
  t53 := Tryd.underlying87
  a53 := Tryd.isAgg87
  z53 := Tryd.sizeOf87
  v53 := Tryd.zeroValue87
  t171 := Tryd.underlying121
  a171 := Tryd.isAgg121
  z171 := Tryd.sizeOf121
  v171 := Tryd.zeroValue121
  t173 := Tryd.underlying124
  a173 := Tryd.isAgg124
  z173 := Tryd.sizeOf124
  v173 := Tryd.zeroValue124
  t212 := Tryd.underlying130
  a212 := Tryd.isAgg130
  z212 := Tryd.sizeOf130
  v212 := Tryd.zeroValue130
  t213 := Tryd.underlying132
  a213 := Tryd.isAgg132
  z213 := Tryd.sizeOf132
  t232 := Tryd.underlying135
  a232 := Tryd.isAgg135
  z232 := Tryd.sizeOf135
  v232 := Tryd.zeroValue135
  t233 := Tryd.underlying136
  a233 := Tryd.isAgg136
  z233 := Tryd.sizeOf136
  v233 := Tryd.zeroValue136
  g17 := by kernel_rfl
  g18 := by kernel_rfl
  g19 := by kernel_rfl }
open Go.RowKit Go.Sort Go.Lib in
theorem Tryd.strconv_Itoa_small (i : Nat) (hi : i < 100) (w : World) :
    Calls Tryd.prog 49 #[.int .i64 i] w fun e w' => e = .returned (.string ⟨(Lib.decDigits i).toArray⟩) ∧ w' = w := Any.strconv_Itoa_small Tryd.lays171 i hi w
end Go.Proofs
set_option maxHeartbeats 4000000
set_option maxRecDepth 100000
set_option linter.unusedSimpArgs false
set_option linter.unusedVariables false
namespace Go.Proofs.YtcallbfckjlagaaDoor
open Go.Eng (IC IOper DReg IFn IsFn Callable)
open Go.Sym Go.Pb Go.RowKit
noncomputable section
def u25_10r : DReg := ⟨[⟨some 14, .pur (.mv (.t 3)), none⟩, ⟨some 15, .pur (.mv (.t 4)), none⟩, ⟨some 16, .call 49 [.t 15], none⟩, ⟨some 17, .pur (.bin .add (.t 16) (.k (.string ⟨#[32]⟩))), none⟩, ⟨some 18, .pur (.fad 0 (.t 5)), none⟩, ⟨some 19, .pur (.ld 1 false (.t 18)), none⟩, ⟨some 20, .call 49 [.t 19], none⟩, ⟨some 21, .pur (.bin .add (.t 17) (.t 20)), none⟩, ⟨some 22, .pur (.bin .add (.t 21) (.k (.string ⟨#[32]⟩))), none⟩, ⟨some 23, .pur (.fad 1 (.t 5)), none⟩, ⟨some 24, .pur (.ld 1 false (.t 23)), none⟩, ⟨some 25, .call 49 [.t 24], none⟩, ⟨some 26, .pur (.bin .add (.t 22) (.t 25)), none⟩, ⟨some 27, .pur (.bin .add (.t 26) (.k (.string ⟨#[10]⟩))), none⟩, ⟨some 28, .new (.bsl 1 1 #[.string ⟨#[]⟩] [(0, .t 27)]), none⟩, ⟨some 29, .eff (.app 1 16 (.t 14) (.t 28)), none⟩, ⟨some 3, .pur (.mv (.t 29)), none⟩], [[], [], [1], [2, 1], [], [4], [5, 2, 4, 1], [3, 6, 2, 1, 5, 4], [7, 3, 6, 2, 1, 5, 4], [], [9], [10, 6, 9, 5, 2, 4, 1], [8, 11, 7, 3, 6, 2, 1, 5, 4, 10, 9], [12, 8, 11, 7, 3, 6, 2, 1, 5, 4, 10, 9], [13, 12, 8, 11, 7, 3, 6, 2, 1, 5, 4, 10, 9], [0, 14, 11, 13, 12, 8, 7, 3, 6, 2, 1, 5, 4, 10, 9], [15, 0, 1, 2, 3, 4, 5, 6, 7, 8, 9, 10, 11, 12, 13, 14]], [(0, none), (1, none), (4, none), (5, none), (9, none), (10, none), (2, some [0, 4, 5, 9, 10]), (3, none), (6, some [0, 9, 10, 3]), (7, none), (8, none), (11, some [0, 3, 7, 8]), (12, none), (13, none), (14, none), (15, some []), (16, some [])]⟩
def u25_10 : IC := .drw 17 u25_10r
def u25_9r : List IOper := [⟨some 11, .pur (.mv (.t 9)), none⟩, ⟨some 12, .pur (.iad 2 (.t 7) (.t 9)), none⟩, ⟨some 13, .pur (.ld 2 true (.t 12)), none⟩, ⟨some 5, .new (.box (.k (.agg #[.int .i64 0, .int .i64 0]))), none⟩, ⟨some 4, .pur (.mv (.t 11)), none⟩, ⟨none, .eff (.st 2 (.t 5) (.t 13)), none⟩]
def u25_9 : IC := .seq (.reg u25_9r) u25_10
def u25_11r : List IOper := [⟨some 30, .pur (.bin .add (.t 9) (.k (.int .i64 1))), none⟩, ⟨some 9, .pur (.mv (.t 30)), none⟩]
def u25_11 : IC := .reg u25_11r
def u25_8 : IC := .seq (.blk 1 u25_9) u25_11
def u25_7 : IC := .seq (.cond (.t 10) .skip (.exit 0)) u25_8
def u25_6r : List IOper := [⟨some 10, .pur (.bin .lss (.t 9) (.t 8)), none⟩]
def u25_6 : IC := .seq (.reg u25_6r) u25_7
def u25_5 : IC := .blk 0 (.loop u25_6)
def u25_4r : List IOper := [⟨some 6, .pur (.fad 0 (.t 1)), none⟩, ⟨some 7, .pur (.ld 1 false (.t 6)), none⟩, ⟨some 8, .pur (.len (.t 7)), none⟩, ⟨some 9, .pur (.mv (.k (.int .i64 0))), none⟩]
def u25_4 : IC := .seq (.reg u25_4r) u25_5
def u25_12r : List IOper := [⟨some 31, .pur (.mv (.t 3)), none⟩, ⟨some 32, .call 50 [.t 31, .k (.string ⟨#[]⟩)], none⟩, ⟨some 2, .pur (.mv (.t 32)), none⟩]
def u25_12 : IC := .seq (.reg u25_12r) .ret
def u25_3 : IC := .seq u25_4 u25_12
def u25_2r : List IOper := [⟨some 3, .pur (.mv (.k (.slice none 0 0))), none⟩]
def u25_2 : IC := .seq (.reg u25_2r) u25_3
def u25_1r : List IOper := [⟨some 1, .new (.box (.t 0)), none⟩, ⟨some 2, .pur (.mv (.k (.string ⟨#[]⟩))), none⟩]
def u25_1 : IC := .seq (.reg u25_1r) u25_2
def u25 : IFn := ⟨33, u25_1, [.tmp 2]⟩
end
theorem isU25 : IsFn Tryd.prog 25 u25 := by unfold IsFn; kernel_rfl
instance i25_10 : WR Tryd.prog 33 u25_10 (rDE 17 u25_10r [3, 4, 5, 7, 8, 9]) := ⟨mkDE⟩
instance i25_9 : WR Tryd.prog 33 u25_9 (rS u25_9r u25_10 [3, 7, 8, 9]) := ⟨mkS⟩
instance i25_11 : WR Tryd.prog 33 u25_11 (rE u25_11r [3, 7, 8, 9]) := ⟨mkE⟩
instance i25_8 : WR Tryd.prog 33 u25_8 (rB 1 u25_9 u25_11 [3, 7, 8, 9]) := ⟨mkB⟩
instance i25_7 : WR Tryd.prog 33 u25_7 (rC (.t 10) .skip (.exit 0) u25_8 [3, 7, 8, 9, 10]) := ⟨mkC⟩
instance i25_6 : WR Tryd.prog 33 u25_6 (rS u25_6r u25_7 [3, 7, 8, 9]) := ⟨mkS⟩
instance i25_5 : WR Tryd.prog 33 u25_5 (rBE 0 (.loop u25_6) [3, 7, 8, 9]) := ⟨mkBE⟩
instance i25_4 : WR Tryd.prog 33 u25_4 (rS u25_4r u25_5 [1, 3]) := ⟨mkS⟩
instance i25_12 : WR Tryd.prog 33 u25_12 (rS u25_12r .ret [3]) := ⟨mkS⟩
instance i25_3 : WR Tryd.prog 33 u25_3 (rQ u25_4 u25_12 [1, 3]) := ⟨mkQ⟩
instance i25_2 : WR Tryd.prog 33 u25_2 (rS u25_2r u25_3 [1]) := ⟨mkS⟩
instance i25_1 : WR Tryd.prog 33 u25_1 (rS u25_1r u25_2 [0]) := ⟨mkS⟩
attribute [go_sem] u25_10r u25_9r u25_11r u25_6r u25_4r u25_12r u25_2r u25_1r
theorem dec_eq : ∀ (m u : Nat), u < m → Lib.decDigits u = decB u := by
  intro m
  induction m with
  | zero => intro u h; omega
  | succ m ih =>
    intro u h
    unfold Lib.decDigits
    by_cases h0 : u < 10
    · rw [dif_pos h0, decB_lt h0]; rfl
    · rw [dif_neg h0, decB_ge h0, ih (u / 10) (by omega)]; rfl
theorem c_ItoaS (i : Nat) (hi : i < 100) : PC Tryd.prog 49 [I64 (i : Int)] (.str (decI i)) := by
  refine PC.of_calls (by kernel_rfl) rfl rfl fun ρ w vs hf hA => ?_
  have hvs : vs = #[.int .i64 (i : Int)] := by
    obtain ⟨y, h1, h2⟩ := hA.get (i := 0) rfl
    have hs : vs.size = 1 := hA.1.symm
    cases h2
    cases vs with | mk l => match l, hs, h1 with
      | [a], _, h1 => simp at h1; subst h1; rfl
  rw [hvs]
  refine (Tryd.strconv_Itoa_small i hi w).mono ?_
  rintro e w' ⟨rfl, rfl⟩
  have e : decI (i : Int) = Lib.decDigits i := by rw [dec_eq (i + 1) i (by omega), decI, if_neg (by omega), Int.natAbs_natCast]
  exact ⟨_, rfl, fun ρ' => by rw [e]; exact .mkStr, Below.refl _ _⟩
theorem c_Join (l : List (List UInt8)) (h1 : l.length ≤ 140737488355328) (h2 : l.flatten.length ≤ 140737488355328) : PC Tryd.prog 50 [strs l, .str []] (.str l.flatten) := by
  refine PC.of_calls (by kernel_rfl) (by simp [DV.nlL, DV.nl, nlL_strs]) rfl fun ρ w vs hf hA => ?_
  obtain ⟨y, g1, g2⟩ := hA.get (i := 0) rfl
  obtain ⟨z, g3, g4⟩ := hA.get (i := 1) rfl
  obtain rfl := g4.str_inv
  have hvs : vs = #[y, .string ⟨#[]⟩] := by
    have hs : vs.size = 2 := hA.1.symm
    cases vs with | mk r => match r, hs, g1, g3 with
      | [a, b], _, h1, h3 => simp at h1 h3; subst h1 h3; rfl
  rw [hvs]
  rcases g2.lst_inv with ⟨e0, e1 | ⟨a, c, e1⟩⟩ | ⟨u, b, off, c, row, e1, e2, e3, e4, e5, e6⟩
  · subst e1
    have : l = [] := by simpa using e0
    subst this
    refine (Tryd.strings_Join_none none 0 ⟨#[]⟩ w).mono ?_
    rintro e w' ⟨rfl, rfl⟩
    exact ⟨_, rfl, fun ρ' => .mkStr, Below.refl _ _⟩
  · subst e1
    have : l = [] := by simpa using e0
    subst this
    refine (Tryd.strings_Join_none (some a) c ⟨#[]⟩ w).mono ?_
    rintro e w' ⟨rfl, rfl⟩
    exact ⟨_, rfl, fun ρ' => .mkStr, Below.refl _ _⟩
  · subst e1
    obtain ⟨e, fr, hb⟩ := hf b row e2
    obtain ⟨bs, hbs⟩ : ∃ bs : List ByteArray, bs = l.map fun s => (⟨s.toArray⟩ : ByteArray) := ⟨_, rfl⟩
    have hL : (l.map DV.str).length = bs.length := by rw [hbs]; simp
    have hmap : bs.map (fun x => x.data.toList) = l := by
      rw [hbs, List.map_map]
      exact (List.map_congr_left fun s _ => rfl).trans (List.map_id l)
    have hj : Lib.join l [] = l.flatten := by
      unfold Lib.join
      cases l with
      | nil => rfl
      | cons x r => exact (Lib.join_cons x r []).trans (by simp [Lib.joinTail])
    have hmap2 : bs.map (·.data.toList) = l := hmap
    have p1 : ∀ (j : Nat) x, bs[j]? = some x → w.cell? ⟨b, off + j, none⟩ = some (.string x) := by
      intro j x hx
      rw [hbs, List.getElem?_map] at hx
      obtain ⟨s, hs, rfl⟩ := Option.map_eq_some_iff.1 hx
      have hc : (cellsL (l.map DV.str))[j]? = some (DV.str s) := by rw [cellsL_map1 (fun _ => rfl), List.getElem?_map, hs]; rfl
      obtain ⟨v, v1, v2⟩ := e6.get hc
      rw [v2.str_inv] at v1
      simp only [World.cell?, hb]
      exact v1
    have p2 : b < w.heap.size := (Array.getElem?_eq_some_iff.1 hb).1
    have p3 : bs.length ≤ 140737488355328 := by rw [hbs]; simpa using h1
    have p4 : bs.length ≤ c := by rw [← hL]; exact e3
    have p5 : (Lib.join (bs.map (·.data.toList)) (⟨#[]⟩ : ByteArray).data.toList).length ≤ 140737488355328 := by
      rw [hmap2]; exact hj ▸ h2
    rw [hL]
    have key := Tryd.strings_Join b off c bs ⟨#[]⟩ w p1 p2 p3 p4 p5
    rw [hmap2] at key
    refine key.mono fun e w' hq => ⟨_, hq.1, fun ρ' => ?_, hq.2⟩
    have e7 : Lib.join l (⟨#[]⟩ : ByteArray).data.toList = l.flatten := hj
    rw [e7]; exact .mkStr
theorem c_ItoaS' (n : Int) (h0 : 0 ≤ n) (h1 : n < 100) : PC Tryd.prog 49 [I64 n] (.str (decI n)) := by
  obtain ⟨i, rfl⟩ : ∃ i : Nat, n = (i : Int) := ⟨n.toNat, by omega⟩
  exact c_ItoaS i (by omega)
theorem c_ListingS (c : Prg) (hl : c.instrs.length ≤ 100) (hb : ∀ i ∈ c.instrs, (0 ≤ i.op ∧ i.op < 100) ∧ 0 ≤ i.A ∧ i.A < 100) : PC Tryd.prog 25 [c.v] (.str (lstF c.instrs 0)) := by
  refine PC.of mixedU isU25 (Nat.le_of_ble_eq_true rfl) (by simp [DV.nlL, DV.nl, nlL_ints, nlL_strs, nlL_instrs, nlL_entries, nlL_stp]) (by simp [DV.nlL, DV.nl, nlL_ints, nlL_strs, nlL_instrs, nlL_entries, nlL_stp]) ?_
  show IW Tryd.prog 33 u25_1 ⟨argT _, _, _⟩ (rt [.tmp 2] _)
  repeat' ((first | (with_reducible first | refine wr ?_ | refine i_ret ?_ | refine i_skip ?_ | refine i_exit ?_) | ((with_reducible first | refine k_cb ?_ ?_ | refine k_gb ?_ ?_ | refine k_gb' ?_ ?_) <;> (intro hb; try simp only [hb]))) <;> try simp only [go_sem, Nat.reduceAdd, Nat.reduceLeDiff, Nat.reduceEqDiff, Nat.reduceMul, Nat.reduceSub, ↓reduceIte, Int.reduceLT, Int.reduceLE, Int.reduceGT, Int.reduceGE, Nat.reduceLT, Nat.reduceGT, Int.reduceToNat, reduceCtorEq, Nat.reduceBEq, Int.reduceBEq, Int.reduceBNe, Int.reduceEq, Int.reduceNe, decide_true, decide_false])
  refine i_loop (fun q : Nat × Option Nat => [(3, todoV q.2 q.1), (7, inssV c.instrs), (8, I64 c.instrs.length), (9, I64 q.1)]) (fun q => optH Sym.nil q.2 ⟨1, true, cellsL ((lnM (c.instrs.take q.1) 0).map DV.str)⟩) (fun q cc => q.1 ≤ c.instrs.length ∧ (q.2 = none → q.1 = 0) ∧ ∀ i, q.2 = some i → i < cc) (fun q => c.instrs.length - q.1) (0, none)
    (by simp [tmLe, tm, Tm.upd, todoV]) (Sub.nil _) ⟨by simp, by simp, by simp⟩ ?_
  rintro ⟨k, o⟩ cc ⟨hk, hno, hso⟩
  simp only at hk hno hso
  have hkl : (lnM (c.instrs.take k) 0).length = k := by rw [lnM_len, List.length_take]; omega
  by_cases hlt : k < c.instrs.length
  · have hd : decide ((k : Int) < c.instrs.length) = true := by simpa using hlt
    have hg := List.getElem?_eq_getElem hlt
    have hw : IntKind.i64.wrap ((k : Int) + 1) = ((k + 1 : Nat) : Int) := by rw [w64 (by omega) (by omega)]; omega
    have hx := hb _ (List.getElem_mem hlt)
    have l1 := decI_len (n := (k : Int)) (by omega) (by omega)
    have l2 := decI_len (n := c.instrs[k].op) (by omega) (by omega)
    have l3 := decI_len (n := c.instrs[k].A) (by omega) (by omega)
    have a1 := sadd (s := decI k) (t := [32]) (by first | omega | (simp only [List.length_append, List.length_singleton]; omega))
    have a2 := sadd (s := decI k ++ [32]) (t := decI c.instrs[k].op) (by first | omega | (simp only [List.length_append, List.length_singleton]; omega))
    have a3 := sadd (s := decI k ++ [32] ++ decI c.instrs[k].op) (t := [32]) (by first | omega | (simp only [List.length_append, List.length_singleton]; omega))
    have a4 := sadd (s := decI k ++ [32] ++ decI c.instrs[k].op ++ [32]) (t := decI c.instrs[k].A) (by first | omega | (simp only [List.length_append, List.length_singleton]; omega))
    have a5 := sadd (s := decI k ++ [32] ++ decI c.instrs[k].op ++ [32] ++ decI c.instrs[k].A) (t := [10]) (by first | omega | (simp only [List.length_append, List.length_singleton]; omega))
    have est : cellsL ((lnM (c.instrs.take (k + 1)) 0).map DV.str) = cellsL ((lnM (c.instrs.take k) 0).map DV.str) ++ [DV.str (lineB k c.instrs[k])] := by
      rw [lnM_step hg, List.map_append, cellsL_append]; rfl
    have hL := strC_len (lnM (c.instrs.take k) 0)
    rw [hkl] at hL
    have fa1 : ¬cc + 1 = cc := by omega
    have fa2 : ¬cc + 2 = cc := by omega
    have fa3 : ¬cc + 3 = cc := by omega
    have fa4 : ¬cc + 4 = cc := by omega
    have fa5 : ¬cc + 5 = cc := by omega
    have fa6 : ¬cc + 6 = cc := by omega
    have fa7 : ¬cc + 7 = cc := by omega
    have fa8 : ¬cc + 8 = cc := by omega
    have fa9 : ¬cc + 9 = cc := by omega
    have fa10 : ¬cc + 10 = cc := by omega
    have fa11 : ¬cc + 11 = cc := by omega
    have fa12 : ¬cc + 12 = cc := by omega
    have fa13 : ¬cc + 13 = cc := by omega
    have fa14 : ¬cc + 14 = cc := by omega
    have fa15 : ¬cc + 15 = cc := by omega
    have fa16 : ¬cc + 16 = cc := by omega
    have fa17 : ¬cc + 17 = cc := by omega
    have fa18 : ¬cc + 18 = cc := by omega
    rcases o with _ | id
    · obtain rfl := hno rfl
      repeat' ((first | (with_reducible first | refine wr ?_ | refine i_ret ?_ | refine i_skip ?_ | refine i_exit ?_) | ((with_reducible first | refine k_cb ?_ ?_ | refine k_gb ?_ ?_ | refine k_gb' ?_ ?_) <;> (intro hb; try simp only [hb])) | ((with_reducible refine k_eval (r_appn' (by decide) (by decide) (by decide)) ?_)) | ((with_reducible refine x_eval (r_appn' (by decide) (by decide) (by decide)) ?_)) | ((with_reducible refine AC.call ((c_ItoaS' ((0 : Nat) : Int) (by omega) (by omega)).at _ _) ?_); rintro _ _ _ ⟨rfl, rfl, rfl⟩ -) | ((with_reducible refine AC.call ((c_ItoaS' _ hx.1.1 hx.1.2).at _ _) ?_); rintro _ _ _ ⟨rfl, rfl, rfl⟩ -) | ((with_reducible refine AC.call ((c_ItoaS' _ hx.2.1 hx.2.2).at _ _) ?_); rintro _ _ _ ⟨rfl, rfl, rfl⟩ -)) <;> try simp only [go_sem, Nat.reduceAdd, Nat.reduceLeDiff, Nat.reduceEqDiff, Nat.reduceMul, Nat.reduceSub, ↓reduceIte, Int.reduceLT, Int.reduceLE, Int.reduceGT, Int.reduceGE, Nat.reduceLT, Nat.reduceGT, Int.reduceToNat, reduceCtorEq, Nat.reduceBEq, Int.reduceBEq, Int.reduceBNe, Int.reduceEq, Int.reduceNe, decide_true, decide_false, hd, hg, hw, a1, a2, a3, a4, a5, fa1, fa2, fa3, fa4, fa5, fa6, fa7, fa8, fa9, fa10, fa11, fa12, fa13, fa14, fa15, fa16, fa17, fa18])
      have est0 : cellsL ((lnM (c.instrs.take 1) 0).map DV.str) = [DV.str (decI ((0 : Nat) : Int) ++ ([32] : List UInt8) ++ decI (c.instrs[0]'hlt).op ++ ([32] : List UInt8) ++ decI (c.instrs[0]'hlt).A ++ ([10] : List UInt8))] := est
      exact ⟨(1, some (cc + 1 + 17)), ⟨rfl, rfl⟩, by simp only [est0]; (intro j b hj; simp only [optH, Hp.upd, Hp.del, Sym.nil] at hj ⊢; (repeat' split at hj) <;> (repeat' split) <;> first | exact hj | (exfalso; omega) | cases hj), inv ⟨hlt, by simp, fun i hi => by cases hi; omega⟩, by simp only; omega⟩
    · have hid := hso id rfl
      have fb1 : ¬cc + 1 = id := by omega
      have fb2 : ¬cc + 2 = id := by omega
      have fb3 : ¬cc + 3 = id := by omega
      have fb4 : ¬cc + 4 = id := by omega
      have fb5 : ¬cc + 5 = id := by omega
      have fb6 : ¬cc + 6 = id := by omega
      have fb7 : ¬cc + 7 = id := by omega
      have fb8 : ¬cc + 8 = id := by omega
      have fb9 : ¬cc + 9 = id := by omega
      have fb10 : ¬cc + 10 = id := by omega
      have fb11 : ¬cc + 11 = id := by omega
      have fb12 : ¬cc + 12 = id := by omega
      have fb13 : ¬cc + 13 = id := by omega
      have fb14 : ¬cc + 14 = id := by omega
      have fb15 : ¬cc + 15 = id := by omega
      have fb16 : ¬cc + 16 = id := by omega
      have fb17 : ¬cc + 17 = id := by omega
      have fb18 : ¬cc + 18 = id := by omega
      have fb0 : ¬cc = id := by omega
      have fc1 : ¬id = cc + 1 := by omega
      have fc2 : ¬id = cc + 2 := by omega
      have fc3 : ¬id = cc + 3 := by omega
      have fc4 : ¬id = cc + 4 := by omega
      have fc5 : ¬id = cc + 5 := by omega
      have fc6 : ¬id = cc + 6 := by omega
      have fc7 : ¬id = cc + 7 := by omega
      have fc8 : ¬id = cc + 8 := by omega
      have fc9 : ¬id = cc + 9 := by omega
      have fc10 : ¬id = cc + 10 := by omega
      have fc11 : ¬id = cc + 11 := by omega
      have fc12 : ¬id = cc + 12 := by omega
      have fc13 : ¬id = cc + 13 := by omega
      have fc14 : ¬id = cc + 14 := by omega
      have fc15 : ¬id = cc + 15 := by omega
      have fc16 : ¬id = cc + 16 := by omega
      have fc17 : ¬id = cc + 17 := by omega
      have fc18 : ¬id = cc + 18 := by omega
      have fc0 : ¬id = cc := by omega
      repeat' ((first | (with_reducible first | refine wr ?_ | refine i_ret ?_ | refine i_skip ?_ | refine i_exit ?_) | ((with_reducible first | refine k_cb ?_ ?_ | refine k_gb ?_ ?_ | refine k_gb' ?_ ?_) <;> (intro hb; try simp only [hb])) | ((with_reducible refine k_eval (b_appx hL (by omega) (by omega)) ?_)) | ((with_reducible refine x_eval (b_appx hL (by omega) (by omega)) ?_)) | ((with_reducible refine AC.call ((c_ItoaS' (k : Int) (by omega) (by omega)).at _ _) ?_); rintro _ _ _ ⟨rfl, rfl, rfl⟩ -) | ((with_reducible refine AC.call ((c_ItoaS' _ hx.1.1 hx.1.2).at _ _) ?_); rintro _ _ _ ⟨rfl, rfl, rfl⟩ -) | ((with_reducible refine AC.call ((c_ItoaS' _ hx.2.1 hx.2.2).at _ _) ?_); rintro _ _ _ ⟨rfl, rfl, rfl⟩ -)) <;> try simp only [go_sem, Nat.reduceAdd, Nat.reduceLeDiff, Nat.reduceEqDiff, Nat.reduceMul, Nat.reduceSub, ↓reduceIte, Int.reduceLT, Int.reduceLE, Int.reduceGT, Int.reduceGE, Nat.reduceLT, Nat.reduceGT, Int.reduceToNat, reduceCtorEq, Nat.reduceBEq, Int.reduceBEq, Int.reduceBNe, Int.reduceEq, Int.reduceNe, decide_true, decide_false, hd, hg, hw, a1, a2, a3, a4, a5, fa1, fa2, fa3, fa4, fa5, fa6, fa7, fa8, fa9, fa10, fa11, fa12, fa13, fa14, fa15, fa16, fa17, fa18, fb0, fc0, fb1, fc1, fb2, fc2, fb3, fc3, fb4, fc4, fb5, fc5, fb6, fc6, fb7, fc7, fb8, fc8, fb9, fc9, fb10, fc10, fb11, fc11, fb12, fc12, fb13, fc13, fb14, fc14, fb15, fc15, fb16, fc16, fb17, fc17, fb18, fc18])
      exact ⟨(k + 1, some (cc + 1 + 17)), ⟨rfl, rfl⟩, by simp only [est, lineB]; (intro j b hj; simp only [optH, Hp.upd, Hp.del, Sym.nil] at hj ⊢; (repeat' split at hj) <;> (repeat' split) <;> first | exact hj | (exfalso; omega) | cases hj), inv ⟨hlt, by simp, fun i hi => by cases hi; omega⟩, by simp only; omega⟩
  have hd : decide ((k : Int) < c.instrs.length) = false := by simpa using hlt
  rw [List.take_of_length_le (by omega)] at hkl ⊢
  have hll := lstF_len c.instrs 0 (by omega) (fun i hi => by have := hb i hi; exact ⟨⟨by omega, by omega⟩, by omega, by omega⟩)
  have hj := c_Join (lnM c.instrs 0) (by omega) (by rw [lnM_flat]; omega)
  rw [lnM_flat] at hj
  have hkn : k = c.instrs.length := by omega
  rcases o with _ | id
  · have hk0 := hno rfl
    have h00 : c.instrs = [] := List.eq_nil_of_length_eq_zero (by omega)
    repeat' ((first | (with_reducible first | refine wr ?_ | refine i_ret ?_ | refine i_skip ?_ | refine i_exit ?_) | ((with_reducible first | refine k_cb ?_ ?_ | refine k_gb ?_ ?_ | refine k_gb' ?_ ?_) <;> (intro hb; try simp only [hb]))) <;> try simp only [go_sem, Nat.reduceAdd, Nat.reduceLeDiff, Nat.reduceEqDiff, Nat.reduceMul, Nat.reduceSub, ↓reduceIte, Int.reduceLT, Int.reduceLE, Int.reduceGT, Int.reduceGE, Nat.reduceLT, Nat.reduceGT, Int.reduceToNat, reduceCtorEq, Nat.reduceBEq, Int.reduceBEq, Int.reduceBNe, Int.reduceEq, Int.reduceNe, decide_true, decide_false, hd])
    refine AC.call (hj.give (H0 := Sym.nil) ⟨fun _ h => h, fun ρ w vs h1 h2 => ⟨ρ, rfl, h1, ?_, Ext.refl _ _ _⟩⟩) ?_
    · rw [h00]
      exact ⟨h2.1, fun i x y hx hy => by
        match i with
        | 0 => cases hx; exact (h2.2 0 _ y rfl hy).snil_lst
        | 1 => cases hx; exact h2.2 1 _ y rfl hy
        | _ + 2 => cases hx⟩
    · rintro v H' c' ⟨rfl, rfl, rfl⟩ -
      simp only [go_sem, Nat.reduceAdd, Nat.reduceLeDiff, Nat.reduceEqDiff, Nat.reduceMul, Nat.reduceSub, ↓reduceIte, Int.reduceLT, Int.reduceLE, Int.reduceGT, Int.reduceGE, Nat.reduceLT, Nat.reduceGT, Int.reduceToNat, reduceCtorEq, Nat.reduceBEq, Int.reduceBEq, Int.reduceBNe, Int.reduceEq, Int.reduceNe, decide_true, decide_false]
      repeat' ((first | (with_reducible first | refine wr ?_ | refine i_ret ?_ | refine i_skip ?_ | refine i_exit ?_) | ((with_reducible first | refine k_cb ?_ ?_ | refine k_gb ?_ ?_ | refine k_gb' ?_ ?_) <;> (intro hb; try simp only [hb]))) <;> try simp only [go_sem, Nat.reduceAdd, Nat.reduceLeDiff, Nat.reduceEqDiff, Nat.reduceMul, Nat.reduceSub, ↓reduceIte, Int.reduceLT, Int.reduceLE, Int.reduceGT, Int.reduceGE, Nat.reduceLT, Nat.reduceGT, Int.reduceToNat, reduceCtorEq, Nat.reduceBEq, Int.reduceBEq, Int.reduceBNe, Int.reduceEq, Int.reduceNe, decide_true, decide_false])
      exact pc_ret rfl
  · repeat' ((first | (with_reducible first | refine wr ?_ | refine i_ret ?_ | refine i_skip ?_ | refine i_exit ?_) | ((with_reducible first | refine k_cb ?_ ?_ | refine k_gb ?_ ?_ | refine k_gb' ?_ ?_) <;> (intro hb; try simp only [hb]))) <;> try simp only [go_sem, Nat.reduceAdd, Nat.reduceLeDiff, Nat.reduceEqDiff, Nat.reduceMul, Nat.reduceSub, ↓reduceIte, Int.reduceLT, Int.reduceLE, Int.reduceGT, Int.reduceGE, Nat.reduceLT, Nat.reduceGT, Int.reduceToNat, reduceCtorEq, Nat.reduceBEq, Int.reduceBEq, Int.reduceBNe, Int.reduceEq, Int.reduceNe, decide_true, decide_false, hd])
    refine AC.call (hj.give (H0 := Sym.nil) (GL.one (id := id) h_same rfl (.cons _ _ _ _ (fz_slc (u := 1) (by rw [List.length_map, hkl]) (str_unit _) ⟨[], by simp⟩) (.cons _ _ _ _ (.same _) .nil)))) ?_
    rintro v H' c' ⟨rfl, rfl, rfl⟩ -
    simp only [go_sem, Nat.reduceAdd, Nat.reduceLeDiff, Nat.reduceEqDiff, Nat.reduceMul, Nat.reduceSub, ↓reduceIte, Int.reduceLT, Int.reduceLE, Int.reduceGT, Int.reduceGE, Nat.reduceLT, Nat.reduceGT, Int.reduceToNat, reduceCtorEq, Nat.reduceBEq, Int.reduceBEq, Int.reduceBNe, Int.reduceEq, Int.reduceNe, decide_true, decide_false]
    repeat' ((first | (with_reducible first | refine wr ?_ | refine i_ret ?_ | refine i_skip ?_ | refine i_exit ?_) | ((with_reducible first | refine k_cb ?_ ?_ | refine k_gb ?_ ?_ | refine k_gb' ?_ ?_) <;> (intro hb; try simp only [hb]))) <;> try simp only [go_sem, Nat.reduceAdd, Nat.reduceLeDiff, Nat.reduceEqDiff, Nat.reduceMul, Nat.reduceSub, ↓reduceIte, Int.reduceLT, Int.reduceLE, Int.reduceGT, Int.reduceGE, Nat.reduceLT, Nat.reduceGT, Int.reduceToNat, reduceCtorEq, Nat.reduceBEq, Int.reduceBEq, Int.reduceBNe, Int.reduceEq, Int.reduceNe, decide_true, decide_false])
    exact pc_ret rfl
end Go.Proofs.YtcallbfckjlagaaDoor
set_option maxHeartbeats 4000000
set_option maxRecDepth 100000
set_option linter.unusedSimpArgs false
set_option linter.unusedVariables false
namespace Go.Proofs.YtcallbfckjlagaaDoor
open Go.Eng (IC IOper DReg IFn IsFn Callable)
open Go.Sym Go.Pb Go.RowKit
noncomputable section
def u13_9r : List IOper := [⟨some 44, .pur (.mv (.t 3)), none⟩, ⟨some 45, .pur (.bin .eql (.t 44) (.k (.int .i64 0))), none⟩, ⟨some 46, .pur (.mv (.t 45)), none⟩, ⟨some 47, .pur (.mv (.t 2)), some (46, true)⟩, ⟨some 48, .new (.bsl 1 3 #[.int .i64 0] [(0, .k (.int .i64 0)), (1, .k (.int .i64 1)), (2, .k (.int .i64 0))]), some (46, true)⟩, ⟨some 49, .call 24 [.t 47, .t 48], some (46, true)⟩, ⟨some 50, .pur (.pick (.t 46) (.t 49) (.k (.bool false))), none⟩, ⟨some 51, .pur (.mv (.t 50)), none⟩, ⟨some 52, .pur (.ld 7 true (.t 4)), some (51, true)⟩, ⟨some 53, .call 14 [.t 52], some (51, true)⟩, ⟨some 54, .pur (.bin .eql (.t 53) (.k (.int .i64 53))), some (51, true)⟩, ⟨some 55, .pur (.pick (.t 51) (.t 54) (.k (.bool false))), none⟩, ⟨some 56, .pur (.mv (.t 55)), none⟩, ⟨some 57, .pur (.mv (.t 6)), some (56, true)⟩, ⟨some 58, .pur (.bin .eql (.t 57) (.k (.int .i64 0))), some (56, true)⟩, ⟨some 59, .pur (.pick (.t 56) (.t 58) (.k (.bool false))), none⟩, ⟨some 60, .pur (.mv (.t 59)), none⟩, ⟨some 61, .pur (.mv (.t 5)), some (60, true)⟩, ⟨some 62, .pur (.lens (.t 61)), some (60, true)⟩, ⟨some 63, .pur (.bin .eql (.t 62) (.k (.int .i64 18))), some (60, true)⟩, ⟨some 64, .pur (.pick (.t 60) (.t 63) (.k (.bool false))), none⟩, ⟨some 65, .pur (.mv (.t 64)), none⟩, ⟨some 66, .pur (.mv (.t 8)), some (65, true)⟩, ⟨some 67, .pur (.bin .eql (.t 66) (.k (.int .i64 0))), some (65, true)⟩, ⟨some 68, .pur (.pick (.t 65) (.t 67) (.k (.bool false))), none⟩, ⟨some 69, .pur (.mv (.t 68)), none⟩, ⟨some 70, .pur (.ld 7 true (.t 7)), some (69, true)⟩, ⟨some 71, .pur (.ld 7 true (.t 1)), some (69, true)⟩, ⟨some 72, .call 18 [.t 70, .t 71], some (69, true)⟩, ⟨some 73, .pur (.pick (.t 69) (.t 72) (.k (.bool false))), none⟩, ⟨some 74, .pur (.mv (.t 73)), none⟩, ⟨some 75, .pur (.mv (.t 9)), some (74, true)⟩, ⟨some 76, .pur (.bin .eql (.t 75) (.k (.int .i64 0))), some (74, true)⟩, ⟨some 77, .pur (.pick (.t 74) (.t 76) (.k (.bool false))), none⟩, ⟨some 78, .pur (.mv (.t 77)), none⟩, ⟨some 79, .pur (.mv (.t 10)), some (78, true)⟩, ⟨some 80, .pur (.pick (.t 78) (.t 79) (.k (.bool false))), none⟩, ⟨some 81, .pur (.mv (.t 80)), none⟩, ⟨some 82, .pur (.ld 7 true (.t 4)), some (81, true)⟩, ⟨some 83, .call 25 [.t 82], some (81, true)⟩, ⟨some 84, .pur (.bin .eql (.t 83) (.k (.string ⟨#[48, 32, 49, 53, 32, 48, 10, 49, 32, 51, 49, 32, 48, 10]⟩))), some (81, true)⟩, ⟨some 85, .pur (.pick (.t 81) (.t 84) (.k (.bool false))), none⟩, ⟨some 0, .pur (.mv (.t 85)), none⟩]
def u13_9 : IC := .seq (.reg u13_9r) .ret
def u13_8r : List IOper := [⟨some 40, .pur (.ld 7 true (.t 1)), none⟩, ⟨some 41, .call 29 [.t 40, .k (.int .i64 0), .k (.int .i64 1), .k (.int .i64 0)], none⟩, ⟨some 39, .pur (.mv (.t 41)), none⟩, ⟨some 42, .pur (.ext (.t 39) 0), none⟩, ⟨some 43, .pur (.ext (.t 39) 1), none⟩, ⟨some 9, .pur (.mv (.t 42)), none⟩, ⟨some 10, .pur (.mv (.t 43)), none⟩]
def u13_8 : IC := .seq (.reg u13_8r) u13_9
def u13_7r : List IOper := [⟨some 35, .pur (.mv (.t 5)), none⟩, ⟨some 36, .call 16 [.t 35], none⟩, ⟨some 34, .pur (.mv (.t 36)), none⟩, ⟨some 37, .pur (.ext (.t 34) 0), none⟩, ⟨some 38, .pur (.ext (.t 34) 1), none⟩, ⟨some 7, .new (.box (.k (.agg #[.slice none 0 0, .slice none 0 0, .slice none 0 0, .slice none 0 0, .slice none 0 0, .int .i64 0, .int .i64 0]))), none⟩, ⟨none, .eff (.st 7 (.t 7) (.t 37)), none⟩, ⟨some 8, .pur (.mv (.t 38)), none⟩]
def u13_7 : IC := .seq (.reg u13_7r) u13_8
def u13_6r : List IOper := [⟨some 30, .pur (.ld 7 true (.t 1)), none⟩, ⟨some 31, .call 19 [.t 30], none⟩, ⟨some 29, .pur (.mv (.t 31)), none⟩, ⟨some 32, .pur (.ext (.t 29) 0), none⟩, ⟨some 33, .pur (.ext (.t 29) 1), none⟩, ⟨some 5, .pur (.mv (.t 32)), none⟩, ⟨some 6, .pur (.mv (.t 33)), none⟩]
def u13_6 : IC := .seq (.reg u13_6r) u13_7
def u13_5r : List IOper := [⟨some 25, .pur (.fad 0 (.t 1)), none⟩, ⟨some 26, .pur (.ld 1 false (.t 25)), none⟩, ⟨some 27, .pur (.slc 2 (.t 26) (some (.k (.int .i64 1))) none), none⟩, ⟨some 28, .pur (.fad 0 (.t 4)), none⟩, ⟨none, .eff (.st 1 (.t 28) (.t 27)), none⟩]
def u13_5 : IC := .seq (.reg u13_5r) u13_6
def u13_4r : List IOper := [⟨some 24, .pur (.ld 7 true (.t 1)), none⟩, ⟨some 4, .new (.box (.k (.agg #[.slice none 0 0, .slice none 0 0, .slice none 0 0, .slice none 0 0, .slice none 0 0, .int .i64 0, .int .i64 0]))), none⟩, ⟨none, .eff (.st 7 (.t 4) (.t 24)), none⟩]
def u13_4 : IC := .seq (.reg u13_4r) u13_5
def u13_3r : List IOper := [⟨some 20, .pur (.ld 7 true (.t 1)), none⟩, ⟨some 21, .call 20 [.t 20], none⟩, ⟨some 19, .pur (.mv (.t 21)), none⟩, ⟨some 22, .pur (.ext (.t 19) 0), none⟩, ⟨some 23, .pur (.ext (.t 19) 1), none⟩, ⟨some 2, .pur (.mv (.t 22)), none⟩, ⟨some 3, .pur (.mv (.t 23)), none⟩]
def u13_3 : IC := .seq (.reg u13_3r) u13_4
def u13_2r : List IOper := [⟨some 11, .pur (.bld #[.int .i64 0, .int .i64 0] [(0, 1), (1, 1)] [(0, .k (.int .i64 1)), (1, .k (.int .i64 5))]), none⟩, ⟨some 12, .pur (.bld #[.int .i64 0, .int .i64 0] [(0, 1), (1, 1)] [(0, .k (.int .i64 15))]), none⟩, ⟨some 13, .pur (.bld #[.int .i64 0, .int .i64 0] [(0, 1), (1, 1)] [(0, .k (.int .i64 31))]), none⟩, ⟨some 14, .new (.bsl 2 3 #[.int .i64 0, .int .i64 0] [(0, .t 11), (1, .t 12), (2, .t 13)]), none⟩, ⟨some 15, .pur (.bld #[.int .i64 0, .int .i64 0, .int .i64 0, .int .i64 0] [(0, 1), (1, 1), (2, 1), (3, 1)] [(1, .k (.int .i64 1))]), none⟩, ⟨some 16, .new (.bsl 4 1 #[.int .i64 0, .int .i64 0, .int .i64 0, .int .i64 0] [(0, .t 15)]), none⟩, ⟨some 17, .new (.bsl 1 1 #[.int .i64 0] [(0, .k (.int .i64 1))]), none⟩, ⟨some 18, .pur (.bld #[.slice none 0 0, .slice none 0 0, .slice none 0 0, .slice none 0 0, .slice none 0 0, .int .i64 0, .int .i64 0] [(0, 1), (1, 1), (2, 1), (3, 1), (4, 1), (5, 1), (6, 1)] [(0, .t 14), (2, .t 16), (3, .t 17)]), none⟩, ⟨some 1, .new (.box (.k (.agg #[.slice none 0 0, .slice none 0 0, .slice none 0 0, .slice none 0 0, .slice none 0 0, .int .i64 0, .int .i64 0]))), none⟩, ⟨none, .eff (.st 7 (.t 1) (.t 18)), none⟩]
def u13_2 : IC := .seq (.reg u13_2r) u13_3
def u13_1r : List IOper := [⟨some 0, .pur (.mv (.k (.bool false))), none⟩]
def u13_1 : IC := .seq (.reg u13_1r) u13_2
def u13 : IFn := ⟨86, u13_1, [.tmp 0]⟩
end
theorem isU13 : IsFn Tryd.prog 13 u13 := by unfold IsFn; kernel_rfl
instance i13_9 : WR Tryd.prog 86 u13_9 (rS u13_9r .ret [1, 2, 3, 4, 5, 6, 7, 8, 9, 10]) := ⟨mkS⟩
instance i13_8 : WR Tryd.prog 86 u13_8 (rS u13_8r u13_9 [1, 2, 3, 4, 5, 6, 7, 8]) := ⟨mkS⟩
instance i13_7 : WR Tryd.prog 86 u13_7 (rS u13_7r u13_8 [1, 2, 3, 4, 5, 6]) := ⟨mkS⟩
instance i13_6 : WR Tryd.prog 86 u13_6 (rS u13_6r u13_7 [1, 2, 3, 4]) := ⟨mkS⟩
instance i13_5 : WR Tryd.prog 86 u13_5 (rS u13_5r u13_6 [1, 2, 3, 4]) := ⟨mkS⟩
instance i13_4 : WR Tryd.prog 86 u13_4 (rS u13_4r u13_5 [1, 2, 3]) := ⟨mkS⟩
instance i13_3 : WR Tryd.prog 86 u13_3 (rS u13_3r u13_4 [1]) := ⟨mkS⟩
instance i13_2 : WR Tryd.prog 86 u13_2 (rS u13_2r u13_3 []) := ⟨mkS⟩
instance i13_1 : WR Tryd.prog 86 u13_1 (rS u13_1r u13_2 []) := ⟨mkS⟩
attribute [go_sem] u13_9r u13_8r u13_7r u13_6r u13_5r u13_4r u13_3r u13_2r u13_1r
def sn1 : Prg := ⟨[⟨1, 5⟩, ⟨15, 0⟩, ⟨31, 0⟩], [], [⟨0, 1, 0, 0⟩], [1], [], 0, 0⟩
def sn2 : Prg := ⟨[⟨15, 0⟩, ⟨31, 0⟩], [], [⟨0, 1, 0, 0⟩], [1], [], 0, 0⟩
theorem sn1_valid : validM sn1 = 0 := by decide +kernel
theorem sn2_valid : validM sn2 = 53 := by decide +kernel
theorem sn1_hts : vHts sn1 = [0, 1, 0] := by decide +kernel
theorem numI_lt {n : Int} (h : zig n < 128) : numI n = [UInt8.ofNat (zig n)] := numB_lt h
theorem sn1_enc : encV sn1 = [6, 2, 10, 30, 0, 62, 0, 0, 2, 0, 2, 0, 0, 2, 2, 0, 0, 0] := by
  rw [encV, if_pos sn1_valid]
  simp [encM, sn1, insB, entB, numsB, numI_lt, zig]
theorem sn1_dec : decP [6, 2, 10, 30, 0, 62, 0, 0, 2, 0, 2, 0, 0, 2, 2, 0, 0, 0] = some sn1 := by
  have e : rdPrg ([6, 2, 10, 30, 0, 62, 0, 0, 2, 0, 2, 0, 0, 2, 2, 0, 0, 0], false) = (sn1, ([], false)) := by decide +kernel
  rw [decP, e]
  simp [sn1_valid, sn1_enc]
theorem sn2_list : lstF sn2.instrs 0 = [48, 32, 49, 53, 32, 48, 10, 49, 32, 51, 49, 32, 48, 10] := by
  have d0 : decI 0 = [48] := by rw [decI, if_neg (by omega), decB_lt (by decide)]; rfl
  have d1 : decI 1 = [49] := by rw [decI, if_neg (by omega), decB_lt (by decide)]; rfl
  have d15 : decI 15 = [49, 53] := by rw [decI, if_neg (by omega), decB_ge (by decide), decB_lt (by decide)]; rfl
  have d31 : decI 31 = [51, 49] := by rw [decI, if_neg (by omega), decB_ge (by decide), decB_lt (by decide)]; rfl
  simp [lstF, sn2, lineB, d0, d1, d15, d31]
theorem c_sane : PC Tryd.prog 13 [] (.bool true) := by
  refine PC.of mixedU isU13 (Nat.le_of_ble_eq_true rfl) (by simp [DV.nlL, DV.nl, nlL_ints, nlL_strs, nlL_instrs, nlL_entries, nlL_stp]) (by simp [DV.nlL, DV.nl, nlL_ints, nlL_strs, nlL_instrs, nlL_entries, nlL_stp]) ?_
  show IW Tryd.prog 86 u13_1 ⟨argT _, _, _⟩ (rt [.tmp 0] _)
  repeat' ((first | (with_reducible first | refine wr ?_ | refine i_ret ?_ | refine i_skip ?_ | refine i_exit ?_) | ((with_reducible first | refine k_cb ?_ ?_ | refine k_gb ?_ ?_ | refine k_gb' ?_ ?_) <;> (intro hb; try simp only [hb]))) <;> try simp only [go_sem, Nat.reduceAdd, Nat.reduceLeDiff, Nat.reduceEqDiff, Nat.reduceMul, Nat.reduceSub, ↓reduceIte, Int.reduceLT, Int.reduceLE, Int.reduceGT, Int.reduceGE, Nat.reduceLT, Nat.reduceGT, Int.reduceToNat, reduceCtorEq, Nat.reduceBEq, Int.reduceBEq, Int.reduceBNe, Int.reduceEq, Int.reduceNe, decide_true, decide_false])
  refine AC.ghost ((g_one (a := 0) (k := 3) (u := 2) (u' := 2) (pre := []) (suf := [.snil, .slc 1 0 1, .slc 2 0 1, .snil, I64 0, I64 0]) (xs := sn1.instrs.map Ins.v) (junk := []) rfl rfl (by simp [DV.one]) rfl (ins_unit _) (by decide)).trans
    ((g_one (a := 1) (k := 3) (u := 4) (u' := 4) (pre := [inssV sn1.instrs, .snil]) (suf := [.slc 2 0 1, .snil, I64 0, I64 0]) (xs := sn1.entries.map Ent.v) (junk := []) rfl rfl (by simp [DV.one]) rfl (ent_unit _) (by decide)).trans
    ((g_one (a := 2) (k := 3) (u := 1) (u' := 1) (pre := [inssV sn1.instrs, .snil, entsV sn1.entries]) (suf := [.snil, I64 0, I64 0]) (xs := sn1.prios.map I64) (junk := []) rfl rfl (by simp [DV.one]) rfl (ints_unit _) (by decide)).trans
    ((g_nil (k := 3) (pre := [inssV sn1.instrs]) (suf := [entsV sn1.entries, ints sn1.prios, .snil, I64 0, I64 0]) rfl).trans
    ((g_nil (k := 3) (pre := [inssV sn1.instrs, strs [], entsV sn1.entries, ints sn1.prios]) (suf := [I64 0, I64 0]) rfl).trans
    (GL.less (H0 := Sym.nil.upd 3 ⟨0, true, [inssV sn1.instrs, strs [], entsV sn1.entries, ints sn1.prios, ints [], I64 0, I64 0]⟩) fun j => ?_)))))) ?_
  · by_cases ej : j = 3
    · subst ej; exact .inr rfl
    · left; rw [h_ne ej]; rfl
  have h18 : (((18 : Nat) : Int) == 18) = true := rfl
  have hsl : ∀ H, slcR H 2 (inssV sn1.instrs) (some (I64 1)) none = some (inssV sn2.instrs) := fun H => rfl
  refine AC.call ((c_Heights sn1 (by simp [sn1]) (by simp [sn1])).at _ _) ?_
  rintro _ _ _ ⟨rfl, rfl, rfl⟩ -
  rw [sn1_valid, sn1_hts]
  simp only [go_sem, Nat.reduceAdd, Nat.reduceLeDiff, Nat.reduceEqDiff, Nat.reduceMul, Nat.reduceSub, ↓reduceIte, Int.reduceLT, Int.reduceLE, Int.reduceGT, Int.reduceGE, Nat.reduceLT, Nat.reduceGT, Int.reduceToNat, reduceCtorEq, Nat.reduceBEq, Int.reduceBEq, Int.reduceBNe, Int.reduceEq, Int.reduceNe, decide_true, decide_false, h18]
  repeat' ((first | (with_reducible first | refine wr ?_ | refine i_ret ?_ | refine i_skip ?_ | refine i_exit ?_) | ((with_reducible first | refine k_cb ?_ ?_ | refine k_gb ?_ ?_ | refine k_gb' ?_ ?_) <;> (intro hb; try simp only [hb]))) <;> try simp only [go_sem, Nat.reduceAdd, Nat.reduceLeDiff, Nat.reduceEqDiff, Nat.reduceMul, Nat.reduceSub, ↓reduceIte, Int.reduceLT, Int.reduceLE, Int.reduceGT, Int.reduceGE, Nat.reduceLT, Nat.reduceGT, Int.reduceToNat, reduceCtorEq, Nat.reduceBEq, Int.reduceBEq, Int.reduceBNe, Int.reduceEq, Int.reduceNe, decide_true, decide_false, hsl, h18])
  refine AC.call ((c_Encode sn1 (by simp [sn1]) (by simp [sn1])).at _ _) ?_
  rintro _ _ _ ⟨rfl, rfl, rfl⟩ -
  rw [sn1_valid, sn1_enc]
  simp only [go_sem, Nat.reduceAdd, Nat.reduceLeDiff, Nat.reduceEqDiff, Nat.reduceMul, Nat.reduceSub, ↓reduceIte, Int.reduceLT, Int.reduceLE, Int.reduceGT, Int.reduceGE, Nat.reduceLT, Nat.reduceGT, Int.reduceToNat, reduceCtorEq, Nat.reduceBEq, Int.reduceBEq, Int.reduceBNe, Int.reduceEq, Int.reduceNe, decide_true, decide_false, h18]
  repeat' ((first | (with_reducible first | refine wr ?_ | refine i_ret ?_ | refine i_skip ?_ | refine i_exit ?_) | ((with_reducible first | refine k_cb ?_ ?_ | refine k_gb ?_ ?_ | refine k_gb' ?_ ?_) <;> (intro hb; try simp only [hb]))) <;> try simp only [go_sem, Nat.reduceAdd, Nat.reduceLeDiff, Nat.reduceEqDiff, Nat.reduceMul, Nat.reduceSub, ↓reduceIte, Int.reduceLT, Int.reduceLE, Int.reduceGT, Int.reduceGE, Nat.reduceLT, Nat.reduceGT, Int.reduceToNat, reduceCtorEq, Nat.reduceBEq, Int.reduceBEq, Int.reduceBNe, Int.reduceEq, Int.reduceNe, decide_true, decide_false, hsl, h18])
  refine AC.call ((c_Decode _ (by simp)).at _ _) ?_
  rintro _ _ _ ⟨rfl, rfl, rfl⟩ -
  have hdv : decV (some sn1) = .tup [.agg [inssV sn1.instrs, strs [], entsV sn1.entries, ints sn1.prios, ints [], I64 0, I64 0], I64 0] := rfl
  rw [sn1_dec, hdv]
  simp only [go_sem, Nat.reduceAdd, Nat.reduceLeDiff, Nat.reduceEqDiff, Nat.reduceMul, Nat.reduceSub, ↓reduceIte, Int.reduceLT, Int.reduceLE, Int.reduceGT, Int.reduceGE, Nat.reduceLT, Nat.reduceGT, Int.reduceToNat, reduceCtorEq, Nat.reduceBEq, Int.reduceBEq, Int.reduceBNe, Int.reduceEq, Int.reduceNe, decide_true, decide_false, h18]
  repeat' ((first | (with_reducible first | refine wr ?_ | refine i_ret ?_ | refine i_skip ?_ | refine i_exit ?_) | ((with_reducible first | refine k_cb ?_ ?_ | refine k_gb ?_ ?_ | refine k_gb' ?_ ?_) <;> (intro hb; try simp only [hb]))) <;> try simp only [go_sem, Nat.reduceAdd, Nat.reduceLeDiff, Nat.reduceEqDiff, Nat.reduceMul, Nat.reduceSub, ↓reduceIte, Int.reduceLT, Int.reduceLE, Int.reduceGT, Int.reduceGE, Nat.reduceLT, Nat.reduceGT, Int.reduceToNat, reduceCtorEq, Nat.reduceBEq, Int.reduceBEq, Int.reduceBNe, Int.reduceEq, Int.reduceNe, decide_true, decide_false, hsl, h18])
  refine AC.call ((c_Find sn1 (by simp [sn1]) 0 1 0).at _ _) ?_
  rintro _ _ _ ⟨rfl, rfl, rfl⟩ -
  have hfd : findV (findM 0 1 0 sn1.entries) = .tup [I64 0, .bool true] := rfl
  rw [hfd]
  simp only [go_sem, Nat.reduceAdd, Nat.reduceLeDiff, Nat.reduceEqDiff, Nat.reduceMul, Nat.reduceSub, ↓reduceIte, Int.reduceLT, Int.reduceLE, Int.reduceGT, Int.reduceGE, Nat.reduceLT, Nat.reduceGT, Int.reduceToNat, reduceCtorEq, Nat.reduceBEq, Int.reduceBEq, Int.reduceBNe, Int.reduceEq, Int.reduceNe, decide_true, decide_false, h18]
  repeat' ((first | (with_reducible first | refine wr ?_ | refine i_ret ?_ | refine i_skip ?_ | refine i_exit ?_) | ((with_reducible first | refine k_cb ?_ ?_ | refine k_gb ?_ ?_ | refine k_gb' ?_ ?_) <;> (intro hb; try simp only [hb]))) <;> try simp only [go_sem, Nat.reduceAdd, Nat.reduceLeDiff, Nat.reduceEqDiff, Nat.reduceMul, Nat.reduceSub, ↓reduceIte, Int.reduceLT, Int.reduceLE, Int.reduceGT, Int.reduceGE, Nat.reduceLT, Nat.reduceGT, Int.reduceToNat, reduceCtorEq, Nat.reduceBEq, Int.reduceBEq, Int.reduceBNe, Int.reduceEq, Int.reduceNe, decide_true, decide_false, hsl, h18])
  refine AC.call ((c_SameInts [0, 1, 0] [0, 1, 0] (by simp)).lend (H0 := Sym.nil) rfl (GL.one (id := 6) h_same rfl (.cons _ _ _ _ (.same _) (.cons _ _ _ _ (fz_slc (u := 1) rfl (ints_unit [0, 1, 0]) ⟨[], rfl⟩) .nil)))) ?_
  rintro _ _ _ ⟨rfl, rfl, rfl⟩ -
  simp only [go_sem, Nat.reduceAdd, Nat.reduceLeDiff, Nat.reduceEqDiff, Nat.reduceMul, Nat.reduceSub, ↓reduceIte, Int.reduceLT, Int.reduceLE, Int.reduceGT, Int.reduceGE, Nat.reduceLT, Nat.reduceGT, Int.reduceToNat, reduceCtorEq, Nat.reduceBEq, Int.reduceBEq, Int.reduceBNe, Int.reduceEq, Int.reduceNe, decide_true, decide_false, h18]
  repeat' ((first | (with_reducible first | refine wr ?_ | refine i_ret ?_ | refine i_skip ?_ | refine i_exit ?_) | ((with_reducible first | refine k_cb ?_ ?_ | refine k_gb ?_ ?_ | refine k_gb' ?_ ?_) <;> (intro hb; try simp only [hb]))) <;> try simp only [go_sem, Nat.reduceAdd, Nat.reduceLeDiff, Nat.reduceEqDiff, Nat.reduceMul, Nat.reduceSub, ↓reduceIte, Int.reduceLT, Int.reduceLE, Int.reduceGT, Int.reduceGE, Nat.reduceLT, Nat.reduceGT, Int.reduceToNat, reduceCtorEq, Nat.reduceBEq, Int.reduceBEq, Int.reduceBNe, Int.reduceEq, Int.reduceNe, decide_true, decide_false, hsl, h18])
  refine AC.call ((c_valid sn2 (by simp [sn2]) (by simp [sn2])).at _ _) ?_
  rintro _ _ _ ⟨rfl, rfl, rfl⟩ -
  rw [sn2_valid]
  simp only [go_sem, Nat.reduceAdd, Nat.reduceLeDiff, Nat.reduceEqDiff, Nat.reduceMul, Nat.reduceSub, ↓reduceIte, Int.reduceLT, Int.reduceLE, Int.reduceGT, Int.reduceGE, Nat.reduceLT, Nat.reduceGT, Int.reduceToNat, reduceCtorEq, Nat.reduceBEq, Int.reduceBEq, Int.reduceBNe, Int.reduceEq, Int.reduceNe, decide_true, decide_false, h18]
  repeat' ((first | (with_reducible first | refine wr ?_ | refine i_ret ?_ | refine i_skip ?_ | refine i_exit ?_) | ((with_reducible first | refine k_cb ?_ ?_ | refine k_gb ?_ ?_ | refine k_gb' ?_ ?_) <;> (intro hb; try simp only [hb]))) <;> try simp only [go_sem, Nat.reduceAdd, Nat.reduceLeDiff, Nat.reduceEqDiff, Nat.reduceMul, Nat.reduceSub, ↓reduceIte, Int.reduceLT, Int.reduceLE, Int.reduceGT, Int.reduceGE, Nat.reduceLT, Nat.reduceGT, Int.reduceToNat, reduceCtorEq, Nat.reduceBEq, Int.reduceBEq, Int.reduceBNe, Int.reduceEq, Int.reduceNe, decide_true, decide_false, hsl, h18])
  refine AC.call ((c_SameR sn1 sn1 (by simp [sn1]) (by simp [sn1]) (by simp [sn1]) (by simp [sn1]) (by simp [sn1])).at _ _) ?_
  rintro _ _ _ ⟨rfl, rfl, rfl⟩ -
  simp only [go_sem, Nat.reduceAdd, Nat.reduceLeDiff, Nat.reduceEqDiff, Nat.reduceMul, Nat.reduceSub, ↓reduceIte, Int.reduceLT, Int.reduceLE, Int.reduceGT, Int.reduceGE, Nat.reduceLT, Nat.reduceGT, Int.reduceToNat, reduceCtorEq, Nat.reduceBEq, Int.reduceBEq, Int.reduceBNe, Int.reduceEq, Int.reduceNe, decide_true, decide_false, h18]
  repeat' ((first | (with_reducible first | refine wr ?_ | refine i_ret ?_ | refine i_skip ?_ | refine i_exit ?_) | ((with_reducible first | refine k_cb ?_ ?_ | refine k_gb ?_ ?_ | refine k_gb' ?_ ?_) <;> (intro hb; try simp only [hb]))) <;> try simp only [go_sem, Nat.reduceAdd, Nat.reduceLeDiff, Nat.reduceEqDiff, Nat.reduceMul, Nat.reduceSub, ↓reduceIte, Int.reduceLT, Int.reduceLE, Int.reduceGT, Int.reduceGE, Nat.reduceLT, Nat.reduceGT, Int.reduceToNat, reduceCtorEq, Nat.reduceBEq, Int.reduceBEq, Int.reduceBNe, Int.reduceEq, Int.reduceNe, decide_true, decide_false, hsl, h18])
  refine AC.call ((c_ListingS sn2 (by simp [sn2]) (by simp [sn2])).at _ _) ?_
  rintro _ _ _ ⟨rfl, rfl, rfl⟩ -
  rw [sn2_list]
  simp only [go_sem, Nat.reduceAdd, Nat.reduceLeDiff, Nat.reduceEqDiff, Nat.reduceMul, Nat.reduceSub, ↓reduceIte, Int.reduceLT, Int.reduceLE, Int.reduceGT, Int.reduceGE, Nat.reduceLT, Nat.reduceGT, Int.reduceToNat, reduceCtorEq, Nat.reduceBEq, Int.reduceBEq, Int.reduceBNe, Int.reduceEq, Int.reduceNe, decide_true, decide_false, h18]
  repeat' ((first | (with_reducible first | refine wr ?_ | refine i_ret ?_ | refine i_skip ?_ | refine i_exit ?_) | ((with_reducible first | refine k_cb ?_ ?_ | refine k_gb ?_ ?_ | refine k_gb' ?_ ?_) <;> (intro hb; try simp only [hb]))) <;> try simp only [go_sem, Nat.reduceAdd, Nat.reduceLeDiff, Nat.reduceEqDiff, Nat.reduceMul, Nat.reduceSub, ↓reduceIte, Int.reduceLT, Int.reduceLE, Int.reduceGT, Int.reduceGE, Nat.reduceLT, Nat.reduceGT, Int.reduceToNat, reduceCtorEq, Nat.reduceBEq, Int.reduceBEq, Int.reduceBNe, Int.reduceEq, Int.reduceNe, decide_true, decide_false, hsl, h18])
  exact pc_ret rfl
end Go.Proofs.YtcallbfckjlagaaDoor
set_option linter.unusedVariables false
set_option linter.unusedSimpArgs false
namespace Go.Pb
open Go.Sym
theorem vHts_hts {c : Prg} (h0 : validM c = 0) : Hts c (vHts c) ∧ jumpsM c = true ∧ c.instrs.length ≤ 4000 := by
  obtain ⟨hL, hj, h, hh⟩ := valid_0 h0
  have hl := (Lim.of hL).li
  have hs := hR_says hl hj
  rw [hh] at hs
  have e : vHts c = h := by unfold vHts; rw [if_pos h0, hh]; rfl
  rw [e]; exact ⟨hs, hj, hl⟩
theorem safe_ent {c : Prg} (h0 : validM c = 0) {e : Ent} (he : e ∈ c.entries) : 0 ≤ e.pos ∧ e.pos.toNat < (vHts c).length ∧ (vHts c)[e.pos.toNat]? = some 0 := by
  obtain ⟨hH, hj, hl⟩ := vHts_hts h0
  have hb := ent_bd hj e he
  obtain ⟨h1, h2⟩ := hH.all _ _ (.ent he)
  refine ⟨by omega, ?_, h2⟩
  obtain ⟨hi, -⟩ := List.getElem?_eq_some_iff.1 h2
  exact hi
structure Safe (c : Prg) (i : Nat) (x : Int) : Prop where
  top : x ≤ 48
  ret : (c.ins i).op = 31 → x = 0
  nxt : (c.ins i).op ≠ 12 → (c.ins i).op ≠ 31 → ∃ y, (vHts c)[i + 1]? = some y ∧ 0 ≤ y
  jmp : (c.ins i).op = 12 → 0 ≤ (c.ins i).A ∧ (vHts c)[(c.ins i).A.toNat]? = some x
  brn : (c.ins i).op = 13 ∨ (c.ins i).op = 14 → 0 ≤ (c.ins i).A ∧ (vHts c)[(c.ins i).A.toNat]? = some (x - 1) ∧ 0 ≤ x - 1
  dn : (c.ins i).op = 3 ∨ (c.ins i).op = 15 ∨ (c.ins i).op = 11 → (vHts c)[i + 1]? = some (x - 1)
  up : (c.ins i).op = 1 → (vHts c)[i + 1]? = some (x + 1)
theorem safe_at {c : Prg} (h0 : validM c = 0) {i : Nat} {x : Int} (hx : (vHts c)[i]? = some x) (h : 0 ≤ x) : Safe c i x := by
  obtain ⟨hH, hj, hl⟩ := vHts_hts h0
  have hR : Rch c i x := by
    rcases hH.only _ _ hx with h1 | ⟨-, h2⟩
    · omega
    · exact h2
  obtain ⟨hO, -⟩ := hH.all _ _ hR
  obtain ⟨o1, o2, o3, o4⟩ := id hO
  have key : ∀ s ∈ afterM (c.ins i) i x, (vHts c)[s.1]? = some s.2 ∧ 0 ≤ s.2 := fun s hs => by
    obtain ⟨h1, h2⟩ := hH.all _ _ (.step hR hO hs)
    exact ⟨h2, h1.nn⟩
  have hm : c.ins i ∈ c.instrs := by
    show c.instrs.getD i ⟨0, 0⟩ ∈ c.instrs
    rw [List.getD, List.getElem?_eq_getElem o1]
    exact List.getElem_mem o1
  have hA := jump_bd hj _ hm
  refine ⟨o2, fun e => ?_, fun h1 h2 => ?_, fun e => ?_, fun e => ?_, fun e => ?_, fun e => ?_⟩
  · exact Classical.byContradiction fun hne => o4 ⟨e, hne⟩
  · unfold afterM at key
    rw [if_neg h2, if_neg h1] at key
    split at key
    · exact ⟨_, key _ List.mem_cons_self⟩
    · split at key
      · exact ⟨_, key _ List.mem_cons_self⟩
      · exact ⟨_, key _ List.mem_cons_self⟩
  · unfold afterM at key
    rw [if_neg (by omega), if_pos e] at key
    exact ⟨(hA (by omega)).1, (key _ List.mem_cons_self).1⟩
  · unfold afterM at key
    rw [if_neg (by omega), if_neg (by omega)] at key
    rcases e with e | e
    · rw [if_pos e] at key
      exact ⟨(hA (by omega)).1, key (_, _) (List.mem_cons_of_mem _ List.mem_cons_self)⟩
    · rw [if_neg (by omega), if_pos e] at key
      exact ⟨(hA (by omega)).1, key (_, _) (List.mem_cons_of_mem _ List.mem_cons_self)⟩
  · have k1 : afterM (c.ins i) i x = [(i + 1, x - 1)] := by
      unfold afterM
      rcases e with e | e | e <;> rw [e] <;> simp [effM] <;> omega
    rw [k1] at key
    exact (key _ List.mem_cons_self).1
  · have k1 : afterM (c.ins i) i x = [(i + 1, x + 1)] := by
      unfold afterM
      rw [e]; simp [effM]
    rw [k1] at key
    exact (key _ List.mem_cons_self).1
end Go.Pb
set_option maxHeartbeats 4000000
set_option maxRecDepth 100000
set_option linter.unusedSimpArgs false
set_option linter.unusedVariables false
namespace Go.Proofs.YtcallbfckjlagaaDoor
open Go.Eng (IC IOper DReg IFn IsFn)
open Go.Sym Go.Pb
noncomputable section
def u6_7r : List IOper := [⟨some 23, .call 13 [], none⟩, ⟨some 4, .pur (.mv (.t 23)), none⟩]
def u6_7 : IC := .seq (.reg u6_7r) .ret
def u6_6 : IC := .cond (.t 22) u6_7 .skip
def u6_5r : List IOper := [⟨some 21, .pur (.mv (.t 7)), none⟩, ⟨some 22, .pur (.bin .neq (.t 21) (.k (.int .i64 0))), none⟩]
def u6_5 : IC := .seq (.reg u6_5r) u6_6
def u6_11r : List IOper := [⟨some 4, .pur (.mv (.k (.bool false))), none⟩]
def u6_11 : IC := .seq (.reg u6_11r) .ret
def u6_10 : IC := .cond (.t 29) u6_11 .skip
def u6_9r : List IOper := [⟨some 24, .pur (.mv (.t 6)), none⟩, ⟨some 25, .pur (.len (.t 24)), none⟩, ⟨some 26, .pur (.fad 0 (.t 5)), none⟩, ⟨some 27, .pur (.ld 1 false (.t 26)), none⟩, ⟨some 28, .pur (.len (.t 27)), none⟩, ⟨some 29, .pur (.bin .neq (.t 25) (.t 28)), none⟩]
def u6_9 : IC := .seq (.reg u6_9r) u6_10
def u6_17 : IC := .cond (.t 34) .skip (.exit 0)
def u6_16r : List IOper := [⟨some 30, .pur (.mv (.t 8)), none⟩, ⟨some 31, .pur (.fad 2 (.t 5)), none⟩, ⟨some 32, .pur (.ld 1 false (.t 31)), none⟩, ⟨some 33, .pur (.len (.t 32)), none⟩, ⟨some 34, .pur (.bin .lss (.t 30) (.t 33)), none⟩]
def u6_16 : IC := .seq (.reg u6_16r) u6_17
def u6_22r : List IOper := [⟨some 4, .pur (.mv (.k (.bool false))), none⟩]
def u6_22 : IC := .seq (.reg u6_22r) .ret
def u6_21 : IC := .cond (.t 57) u6_22 .skip
def u6_20r : List IOper := [⟨some 43, .pur (.mv (.t 9)), none⟩, ⟨some 44, .pur (.bin .lss (.t 43) (.k (.int .i64 0))), none⟩, ⟨some 45, .pur (.mv (.t 44)), none⟩, ⟨some 46, .pur (.mv (.t 9)), some (45, false)⟩, ⟨some 47, .pur (.mv (.t 6)), some (45, false)⟩, ⟨some 48, .pur (.len (.t 47)), some (45, false)⟩, ⟨some 49, .pur (.bin .geq (.t 46) (.t 48)), some (45, false)⟩, ⟨some 50, .pur (.pick (.t 45) (.k (.bool true)) (.t 49)), none⟩, ⟨some 51, .pur (.mv (.t 50)), none⟩, ⟨some 52, .pur (.mv (.t 6)), some (51, false)⟩, ⟨some 53, .pur (.mv (.t 9)), some (51, false)⟩, ⟨some 54, .pur (.iad 1 (.t 52) (.t 53)), some (51, false)⟩, ⟨some 55, .pur (.ld 1 false (.t 54)), some (51, false)⟩, ⟨some 56, .pur (.bin .neq (.t 55) (.k (.int .i64 0))), some (51, false)⟩, ⟨some 57, .pur (.pick (.t 51) (.k (.bool true)) (.t 56)), none⟩]
def u6_20 : IC := .seq (.reg u6_20r) u6_21
def u6_19r : List IOper := [⟨some 37, .pur (.fad 2 (.t 5)), none⟩, ⟨some 38, .pur (.ld 1 false (.t 37)), none⟩, ⟨some 39, .pur (.mv (.t 8)), none⟩, ⟨some 40, .pur (.iad 4 (.t 38) (.t 39)), none⟩, ⟨some 41, .pur (.fad 3 (.t 40)), none⟩, ⟨some 42, .pur (.ld 1 false (.t 41)), none⟩, ⟨some 9, .pur (.mv (.t 42)), none⟩]
def u6_19 : IC := .seq (.reg u6_19r) u6_20
def u6_23r : List IOper := [⟨some 35, .pur (.mv (.t 8)), none⟩, ⟨some 36, .pur (.bin .add (.t 35) (.k (.int .i64 1))), none⟩, ⟨some 8, .pur (.mv (.t 36)), none⟩]
def u6_23 : IC := .reg u6_23r
def u6_18 : IC := .seq (.blk 1 u6_19) u6_23
def u6_15 : IC := .seq u6_16 u6_18
def u6_14 : IC := .blk 0 (.loop u6_15)
def u6_13r : List IOper := [⟨some 8, .pur (.mv (.k (.int .i64 0))), none⟩]
def u6_13 : IC := .seq (.reg u6_13r) u6_14
def u6_29 : IC := .cond (.t 61) .skip (.exit 2)
def u6_28r : List IOper := [⟨some 58, .pur (.mv (.t 10)), none⟩, ⟨some 59, .pur (.mv (.t 6)), none⟩, ⟨some 60, .pur (.len (.t 59)), none⟩, ⟨some 61, .pur (.bin .lss (.t 58) (.t 60)), none⟩]
def u6_28 : IC := .seq (.reg u6_28r) u6_29
def u6_33 : IC := .cond (.t 68) (.exit 3) .skip
def u6_32r : List IOper := [⟨some 64, .pur (.mv (.t 6)), none⟩, ⟨some 65, .pur (.mv (.t 10)), none⟩, ⟨some 66, .pur (.iad 1 (.t 64) (.t 65)), none⟩, ⟨some 67, .pur (.ld 1 false (.t 66)), none⟩, ⟨some 68, .pur (.bin .lss (.t 67) (.k (.int .i64 0))), none⟩]
def u6_32 : IC := .seq (.reg u6_32r) u6_33
def u6_39r : List IOper := [⟨some 4, .pur (.mv (.k (.bool false))), none⟩]
def u6_39 : IC := .seq (.reg u6_39r) .ret
def u6_38 : IC := .cond (.t 119) u6_39 .skip
def u6_37r : List IOper := [⟨some 82, .pur (.mv (.t 6)), none⟩, ⟨some 83, .pur (.mv (.t 10)), none⟩, ⟨some 84, .pur (.iad 1 (.t 82) (.t 83)), none⟩, ⟨some 85, .pur (.ld 1 false (.t 84)), none⟩, ⟨some 86, .pur (.bin .gtr (.t 85) (.k (.int .i64 48))), none⟩, ⟨some 87, .pur (.mv (.t 86)), none⟩, ⟨some 88, .pur (.mv (.t 12)), some (87, false)⟩, ⟨some 89, .pur (.mv (.t 88)), some (87, false)⟩, ⟨some 90, .pur (.mv (.t 10)), some (89, true)⟩, ⟨some 91, .pur (.bin .add (.t 90) (.k (.int .i64 1))), some (89, true)⟩, ⟨some 92, .pur (.mv (.t 6)), some (89, true)⟩, ⟨some 93, .pur (.len (.t 92)), some (89, true)⟩, ⟨some 94, .pur (.bin .geq (.t 91) (.t 93)), some (89, true)⟩, ⟨some 95, .pur (.pick (.t 89) (.t 94) (.k (.bool false))), some (87, false)⟩, ⟨some 96, .pur (.pick (.t 87) (.k (.bool true)) (.t 95)), none⟩, ⟨some 97, .pur (.mv (.t 96)), none⟩, ⟨some 98, .pur (.mv (.t 12)), some (97, false)⟩, ⟨some 99, .pur (.mv (.t 98)), some (97, false)⟩, ⟨some 100, .pur (.mv (.t 6)), some (99, true)⟩, ⟨some 101, .pur (.mv (.t 10)), some (99, true)⟩, ⟨some 102, .pur (.bin .add (.t 101) (.k (.int .i64 1))), some (99, true)⟩, ⟨some 103, .pur (.iad 1 (.t 100) (.t 102)), some (99, true)⟩, ⟨some 104, .pur (.ld 1 false (.t 103)), some (99, true)⟩, ⟨some 105, .pur (.bin .lss (.t 104) (.k (.int .i64 0))), some (99, true)⟩, ⟨some 106, .pur (.pick (.t 99) (.t 105) (.k (.bool false))), some (97, false)⟩, ⟨some 107, .pur (.pick (.t 97) (.k (.bool true)) (.t 106)), none⟩, ⟨some 108, .pur (.mv (.t 107)), none⟩, ⟨some 109, .pur (.fad 0 (.t 11)), some (108, false)⟩, ⟨some 110, .pur (.ld 1 false (.t 109)), some (108, false)⟩, ⟨some 111, .pur (.bin .eql (.t 110) (.k (.int .i64 31))), some (108, false)⟩, ⟨some 112, .pur (.mv (.t 111)), some (108, false)⟩, ⟨some 113, .pur (.mv (.t 6)), some (112, true)⟩, ⟨some 114, .pur (.mv (.t 10)), some (112, true)⟩, ⟨some 115, .pur (.iad 1 (.t 113) (.t 114)), some (112, true)⟩, ⟨some 116, .pur (.ld 1 false (.t 115)), some (112, true)⟩, ⟨some 117, .pur (.bin .neq (.t 116) (.k (.int .i64 0))), some (112, true)⟩, ⟨some 118, .pur (.pick (.t 112) (.t 117) (.k (.bool false))), some (108, false)⟩, ⟨some 119, .pur (.pick (.t 108) (.k (.bool true)) (.t 118)), none⟩]
def u6_37 : IC := .seq (.reg u6_37r) u6_38
def u6_43r : List IOper := [⟨some 4, .pur (.mv (.k (.bool false))), none⟩]
def u6_43 : IC := .seq (.reg u6_43r) .ret
def u6_42 : IC := .cond (.t 187) u6_43 .skip
def u6_41r : DReg := ⟨[⟨some 120, .pur (.fad 0 (.t 11)), none⟩, ⟨some 121, .pur (.ld 1 false (.t 120)), none⟩, ⟨some 122, .pur (.bin .eql (.t 121) (.k (.int .i64 12))), none⟩, ⟨some 123, .pur (.mv (.t 122)), none⟩, ⟨some 124, .pur (.fad 0 (.t 11)), some (123, false)⟩, ⟨some 125, .pur (.ld 1 false (.t 124)), some (123, false)⟩, ⟨some 126, .pur (.bin .eql (.t 125) (.k (.int .i64 13))), some (123, false)⟩, ⟨some 127, .pur (.pick (.t 123) (.k (.bool true)) (.t 126)), none⟩, ⟨some 128, .pur (.mv (.t 127)), none⟩, ⟨some 129, .pur (.fad 0 (.t 11)), some (128, false)⟩, ⟨some 130, .pur (.ld 1 false (.t 129)), some (128, false)⟩, ⟨some 131, .pur (.bin .eql (.t 130) (.k (.int .i64 14))), some (128, false)⟩, ⟨some 132, .pur (.pick (.t 128) (.k (.bool true)) (.t 131)), none⟩, ⟨some 133, .pur (.mv (.t 132)), none⟩, ⟨some 134, .pur (.fad 1 (.t 11)), some (133, true)⟩, ⟨some 135, .pur (.ld 1 false (.t 134)), some (133, true)⟩, ⟨some 136, .pur (.bin .lss (.t 135) (.k (.int .i64 0))), some (133, true)⟩, ⟨some 137, .pur (.mv (.t 136)), some (133, true)⟩, ⟨some 138, .pur (.fad 1 (.t 11)), some (137, false)⟩, ⟨some 139, .pur (.ld 1 false (.t 138)), some (137, false)⟩, ⟨some 140, .pur (.mv (.t 6)), some (137, false)⟩, ⟨some 141, .pur (.len (.t 140)), some (137, false)⟩, ⟨some 142, .pur (.bin .geq (.t 139) (.t 141)), some (137, false)⟩, ⟨some 143, .pur (.pick (.t 137) (.k (.bool true)) (.t 142)), some (133, true)⟩, ⟨some 144, .pur (.mv (.t 143)), some (133, true)⟩, ⟨some 145, .pur (.mv (.t 6)), some (144, false)⟩, ⟨some 146, .pur (.fad 1 (.t 11)), some (144, false)⟩, ⟨some 147, .pur (.ld 1 false (.t 146)), some (144, false)⟩, ⟨some 148, .pur (.iad 1 (.t 145) (.t 147)), some (144, false)⟩, ⟨some 149, .pur (.ld 1 false (.t 148)), some (144, false)⟩, ⟨some 150, .pur (.bin .lss (.t 149) (.k (.int .i64 0))), some (144, false)⟩, ⟨some 151, .pur (.pick (.t 144) (.k (.bool true)) (.t 150)), some (133, true)⟩, ⟨some 152, .pur (.mv (.t 151)), some (133, true)⟩, ⟨some 153, .pur (.fad 0 (.t 11)), some (152, false)⟩, ⟨some 154, .pur (.ld 1 false (.t 153)), some (152, false)⟩, ⟨some 155, .pur (.bin .eql (.t 154) (.k (.int .i64 12))), some (152, false)⟩, ⟨some 156, .pur (.mv (.t 155)), some (152, false)⟩, ⟨some 157, .pur (.mv (.t 6)), some (156, true)⟩, ⟨some 158, .pur (.fad 1 (.t 11)), some (156, true)⟩, ⟨some 159, .pur (.ld 1 false (.t 158)), some (156, true)⟩, ⟨some 160, .pur (.iad 1 (.t 157) (.t 159)), some (156, true)⟩, ⟨some 161, .pur (.ld 1 false (.t 160)), some (156, true)⟩, ⟨some 162, .pur (.mv (.t 6)), some (156, true)⟩, ⟨some 163, .pur (.mv (.t 10)), some (156, true)⟩, ⟨some 164, .pur (.iad 1 (.t 162) (.t 163)), some (156, true)⟩, ⟨some 165, .pur (.ld 1 false (.t 164)), some (156, true)⟩, ⟨some 166, .pur (.bin .neq (.t 161) (.t 165)), some (156, true)⟩, ⟨some 167, .pur (.pick (.t 156) (.t 166) (.k (.bool false))), some (152, false)⟩, ⟨some 168, .pur (.pick (.t 152) (.k (.bool true)) (.t 167)), some (133, true)⟩, ⟨some 169, .pur (.mv (.t 168)), some (133, true)⟩, ⟨some 170, .pur (.fad 0 (.t 11)), some (169, false)⟩, ⟨some 171, .pur (.ld 1 false (.t 170)), some (169, false)⟩, ⟨some 172, .pur (.bin .neq (.t 171) (.k (.int .i64 12))), some (169, false)⟩, ⟨some 173, .pur (.mv (.t 172)), some (169, false)⟩, ⟨some 174, .pur (.mv (.t 6)), some (173, true)⟩, ⟨some 175, .pur (.fad 1 (.t 11)), some (173, true)⟩, ⟨some 176, .pur (.ld 1 false (.t 175)), some (173, true)⟩, ⟨some 177, .pur (.iad 1 (.t 174) (.t 176)), some (173, true)⟩, ⟨some 178, .pur (.ld 1 false (.t 177)), some (173, true)⟩, ⟨some 179, .pur (.mv (.t 6)), some (173, true)⟩, ⟨some 180, .pur (.mv (.t 10)), some (173, true)⟩, ⟨some 181, .pur (.iad 1 (.t 179) (.t 180)), some (173, true)⟩, ⟨some 182, .pur (.ld 1 false (.t 181)), some (173, true)⟩, ⟨some 183, .pur (.bin .sub (.t 182) (.k (.int .i64 1))), some (173, true)⟩, ⟨some 184, .pur (.bin .neq (.t 178) (.t 183)), some (173, true)⟩, ⟨some 185, .pur (.pick (.t 173) (.t 184) (.k (.bool false))), some (169, false)⟩, ⟨some 186, .pur (.pick (.t 169) (.k (.bool true)) (.t 185)), some (133, true)⟩, ⟨some 187, .pur (.pick (.t 133) (.t 186) (.k (.bool false))), none⟩], [[], [0], [1, 0], [2, 1, 0], [3, 2, 1, 0], [4, 3, 2, 1, 0], [5, 3, 4, 2, 1, 0], [3, 6, 2, 1, 0, 5, 4], [7, 3, 6, 2, 1, 0, 5, 4], [8, 7, 3, 6, 2, 1, 0, 5, 4], [9, 8, 7, 3, 6, 2, 1, 0, 5, 4], [10, 8, 9, 7, 3, 6, 2, 1, 0, 5, 4], [8, 11, 7, 3, 6, 2, 1, 0, 5, 4, 10, 9], [12, 8, 11, 7, 3, 6, 2, 1, 0, 5, 4, 10, 9], [13, 12, 8, 11, 7, 3, 6, 2, 1, 0, 5, 4, 10, 9], [14, 13, 12, 8, 11, 7, 3, 6, 2, 1, 0, 5, 4, 10, 9], [15, 13, 14, 12, 8, 11, 7, 3, 6, 2, 1, 0, 5, 4, 10, 9], [16, 13, 15, 14, 12, 8, 11, 7, 3, 6, 2, 1, 0, 5, 4, 10, 9], [17, 16, 13, 15, 14, 12, 8, 11, 7, 3, 6, 2, 1, 0, 5, 4, 10, 9], [18, 17, 16, 13, 15, 14, 12, 8, 11, 7, 3, 6, 2, 1, 0, 5, 4, 10, 9], [17, 16, 13, 15, 14, 12, 8, 11, 7, 3, 6, 2, 1, 0, 5, 4, 10, 9], [20, 17, 16, 13, 15, 14, 12, 8, 11, 7, 3, 6, 2, 1, 0, 5, 4, 10, 9], [19, 21, 17, 18, 16, 13, 15, 14, 12, 8, 11, 7, 3, 6, 2, 1, 0, 5, 4, 10, 9, 20], [17, 22, 13, 16, 15, 14, 12, 8, 11, 7, 3, 6, 2, 1, 0, 5, 4, 10, 9, 19, 21, 18, 20], [23, 17, 13, 22, 16, 15, 14, 12, 8, 11, 7, 3, 6, 2, 1, 0, 5, 4, 10, 9, 19, 21, 18, 20], [24, 23, 17, 13, 22, 16, 15, 14, 12, 8, 11, 7, 3, 6, 2, 1, 0, 5, 4, 10, 9, 19, 21, 18, 20], [24, 23, 17, 13, 22, 16, 15, 14, 12, 8, 11, 7, 3, 6, 2, 1, 0, 5, 4, 10, 9, 19, 21, 18, 20], [26, 24, 23, 17, 13, 22, 16, 15, 14, 12, 8, 11, 7, 3, 6, 2, 1, 0, 5, 4, 10, 9, 19, 21, 18, 20], [25, 27, 24, 23, 17, 13, 22, 16, 15, 14, 12, 8, 11, 7, 3, 6, 2, 1, 0, 5, 4, 10, 9, 19, 21, 18, 20, 26], [28, 24, 25, 27, 23, 17, 13, 22, 16, 15, 14, 12, 8, 11, 7, 3, 6, 2, 1, 0, 5, 4, 10, 9, 19, 21, 18, 20, 26], [29, 24, 28, 25, 27, 23, 17, 13, 22, 16, 15, 14, 12, 8, 11, 7, 3, 6, 2, 1, 0, 5, 4, 10, 9, 19, 21, 18, 20, 26], [24, 30, 13, 23, 17, 22, 16, 15, 14, 12, 8, 11, 7, 3, 6, 2, 1, 0, 5, 4, 10, 9, 19, 21, 18, 20, 29, 28, 25, 27, 26], [31, 24, 13, 30, 23, 17, 22, 16, 15, 14, 12, 8, 11, 7, 3, 6, 2, 1, 0, 5, 4, 10, 9, 19, 21, 18, 20, 29, 28, 25, 27, 26], [32, 31, 24, 13, 30, 23, 17, 22, 16, 15, 14, 12, 8, 11, 7, 3, 6, 2, 1, 0, 5, 4, 10, 9, 19, 21, 18, 20, 29, 28, 25, 27, 26], [33, 32, 31, 24, 13, 30, 23, 17, 22, 16, 15, 14, 12, 8, 11, 7, 3, 6, 2, 1, 0, 5, 4, 10, 9, 19, 21, 18, 20, 29, 28, 25, 27, 26], [34, 32, 33, 31, 24, 13, 30, 23, 17, 22, 16, 15, 14, 12, 8, 11, 7, 3, 6, 2, 1, 0, 5, 4, 10, 9, 19, 21, 18, 20, 29, 28, 25, 27, 26], [35, 32, 34, 33, 31, 24, 13, 30, 23, 17, 22, 16, 15, 14, 12, 8, 11, 7, 3, 6, 2, 1, 0, 5, 4, 10, 9, 19, 21, 18, 20, 29, 28, 25, 27, 26], [36, 35, 32, 34, 33, 31, 24, 13, 30, 23, 17, 22, 16, 15, 14, 12, 8, 11, 7, 3, 6, 2, 1, 0, 5, 4, 10, 9, 19, 21, 18, 20, 29, 28, 25, 27, 26], [36, 35, 32, 34, 33, 31, 24, 13, 30, 23, 17, 22, 16, 15, 14, 12, 8, 11, 7, 3, 6, 2, 1, 0, 5, 4, 10, 9, 19, 21, 18, 20, 29, 28, 25, 27, 26], [38, 36, 35, 32, 34, 33, 31, 24, 13, 30, 23, 17, 22, 16, 15, 14, 12, 8, 11, 7, 3, 6, 2, 1, 0, 5, 4, 10, 9, 19, 21, 18, 20, 29, 28, 25, 27, 26], [37, 39, 36, 35, 32, 34, 33, 31, 24, 13, 30, 23, 17, 22, 16, 15, 14, 12, 8, 11, 7, 3, 6, 2, 1, 0, 5, 4, 10, 9, 19, 21, 18, 20, 29, 28, 25, 27, 26, 38], [40, 36, 37, 39, 35, 32, 34, 33, 31, 24, 13, 30, 23, 17, 22, 16, 15, 14, 12, 8, 11, 7, 3, 6, 2, 1, 0, 5, 4, 10, 9, 19, 21, 18, 20, 29, 28, 25, 27, 26, 38], [36, 35, 32, 34, 33, 31, 24, 13, 30, 23, 17, 22, 16, 15, 14, 12, 8, 11, 7, 3, 6, 2, 1, 0, 5, 4, 10, 9, 19, 21, 18, 20, 29, 28, 25, 27, 26], [36, 35, 32, 34, 33, 31, 24, 13, 30, 23, 17, 22, 16, 15, 14, 12, 8, 11, 7, 3, 6, 2, 1, 0, 5, 4, 10, 9, 19, 21, 18, 20, 29, 28, 25, 27, 26], [42, 43, 36, 35, 32, 34, 33, 31, 24, 13, 30, 23, 17, 22, 16, 15, 14, 12, 8, 11, 7, 3, 6, 2, 1, 0, 5, 4, 10, 9, 19, 21, 18, 20, 29, 28, 25, 27, 26], [44, 36, 42, 43, 35, 32, 34, 33, 31, 24, 13, 30, 23, 17, 22, 16, 15, 14, 12, 8, 11, 7, 3, 6, 2, 1, 0, 5, 4, 10, 9, 19, 21, 18, 20, 29, 28, 25, 27, 26], [41, 45, 36, 40, 37, 39, 35, 32, 34, 33, 31, 24, 13, 30, 23, 17, 22, 16, 15, 14, 12, 8, 11, 7, 3, 6, 2, 1, 0, 5, 4, 10, 9, 19, 21, 18, 20, 29, 28, 25, 27, 26, 38, 44, 42, 43], [36, 46, 32, 35, 34, 33, 31, 24, 13, 30, 23, 17, 22, 16, 15, 14, 12, 8, 11, 7, 3, 6, 2, 1, 0, 5, 4, 10, 9, 19, 21, 18, 20, 29, 28, 25, 27, 26, 41, 45, 40, 37, 39, 38, 44, 42, 43], [32, 47, 13, 31, 24, 30, 23, 17, 22, 16, 15, 14, 12, 8, 11, 7, 3, 6, 2, 1, 0, 5, 4, 10, 9, 19, 21, 18, 20, 29, 28, 25, 27, 26, 36, 46, 35, 34, 33, 41, 45, 40, 37, 39, 38, 44, 42, 43], [48, 36, 13, 32, 47, 31, 24, 30, 23, 17, 22, 16, 15, 14, 12, 8, 11, 7, 3, 6, 2, 1, 0, 5, 4, 10, 9, 19, 21, 18, 20, 29, 28, 25, 27, 26, 46, 35, 34, 33, 41, 45, 40, 37, 39, 38, 44, 42, 43], [49, 48, 36, 13, 32, 47, 31, 24, 30, 23, 17, 22, 16, 15, 14, 12, 8, 11, 7, 3, 6, 2, 1, 0, 5, 4, 10, 9, 19, 21, 18, 20, 29, 28, 25, 27, 26, 46, 35, 34, 33, 41, 45, 40, 37, 39, 38, 44, 42, 43], [50, 49, 48, 36, 13, 32, 47, 31, 24, 30, 23, 17, 22, 16, 15, 14, 12, 8, 11, 7, 3, 6, 2, 1, 0, 5, 4, 10, 9, 19, 21, 18, 20, 29, 28, 25, 27, 26, 46, 35, 34, 33, 41, 45, 40, 37, 39, 38, 44, 42, 43], [51, 49, 50, 48, 36, 13, 32, 47, 31, 24, 30, 23, 17, 22, 16, 15, 14, 12, 8, 11, 7, 3, 6, 2, 1, 0, 5, 4, 10, 9, 19, 21, 18, 20, 29, 28, 25, 27, 26, 46, 35, 34, 33, 41, 45, 40, 37, 39, 38, 44, 42, 43], [52, 49, 51, 50, 48, 36, 13, 32, 47, 31, 24, 30, 23, 17, 22, 16, 15, 14, 12, 8, 11, 7, 3, 6, 2, 1, 0, 5, 4, 10, 9, 19, 21, 18, 20, 29, 28, 25, 27, 26, 46, 35, 34, 33, 41, 45, 40, 37, 39, 38, 44, 42, 43], [53, 52, 49, 51, 50, 48, 36, 13, 32, 47, 31, 24, 30, 23, 17, 22, 16, 15, 14, 12, 8, 11, 7, 3, 6, 2, 1, 0, 5, 4, 10, 9, 19, 21, 18, 20, 29, 28, 25, 27, 26, 46, 35, 34, 33, 41, 45, 40, 37, 39, 38, 44, 42, 43], [53, 52, 49, 51, 50, 48, 36, 13, 32, 47, 31, 24, 30, 23, 17, 22, 16, 15, 14, 12, 8, 11, 7, 3, 6, 2, 1, 0, 5, 4, 10, 9, 19, 21, 18, 20, 29, 28, 25, 27, 26, 46, 35, 34, 33, 41, 45, 40, 37, 39, 38, 44, 42, 43], [55, 53, 52, 49, 51, 50, 48, 36, 13, 32, 47, 31, 24, 30, 23, 17, 22, 16, 15, 14, 12, 8, 11, 7, 3, 6, 2, 1, 0, 5, 4, 10, 9, 19, 21, 18, 20, 29, 28, 25, 27, 26, 46, 35, 34, 33, 41, 45, 40, 37, 39, 38, 44, 42, 43], [54, 56, 53, 52, 49, 51, 50, 48, 36, 13, 32, 47, 31, 24, 30, 23, 17, 22, 16, 15, 14, 12, 8, 11, 7, 3, 6, 2, 1, 0, 5, 4, 10, 9, 19, 21, 18, 20, 29, 28, 25, 27, 26, 46, 35, 34, 33, 41, 45, 40, 37, 39, 38, 44, 42, 43, 55], [57, 53, 54, 56, 52, 49, 51, 50, 48, 36, 13, 32, 47, 31, 24, 30, 23, 17, 22, 16, 15, 14, 12, 8, 11, 7, 3, 6, 2, 1, 0, 5, 4, 10, 9, 19, 21, 18, 20, 29, 28, 25, 27, 26, 46, 35, 34, 33, 41, 45, 40, 37, 39, 38, 44, 42, 43, 55], [53, 52, 49, 51, 50, 48, 36, 13, 32, 47, 31, 24, 30, 23, 17, 22, 16, 15, 14, 12, 8, 11, 7, 3, 6, 2, 1, 0, 5, 4, 10, 9, 19, 21, 18, 20, 29, 28, 25, 27, 26, 46, 35, 34, 33, 41, 45, 40, 37, 39, 38, 44, 42, 43], [53, 52, 49, 51, 50, 48, 36, 13, 32, 47, 31, 24, 30, 23, 17, 22, 16, 15, 14, 12, 8, 11, 7, 3, 6, 2, 1, 0, 5, 4, 10, 9, 19, 21, 18, 20, 29, 28, 25, 27, 26, 46, 35, 34, 33, 41, 45, 40, 37, 39, 38, 44, 42, 43], [59, 60, 53, 52, 49, 51, 50, 48, 36, 13, 32, 47, 31, 24, 30, 23, 17, 22, 16, 15, 14, 12, 8, 11, 7, 3, 6, 2, 1, 0, 5, 4, 10, 9, 19, 21, 18, 20, 29, 28, 25, 27, 26, 46, 35, 34, 33, 41, 45, 40, 37, 39, 38, 44, 42, 43], [61, 53, 59, 60, 52, 49, 51, 50, 48, 36, 13, 32, 47, 31, 24, 30, 23, 17, 22, 16, 15, 14, 12, 8, 11, 7, 3, 6, 2, 1, 0, 5, 4, 10, 9, 19, 21, 18, 20, 29, 28, 25, 27, 26, 46, 35, 34, 33, 41, 45, 40, 37, 39, 38, 44, 42, 43], [62, 53, 61, 59, 60, 52, 49, 51, 50, 48, 36, 13, 32, 47, 31, 24, 30, 23, 17, 22, 16, 15, 14, 12, 8, 11, 7, 3, 6, 2, 1, 0, 5, 4, 10, 9, 19, 21, 18, 20, 29, 28, 25, 27, 26, 46, 35, 34, 33, 41, 45, 40, 37, 39, 38, 44, 42, 43], [58, 63, 53, 57, 54, 56, 52, 49, 51, 50, 48, 36, 13, 32, 47, 31, 24, 30, 23, 17, 22, 16, 15, 14, 12, 8, 11, 7, 3, 6, 2, 1, 0, 5, 4, 10, 9, 19, 21, 18, 20, 29, 28, 25, 27, 26, 46, 35, 34, 33, 41, 45, 40, 37, 39, 38, 44, 42, 43, 55, 62, 61, 59, 60], [53, 64, 49, 52, 51, 50, 48, 36, 13, 32, 47, 31, 24, 30, 23, 17, 22, 16, 15, 14, 12, 8, 11, 7, 3, 6, 2, 1, 0, 5, 4, 10, 9, 19, 21, 18, 20, 29, 28, 25, 27, 26, 46, 35, 34, 33, 41, 45, 40, 37, 39, 38, 44, 42, 43, 58, 63, 57, 54, 56, 55, 62, 61, 59, 60], [49, 65, 13, 48, 36, 32, 47, 31, 24, 30, 23, 17, 22, 16, 15, 14, 12, 8, 11, 7, 3, 6, 2, 1, 0, 5, 4, 10, 9, 19, 21, 18, 20, 29, 28, 25, 27, 26, 46, 35, 34, 33, 41, 45, 40, 37, 39, 38, 44, 42, 43, 53, 64, 52, 51, 50, 58, 63, 57, 54, 56, 55, 62, 61, 59, 60], [13, 66, 12, 8, 11, 7, 3, 6, 2, 1, 0, 5, 4, 10, 9, 49, 65, 48, 36, 32, 47, 31, 24, 30, 23, 17, 22, 16, 15, 14, 19, 21, 18, 20, 29, 28, 25, 27, 26, 46, 35, 34, 33, 41, 45, 40, 37, 39, 38, 44, 42, 43, 53, 64, 52, 51, 50, 58, 63, 57, 54, 56, 55, 62, 61, 59, 60]], [(0, none), (1, none), (2, none), (3, none), (4, none), (5, none), (6, none), (7, none), (8, none), (9, none), (10, none), (11, none), (12, none), (13, none), (14, none), (15, none), (16, none), (17, none), (18, none), (19, none), (20, none), (21, none), (22, none), (23, none), (24, none), (25, none), (26, none), (27, none), (28, none), (29, none), (30, none), (31, none), (32, none), (33, none), (34, none), (35, none), (36, none), (37, none), (38, none), (39, none), (40, none), (41, none), (42, none), (43, none), (44, none), (45, none), (46, none), (47, none), (48, none), (49, none), (50, none), (51, none), (52, none), (53, none), (54, none), (55, none), (56, none), (57, none), (58, none), (59, none), (60, none), (61, none), (62, none), (63, none), (64, none), (65, none), (66, none), (67, none)]⟩
def u6_41 : IC := .seq (.drw 68 u6_41r) u6_42
def u6_46r : List IOper := [⟨some 4, .pur (.mv (.k (.bool false))), none⟩]
def u6_46 : IC := .seq (.reg u6_46r) .ret
def u6_45 : IC := .cond (.t 231) u6_46 .skip
def u6_44r : DReg := ⟨[⟨some 188, .pur (.fad 0 (.t 11)), none⟩, ⟨some 189, .pur (.ld 1 false (.t 188)), none⟩, ⟨some 190, .pur (.bin .eql (.t 189) (.k (.int .i64 3))), none⟩, ⟨some 191, .pur (.mv (.t 190)), none⟩, ⟨some 192, .pur (.fad 0 (.t 11)), some (191, false)⟩, ⟨some 193, .pur (.ld 1 false (.t 192)), some (191, false)⟩, ⟨some 194, .pur (.bin .eql (.t 193) (.k (.int .i64 15))), some (191, false)⟩, ⟨some 195, .pur (.pick (.t 191) (.k (.bool true)) (.t 194)), none⟩, ⟨some 196, .pur (.mv (.t 195)), none⟩, ⟨some 197, .pur (.fad 0 (.t 11)), some (196, false)⟩, ⟨some 198, .pur (.ld 1 false (.t 197)), some (196, false)⟩, ⟨some 199, .pur (.bin .eql (.t 198) (.k (.int .i64 11))), some (196, false)⟩, ⟨some 200, .pur (.pick (.t 196) (.k (.bool true)) (.t 199)), none⟩, ⟨some 201, .pur (.mv (.t 200)), none⟩, ⟨some 202, .pur (.mv (.t 6)), some (201, true)⟩, ⟨some 203, .pur (.mv (.t 10)), some (201, true)⟩, ⟨some 204, .pur (.bin .add (.t 203) (.k (.int .i64 1))), some (201, true)⟩, ⟨some 205, .pur (.iad 1 (.t 202) (.t 204)), some (201, true)⟩, ⟨some 206, .pur (.ld 1 false (.t 205)), some (201, true)⟩, ⟨some 207, .pur (.mv (.t 6)), some (201, true)⟩, ⟨some 208, .pur (.mv (.t 10)), some (201, true)⟩, ⟨some 209, .pur (.iad 1 (.t 207) (.t 208)), some (201, true)⟩, ⟨some 210, .pur (.ld 1 false (.t 209)), some (201, true)⟩, ⟨some 211, .pur (.bin .sub (.t 210) (.k (.int .i64 1))), some (201, true)⟩, ⟨some 212, .pur (.bin .neq (.t 206) (.t 211)), some (201, true)⟩, ⟨some 213, .pur (.pick (.t 201) (.t 212) (.k (.bool false))), none⟩, ⟨some 214, .pur (.mv (.t 213)), none⟩, ⟨some 215, .pur (.fad 0 (.t 11)), some (214, false)⟩, ⟨some 216, .pur (.ld 1 false (.t 215)), some (214, false)⟩, ⟨some 217, .pur (.bin .eql (.t 216) (.k (.int .i64 1))), some (214, false)⟩, ⟨some 218, .pur (.mv (.t 217)), some (214, false)⟩, ⟨some 219, .pur (.mv (.t 6)), some (218, true)⟩, ⟨some 220, .pur (.mv (.t 10)), some (218, true)⟩, ⟨some 221, .pur (.bin .add (.t 220) (.k (.int .i64 1))), some (218, true)⟩, ⟨some 222, .pur (.iad 1 (.t 219) (.t 221)), some (218, true)⟩, ⟨some 223, .pur (.ld 1 false (.t 222)), some (218, true)⟩, ⟨some 224, .pur (.mv (.t 6)), some (218, true)⟩, ⟨some 225, .pur (.mv (.t 10)), some (218, true)⟩, ⟨some 226, .pur (.iad 1 (.t 224) (.t 225)), some (218, true)⟩, ⟨some 227, .pur (.ld 1 false (.t 226)), some (218, true)⟩, ⟨some 228, .pur (.bin .add (.t 227) (.k (.int .i64 1))), some (218, true)⟩, ⟨some 229, .pur (.bin .neq (.t 223) (.t 228)), some (218, true)⟩, ⟨some 230, .pur (.pick (.t 218) (.t 229) (.k (.bool false))), some (214, false)⟩, ⟨some 231, .pur (.pick (.t 214) (.k (.bool true)) (.t 230)), none⟩], [[], [0], [1, 0], [2, 1, 0], [3, 2, 1, 0], [4, 3, 2, 1, 0], [5, 3, 4, 2, 1, 0], [3, 6, 2, 1, 0, 5, 4], [7, 3, 6, 2, 1, 0, 5, 4], [8, 7, 3, 6, 2, 1, 0, 5, 4], [9, 8, 7, 3, 6, 2, 1, 0, 5, 4], [10, 8, 9, 7, 3, 6, 2, 1, 0, 5, 4], [8, 11, 7, 3, 6, 2, 1, 0, 5, 4, 10, 9], [12, 8, 11, 7, 3, 6, 2, 1, 0, 5, 4, 10, 9], [13, 12, 8, 11, 7, 3, 6, 2, 1, 0, 5, 4, 10, 9], [13, 12, 8, 11, 7, 3, 6, 2, 1, 0, 5, 4, 10, 9], [15, 13, 12, 8, 11, 7, 3, 6, 2, 1, 0, 5, 4, 10, 9], [14, 16, 13, 12, 8, 11, 7, 3, 6, 2, 1, 0, 5, 4, 10, 9, 15], [17, 13, 14, 16, 12, 8, 11, 7, 3, 6, 2, 1, 0, 5, 4, 10, 9, 15], [13, 12, 8, 11, 7, 3, 6, 2, 1, 0, 5, 4, 10, 9], [13, 12, 8, 11, 7, 3, 6, 2, 1, 0, 5, 4, 10, 9], [19, 20, 13, 12, 8, 11, 7, 3, 6, 2, 1, 0, 5, 4, 10, 9], [21, 13, 19, 20, 12, 8, 11, 7, 3, 6, 2, 1, 0, 5, 4, 10, 9], [22, 13, 21, 19, 20, 12, 8, 11, 7, 3, 6, 2, 1, 0, 5, 4, 10, 9], [18, 23, 13, 17, 14, 16, 12, 8, 11, 7, 3, 6, 2, 1, 0, 5, 4, 10, 9, 15, 22, 21, 19, 20], [13, 24, 12, 8, 11, 7, 3, 6, 2, 1, 0, 5, 4, 10, 9, 18, 23, 17, 14, 16, 15, 22, 21, 19, 20], [25, 13, 24, 12, 8, 11, 7, 3, 6, 2, 1, 0, 5, 4, 10, 9, 18, 23, 17, 14, 16, 15, 22, 21, 19, 20], [26, 25, 13, 24, 12, 8, 11, 7, 3, 6, 2, 1, 0, 5, 4, 10, 9, 18, 23, 17, 14, 16, 15, 22, 21, 19, 20], [27, 26, 25, 13, 24, 12, 8, 11, 7, 3, 6, 2, 1, 0, 5, 4, 10, 9, 18, 23, 17, 14, 16, 15, 22, 21, 19, 20], [28, 26, 27, 25, 13, 24, 12, 8, 11, 7, 3, 6, 2, 1, 0, 5, 4, 10, 9, 18, 23, 17, 14, 16, 15, 22, 21, 19, 20], [29, 26, 28, 27, 25, 13, 24, 12, 8, 11, 7, 3, 6, 2, 1, 0, 5, 4, 10, 9, 18, 23, 17, 14, 16, 15, 22, 21, 19, 20], [30, 29, 26, 28, 27, 25, 13, 24, 12, 8, 11, 7, 3, 6, 2, 1, 0, 5, 4, 10, 9, 18, 23, 17, 14, 16, 15, 22, 21, 19, 20], [30, 29, 26, 28, 27, 25, 13, 24, 12, 8, 11, 7, 3, 6, 2, 1, 0, 5, 4, 10, 9, 18, 23, 17, 14, 16, 15, 22, 21, 19, 20], [32, 30, 29, 26, 28, 27, 25, 13, 24, 12, 8, 11, 7, 3, 6, 2, 1, 0, 5, 4, 10, 9, 18, 23, 17, 14, 16, 15, 22, 21, 19, 20], [31, 33, 30, 29, 26, 28, 27, 25, 13, 24, 12, 8, 11, 7, 3, 6, 2, 1, 0, 5, 4, 10, 9, 18, 23, 17, 14, 16, 15, 22, 21, 19, 20, 32], [34, 30, 31, 33, 29, 26, 28, 27, 25, 13, 24, 12, 8, 11, 7, 3, 6, 2, 1, 0, 5, 4, 10, 9, 18, 23, 17, 14, 16, 15, 22, 21, 19, 20, 32], [30, 29, 26, 28, 27, 25, 13, 24, 12, 8, 11, 7, 3, 6, 2, 1, 0, 5, 4, 10, 9, 18, 23, 17, 14, 16, 15, 22, 21, 19, 20], [30, 29, 26, 28, 27, 25, 13, 24, 12, 8, 11, 7, 3, 6, 2, 1, 0, 5, 4, 10, 9, 18, 23, 17, 14, 16, 15, 22, 21, 19, 20], [36, 37, 30, 29, 26, 28, 27, 25, 13, 24, 12, 8, 11, 7, 3, 6, 2, 1, 0, 5, 4, 10, 9, 18, 23, 17, 14, 16, 15, 22, 21, 19, 20], [38, 30, 36, 37, 29, 26, 28, 27, 25, 13, 24, 12, 8, 11, 7, 3, 6, 2, 1, 0, 5, 4, 10, 9, 18, 23, 17, 14, 16, 15, 22, 21, 19, 20], [39, 30, 38, 36, 37, 29, 26, 28, 27, 25, 13, 24, 12, 8, 11, 7, 3, 6, 2, 1, 0, 5, 4, 10, 9, 18, 23, 17, 14, 16, 15, 22, 21, 19, 20], [35, 40, 30, 34, 31, 33, 29, 26, 28, 27, 25, 13, 24, 12, 8, 11, 7, 3, 6, 2, 1, 0, 5, 4, 10, 9, 18, 23, 17, 14, 16, 15, 22, 21, 19, 20, 32, 39, 38, 36, 37], [30, 41, 26, 29, 28, 27, 25, 13, 24, 12, 8, 11, 7, 3, 6, 2, 1, 0, 5, 4, 10, 9, 18, 23, 17, 14, 16, 15, 22, 21, 19, 20, 35, 40, 34, 31, 33, 32, 39, 38, 36, 37], [26, 42, 25, 13, 24, 12, 8, 11, 7, 3, 6, 2, 1, 0, 5, 4, 10, 9, 18, 23, 17, 14, 16, 15, 22, 21, 19, 20, 30, 41, 29, 28, 27, 35, 40, 34, 31, 33, 32, 39, 38, 36, 37]], [(0, none), (1, none), (2, none), (3, none), (4, none), (5, none), (6, none), (7, none), (8, none), (9, none), (10, none), (11, none), (12, none), (13, none), (14, none), (15, none), (16, none), (17, none), (18, none), (19, none), (20, none), (21, none), (22, none), (23, none), (24, none), (25, none), (26, none), (27, none), (28, none), (29, none), (30, none), (31, none), (32, none), (33, none), (34, none), (35, none), (36, none), (37, none), (38, none), (39, none), (40, none), (41, none), (42, none), (43, none)]⟩
def u6_44 : IC := .seq (.drw 44 u6_44r) u6_45
def u6_40 : IC := .seq u6_41 u6_44
def u6_36 : IC := .seq u6_37 u6_40
def u6_35r : List IOper := [⟨some 74, .pur (.fad 0 (.t 11)), none⟩, ⟨some 75, .pur (.ld 1 false (.t 74)), none⟩, ⟨some 76, .pur (.bin .neq (.t 75) (.k (.int .i64 12))), none⟩, ⟨some 77, .pur (.mv (.t 76)), none⟩, ⟨some 78, .pur (.fad 0 (.t 11)), some (77, true)⟩, ⟨some 79, .pur (.ld 1 false (.t 78)), some (77, true)⟩, ⟨some 80, .pur (.bin .neq (.t 79) (.k (.int .i64 31))), some (77, true)⟩, ⟨some 81, .pur (.pick (.t 77) (.t 80) (.k (.bool false))), none⟩, ⟨some 12, .pur (.mv (.t 81)), none⟩]
def u6_35 : IC := .seq (.reg u6_35r) u6_36
def u6_34r : List IOper := [⟨some 69, .pur (.fad 0 (.t 5)), none⟩, ⟨some 70, .pur (.ld 1 false (.t 69)), none⟩, ⟨some 71, .pur (.mv (.t 10)), none⟩, ⟨some 72, .pur (.iad 2 (.t 70) (.t 71)), none⟩, ⟨some 73, .pur (.ld 2 true (.t 72)), none⟩, ⟨some 11, .new (.box (.k (.agg #[.int .i64 0, .int .i64 0]))), none⟩, ⟨none, .eff (.st 2 (.t 11) (.t 73)), none⟩]
def u6_34 : IC := .seq (.reg u6_34r) u6_35
def u6_31 : IC := .seq u6_32 u6_34
def u6_47r : List IOper := [⟨some 62, .pur (.mv (.t 10)), none⟩, ⟨some 63, .pur (.bin .add (.t 62) (.k (.int .i64 1))), none⟩, ⟨some 10, .pur (.mv (.t 63)), none⟩]
def u6_47 : IC := .reg u6_47r
def u6_30 : IC := .seq (.blk 3 u6_31) u6_47
def u6_27 : IC := .seq u6_28 u6_30
def u6_26 : IC := .blk 2 (.loop u6_27)
def u6_25r : List IOper := [⟨some 10, .pur (.mv (.k (.int .i64 0))), none⟩]
def u6_25 : IC := .seq (.reg u6_25r) u6_26
def u6_48r : List IOper := [⟨some 232, .call 13 [], none⟩, ⟨some 4, .pur (.mv (.t 232)), none⟩]
def u6_48 : IC := .seq (.reg u6_48r) .ret
def u6_24 : IC := .seq u6_25 u6_48
def u6_12 : IC := .seq u6_13 u6_24
def u6_8 : IC := .seq u6_9 u6_12
def u6_4 : IC := .seq u6_5 u6_8
def u6_3r : List IOper := [⟨some 17, .pur (.ld 7 true (.t 5)), none⟩, ⟨some 18, .call 20 [.t 17], none⟩, ⟨some 16, .pur (.mv (.t 18)), none⟩, ⟨some 19, .pur (.ext (.t 16) 0), none⟩, ⟨some 20, .pur (.ext (.t 16) 1), none⟩, ⟨some 6, .pur (.mv (.t 19)), none⟩, ⟨some 7, .pur (.mv (.t 20)), none⟩]
def u6_3 : IC := .seq (.reg u6_3r) u6_4
def u6_2r : List IOper := [⟨some 13, .pur (.mv (.t 0)), none⟩, ⟨some 14, .pur (.mv (.t 1)), none⟩, ⟨some 15, .call 11 [.t 13, .t 14], none⟩, ⟨some 5, .new (.box (.k (.agg #[.slice none 0 0, .slice none 0 0, .slice none 0 0, .slice none 0 0, .slice none 0 0, .int .i64 0, .int .i64 0]))), none⟩, ⟨none, .eff (.st 7 (.t 5) (.t 15)), none⟩]
def u6_2 : IC := .seq (.reg u6_2r) u6_3
def u6_1r : List IOper := [⟨some 4, .pur (.mv (.k (.bool false))), none⟩]
def u6_1 : IC := .seq (.reg u6_1r) u6_2
def u6 : IFn := ⟨233, u6_1, [.tmp 4]⟩
end
theorem isU6 : IsFn Tryd.prog 6 u6 := by unfold IsFn; kernel_rfl
instance i6_7 : WR Tryd.prog 233 u6_7 (rS u6_7r .ret []) := ⟨mkS⟩
instance i6_6 : WR Tryd.prog 233 u6_6 (rCE (.t 22) u6_7 .skip [5, 6, 22]) := ⟨mkCE⟩
instance i6_5 : WR Tryd.prog 233 u6_5 (rS u6_5r u6_6 [5, 6, 7]) := ⟨mkS⟩
instance i6_10 : WR Tryd.prog 233 u6_10 (rCE (.t 29) u6_11 .skip [5, 6, 29]) := ⟨mkCE⟩
instance i6_9 : WR Tryd.prog 233 u6_9 (rS u6_9r u6_10 [5, 6]) := ⟨mkS⟩
instance i6_17 : WR Tryd.prog 233 u6_17 (rCE (.t 34) .skip (.exit 0) [5, 6, 8, 34]) := ⟨mkCE⟩
instance i6_16 : WR Tryd.prog 233 u6_16 (rS u6_16r u6_17 [5, 6, 8]) := ⟨mkS⟩
instance i6_21 : WR Tryd.prog 233 u6_21 (rCE (.t 57) u6_22 .skip [5, 6, 8, 57]) := ⟨mkCE⟩
instance i6_20 : WR Tryd.prog 233 u6_20 (rS u6_20r u6_21 [5, 6, 8, 9]) := ⟨mkS⟩
instance i6_19 : WR Tryd.prog 233 u6_19 (rS u6_19r u6_20 [5, 6, 8]) := ⟨mkS⟩
instance i6_23 : WR Tryd.prog 233 u6_23 (rE u6_23r [5, 6, 8]) := ⟨mkE⟩
instance i6_18 : WR Tryd.prog 233 u6_18 (rB 1 u6_19 u6_23 [5, 6, 8]) := ⟨mkB⟩
instance i6_15 : WR Tryd.prog 233 u6_15 (rQ u6_16 u6_18 [5, 6, 8]) := ⟨mkQ⟩
instance i6_14 : WR Tryd.prog 233 u6_14 (rBE 0 (.loop u6_15) [5, 6, 8]) := ⟨mkBE⟩
instance i6_13 : WR Tryd.prog 233 u6_13 (rS u6_13r u6_14 [5, 6]) := ⟨mkS⟩
instance i6_29 : WR Tryd.prog 233 u6_29 (rCE (.t 61) .skip (.exit 2) [5, 6, 10, 61]) := ⟨mkCE⟩
instance i6_28 : WR Tryd.prog 233 u6_28 (rS u6_28r u6_29 [5, 6, 10]) := ⟨mkS⟩
instance i6_33 : WR Tryd.prog 233 u6_33 (rCE (.t 68) (.exit 3) .skip [5, 6, 10, 68]) := ⟨mkCE⟩
instance i6_32 : WR Tryd.prog 233 u6_32 (rS u6_32r u6_33 [5, 6, 10]) := ⟨mkS⟩
instance i6_38 : WR Tryd.prog 233 u6_38 (rCE (.t 119) u6_39 .skip [5, 6, 10, 11, 119]) := ⟨mkCE⟩
instance i6_37 : WR Tryd.prog 233 u6_37 (rS u6_37r u6_38 [5, 6, 10, 11, 12]) := ⟨mkS⟩
instance i6_42 : WR Tryd.prog 233 u6_42 (rCE (.t 187) u6_43 .skip [5, 6, 10, 11, 187]) := ⟨mkCE⟩
instance i6_41 : WR Tryd.prog 233 u6_41 (rP 68 u6_41r u6_42 [5, 6, 10, 11]) := ⟨mkP rfl⟩
instance i6_45 : WR Tryd.prog 233 u6_45 (rCE (.t 231) u6_46 .skip [5, 6, 10, 231]) := ⟨mkCE⟩
instance i6_44 : WR Tryd.prog 233 u6_44 (rP 44 u6_44r u6_45 [5, 6, 10, 11]) := ⟨mkP rfl⟩
instance i6_40 : WR Tryd.prog 233 u6_40 (rQ u6_41 u6_44 [5, 6, 10, 11]) := ⟨mkQ⟩
instance i6_36 : WR Tryd.prog 233 u6_36 (rQ u6_37 u6_40 [5, 6, 10, 11, 12]) := ⟨mkQ⟩
instance i6_35 : WR Tryd.prog 233 u6_35 (rS u6_35r u6_36 [5, 6, 10, 11]) := ⟨mkS⟩
instance i6_34 : WR Tryd.prog 233 u6_34 (rS u6_34r u6_35 [5, 6, 10]) := ⟨mkS⟩
instance i6_31 : WR Tryd.prog 233 u6_31 (rQ u6_32 u6_34 [5, 6, 10]) := ⟨mkQ⟩
instance i6_47 : WR Tryd.prog 233 u6_47 (rE u6_47r [5, 6, 10]) := ⟨mkE⟩
instance i6_30 : WR Tryd.prog 233 u6_30 (rB 3 u6_31 u6_47 [5, 6, 10]) := ⟨mkB⟩
instance i6_27 : WR Tryd.prog 233 u6_27 (rQ u6_28 u6_30 [5, 6, 10]) := ⟨mkQ⟩
instance i6_26 : WR Tryd.prog 233 u6_26 (rBE 2 (.loop u6_27) [5, 6, 10]) := ⟨mkBE⟩
instance i6_25 : WR Tryd.prog 233 u6_25 (rS u6_25r u6_26 [5, 6]) := ⟨mkS⟩
instance i6_48 : WR Tryd.prog 233 u6_48 (rS u6_48r .ret []) := ⟨mkS⟩
instance i6_24 : WR Tryd.prog 233 u6_24 (rQ u6_25 u6_48 [5, 6]) := ⟨mkQ⟩
instance i6_12 : WR Tryd.prog 233 u6_12 (rQ u6_13 u6_24 [5, 6]) := ⟨mkQ⟩
instance i6_8 : WR Tryd.prog 233 u6_8 (rQ u6_9 u6_12 [5, 6]) := ⟨mkQ⟩
instance i6_4 : WR Tryd.prog 233 u6_4 (rQ u6_5 u6_8 [5, 6, 7]) := ⟨mkQ⟩
instance i6_3 : WR Tryd.prog 233 u6_3 (rS u6_3r u6_4 [5]) := ⟨mkS⟩
instance i6_2 : WR Tryd.prog 233 u6_2 (rS u6_2r u6_3 [0, 1]) := ⟨mkS⟩
instance i6_1 : WR Tryd.prog 233 u6_1 (rS u6_1r u6_2 [0, 1]) := ⟨mkS⟩
attribute [go_sem] u6_7r u6_5r u6_11r u6_9r u6_16r u6_22r u6_20r u6_19r u6_23r u6_13r u6_28r u6_32r u6_39r u6_37r u6_43r u6_41r u6_46r u6_44r u6_35r u6_34r u6_47r u6_25r u6_48r u6_3r u6_2r u6_1r
theorem c_safeLaw (l m : List UInt8) (hl : l.length ≤ 9223372036854775807) (hm : m.length ≤ 9223372036854775807) : PC Tryd.prog 6 [.lst (bytesC l), .lst (bytesC m)] (.bool true) := by
  have nlb : ∀ l, DV.nlL (bytesC l) = true := fun l => nlL_map (fun _ => rfl) l
  refine PC.of mixedU isU6 (Nat.le_of_ble_eq_true rfl) (by simp [DV.nlL, DV.nl, nlb]) rfl ?_
  show IW Tryd.prog 233 u6_1 ⟨argT _, _, _⟩ (rt [.tmp 4] _)
  have hB := BB.broken l m
  have cB := c_Broken l m hl hm
  obtain ⟨c, hc⟩ : ∃ c, c = brokenM l m := ⟨_, rfl⟩
  rw [← hc] at hB cB
  obtain ⟨B1, B2, B3, B4, B5, B6, B7, B8, B9, B10⟩ := id hB
  have cH := c_Heights c (fun s hs => by have := B5 s hs; omega) (by omega)
  by_cases h0 : validM c = 0
  · have hz : (validM c != 0) = false := by simp [h0]
    obtain ⟨hH, hj, hl4⟩ := vHts_hts h0
    have hlen := hH.len
    obtain ⟨h, hh⟩ : ∃ h, h = vHts c := ⟨_, rfl⟩
    have hnn : (((h.length : Nat) : Int) != ((c.instrs.length : Nat) : Int)) = false := by rw [hh, hlen]; simp
    rw [← hh] at cH hlen
    repeat' ((first | (with_reducible first | refine wr ?_ | refine i_ret ?_ | refine i_skip ?_ | refine i_exit ?_) | ((with_reducible first | refine k_cb ?_ ?_ | refine k_gb ?_ ?_ | refine k_gb' ?_ ?_) <;> (intro hb; try simp only [hb])) | ((with_reducible refine AC.call ((cB).at _ _) ?_); rintro _ _ _ ⟨rfl, rfl, rfl⟩ -) | ((with_reducible refine AC.call ((cH).at _ _) ?_); rintro _ _ _ ⟨rfl, rfl, rfl⟩ -) | ((with_reducible refine AC.call ((c_sane).at _ _) ?_); rintro _ _ _ ⟨rfl, rfl, rfl⟩ -)) <;> try simp only [go_sem, Nat.reduceAdd, Nat.reduceLeDiff, Nat.reduceEqDiff, Nat.reduceMul, Nat.reduceSub, ↓reduceIte, Int.reduceLT, Int.reduceLE, Int.reduceGT, Int.reduceGE, Nat.reduceLT, Nat.reduceGT, Int.reduceToNat, reduceCtorEq, Nat.reduceBEq, Int.reduceBEq, Int.reduceBNe, Int.reduceEq, Int.reduceNe, decide_true, decide_false, hz, hnn])
    refine i_loop (fun i : Nat => [(5, .ptr 0 0), (6, ints h), (8, I64 (i : Int))]) (fun _ => Sym.nil.upd 0 ⟨0, true, c.cs⟩) (fun i cc => 1 ≤ cc ∧ i ≤ c.entries.length) (fun i => c.entries.length - i) 0
      (by simp [tmLe, tm, Tm.upd]) (by rw [h_upd2]; exact Sub.refl _) ⟨Nat.le_refl _, Nat.zero_le _⟩ ?_
    rintro i cc ⟨hcc, hi⟩
    have hD0 : (Sym.nil.upd 0 ⟨0, true, c.cs⟩) 0 = some ⟨0, true, c.cs⟩ := h_same
    have hel : (c.entries.map Ent.v).length = c.entries.length := by simp
    by_cases hlt : i < c.entries.length
    · have hd : decide ((i : Int) < ((c.entries.length : Nat) : Int)) = true := by simp; omega
      obtain ⟨e, he⟩ : ∃ e, c.entries[i]? = some e := ⟨_, List.getElem?_eq_getElem hlt⟩
      obtain ⟨s1, s2, s3⟩ := safe_ent h0 (List.mem_of_getElem? he)
      rw [← hh] at s2 s3
      have hg : (c.entries.map Ent.v)[i]? = some e.v := by rw [List.getElem?_map, he]; rfl
      have hg2 : (h.map I64)[e.pos.toNat]? = some (I64 0) := by rw [List.getElem?_map, s3]; rfl
      have pi : iadR 1 (ints h) (I64 e.pos) = some (.fptr [I64 0]) := by rw [r_iadl, if_pos s1, hg2]; rfl
      have d1 : decide (e.pos < 0) = false := by simp; omega
      have d2 : decide (e.pos ≥ ((h.length : Nat) : Int)) = false := by simp; omega
      have hw : IntKind.i64.wrap ((i : Int) + 1) = ((i + 1 : Nat) : Int) := by rw [w64 (by omega) (by omega)]; omega
      repeat' ((first | (with_reducible first | refine wr ?_ | refine i_ret ?_ | refine i_skip ?_ | refine i_exit ?_) | ((with_reducible first | refine k_cb ?_ ?_ | refine k_gb ?_ ?_ | refine k_gb' ?_ ?_) <;> (intro hb; try simp only [hb]))) <;> try simp only [go_sem, Nat.reduceAdd, Nat.reduceLeDiff, Nat.reduceEqDiff, Nat.reduceMul, Nat.reduceSub, ↓reduceIte, Int.reduceLT, Int.reduceLE, Int.reduceGT, Int.reduceGE, Nat.reduceLT, Nat.reduceGT, Int.reduceToNat, reduceCtorEq, Nat.reduceBEq, Int.reduceBEq, Int.reduceBNe, Int.reduceEq, Int.reduceNe, decide_true, decide_false, hd, hg, pi, d1, d2, hw, hel, hD0])
      exact ⟨i + 1, rfl, Sub.refl _, inv ⟨hcc, hlt⟩, by omega⟩
    · have hd : decide ((i : Int) < ((c.entries.length : Nat) : Int)) = false := by simp; omega
      repeat' ((first | (with_reducible first | refine wr ?_ | refine i_ret ?_ | refine i_skip ?_ | refine i_exit ?_) | ((with_reducible first | refine k_cb ?_ ?_ | refine k_gb ?_ ?_ | refine k_gb' ?_ ?_) <;> (intro hb; try simp only [hb]))) <;> try simp only [go_sem, Nat.reduceAdd, Nat.reduceLeDiff, Nat.reduceEqDiff, Nat.reduceMul, Nat.reduceSub, ↓reduceIte, Int.reduceLT, Int.reduceLE, Int.reduceGT, Int.reduceGE, Nat.reduceLT, Nat.reduceGT, Int.reduceToNat, reduceCtorEq, Nat.reduceBEq, Int.reduceBEq, Int.reduceBNe, Int.reduceEq, Int.reduceNe, decide_true, decide_false, hd, hel, hD0])
      refine i_loop (fun i : Nat => [(5, .ptr 0 0), (6, ints h), (10, I64 (i : Int))]) (fun _ => Sym.nil.upd 0 ⟨0, true, c.cs⟩) (fun i cc => 1 ≤ cc ∧ i ≤ h.length) (fun i => h.length - i) 0
        (by simp [tmLe, tm, Tm.upd]) (Sub.refl _) ⟨hcc, Nat.zero_le _⟩ ?_
      clear hd hlt hi hcc
      rintro i cc ⟨hcc, hi⟩
      by_cases hlt : i < h.length
      · have hd : decide ((i : Int) < ((h.length : Nat) : Int)) = true := by simp; omega
        have hw : IntKind.i64.wrap ((i : Int) + 1) = ((i + 1 : Nat) : Int) := by rw [w64 (by omega) (by omega)]; omega
        obtain ⟨x, hx⟩ : ∃ x, h[i]? = some x := ⟨_, List.getElem?_eq_getElem hlt⟩
        have hg : (h.map I64)[i]? = some (I64 x) := by rw [List.getElem?_map, hx]; rfl
        by_cases hx0 : x < 0
        · have d1 : decide (x < 0) = true := by simp; omega
          repeat' ((first | (with_reducible first | refine wr ?_ | refine i_ret ?_ | refine i_skip ?_ | refine i_exit ?_) | ((with_reducible first | refine k_cb ?_ ?_ | refine k_gb ?_ ?_ | refine k_gb' ?_ ?_) <;> (intro hb; try simp only [hb]))) <;> try simp only [go_sem, Nat.reduceAdd, Nat.reduceLeDiff, Nat.reduceEqDiff, Nat.reduceMul, Nat.reduceSub, ↓reduceIte, Int.reduceLT, Int.reduceLE, Int.reduceGT, Int.reduceGE, Nat.reduceLT, Nat.reduceGT, Int.reduceToNat, reduceCtorEq, Nat.reduceBEq, Int.reduceBEq, Int.reduceBNe, Int.reduceEq, Int.reduceNe, decide_true, decide_false, hd, hg, d1, hw, hD0])
          exact ⟨i + 1, rfl, Sub.refl _, inv ⟨hcc, hlt⟩, by omega⟩
        · have d1 : decide (x < 0) = false := by simp; omega
          have S := safe_at h0 (i := i) (x := x) (by rw [← hh]; exact hx) (by omega)
          obtain ⟨op, A, hI⟩ : ∃ op A, c.instrs[i]? = some ⟨op, A⟩ := ⟨_, _, List.getElem?_eq_getElem (by omega)⟩
          have hgi : (c.instrs.map Ins.v)[i]? = some (.agg [I64 op, I64 A]) := by rw [List.getElem?_map, hI]; rfl
          have hin : c.ins i = ⟨op, A⟩ := by show c.instrs.getD i ⟨0, 0⟩ = _; rw [List.getD, hI]; rfl
          obtain ⟨t1, t2, t3, t4, t5, t6, t7⟩ := S
          rw [hin] at t2 t3 t4 t5 t6 t7
          rw [← hh] at t3 t4 t5 t6 t7
          simp only at t2 t3 t4 t5 t6 t7
          have d48 : decide (x > 48) = false := by simp; omega
          have hfr : (Sym.nil.upd 0 ⟨0, true, c.cs⟩) cc = none := by rw [h_ne (by omega)]; rfl
          have ne0 : ¬ 0 = cc := by omega
          have ne1 : ¬ cc = 0 := by omega
          have wx : IntKind.i64.wrap (x - 1) = x - 1 := w64 (by omega) (by omega)
          have wy : IntKind.i64.wrap (x + 1) = x + 1 := w64 (by omega) (by omega)
          have hcase : op = 12 ∨ op = 13 ∨ op = 14 ∨ op = 31 ∨ op = 3 ∨ op = 15 ∨ op = 11 ∨ op = 1 ∨ (op ≠ 12 ∧ op ≠ 13 ∧ op ≠ 14 ∧ op ≠ 31 ∧ op ≠ 3 ∧ op ≠ 15 ∧ op ≠ 11 ∧ op ≠ 1) := by omega
          have nx : ∀ {y : Int}, h[i + 1]? = some y → 0 ≤ y → (h.map I64)[i + 1]? = some (I64 y) ∧ decide (((i + 1 : Nat) : Int) ≥ ((h.length : Nat) : Int)) = false ∧ decide (y < 0) = false := fun {y} h1 h2 => by
            obtain ⟨q, -⟩ := List.getElem?_eq_some_iff.1 h1
            exact ⟨by rw [List.getElem?_map, h1]; rfl, by simp; omega, by simp; omega⟩
          have jx : ∀ {y : Int}, 0 ≤ A → h[A.toNat]? = some y → 0 ≤ y → iadR 1 (ints h) (I64 A) = some (.fptr [I64 y]) ∧ decide (A < 0) = false ∧ decide (A ≥ ((h.length : Nat) : Int)) = false ∧ decide (y < 0) = false := fun {y} h0 h1 h2 => by
            obtain ⟨q, -⟩ := List.getElem?_eq_some_iff.1 h1
            exact ⟨by rw [r_iadl, if_pos h0, List.getElem?_map, h1]; rfl, by simp; omega, by simp; omega, by simp; omega⟩
          rcases hcase with rfl | rfl | rfl | rfl | rfl | rfl | rfl | rfl | ⟨n12, n13, n14, n31, n3, n15, n11, n1⟩
          · obtain ⟨a1, a2⟩ := t4 rfl
            obtain ⟨j1, j2, j3, j4⟩ := jx a1 a2 (by omega)
            repeat' ((first | (with_reducible first | refine wr ?_ | refine i_ret ?_ | refine i_skip ?_ | refine i_exit ?_) | ((with_reducible first | refine k_cb ?_ ?_ | refine k_gb ?_ ?_ | refine k_gb' ?_ ?_) <;> (intro hb; try simp only [hb]))) <;> try simp only [go_sem, Nat.reduceAdd, Nat.reduceLeDiff, Nat.reduceEqDiff, Nat.reduceMul, Nat.reduceSub, ↓reduceIte, Int.reduceLT, Int.reduceLE, Int.reduceGT, Int.reduceGE, Nat.reduceLT, Nat.reduceGT, Int.reduceToNat, reduceCtorEq, Nat.reduceBEq, Int.reduceBEq, Int.reduceBNe, Int.reduceEq, Int.reduceNe, decide_true, decide_false, Int.reduceBEq, Int.reduceBNe, bne_self_eq_false, hd, hg, d1, d48, hw, wx, wy, hgi, hD0, hfr, j1, j2, j3, j4, ne0, ne1])
            exact ⟨i + 1, rfl, by rw [h_upd2]; exact Sub.upd (Sub.refl _) _ hfr, inv ⟨by omega, hlt⟩, by omega⟩
          · obtain ⟨a1, a2, a3⟩ := t5 (.inl rfl)
            obtain ⟨j1, j2, j3, j4⟩ := jx a1 a2 (by omega)
            obtain ⟨y, y1, y2⟩ := t3 (by omega) (by omega)
            obtain ⟨k1, k2, k3⟩ := nx y1 y2
            repeat' ((first | (with_reducible first | refine wr ?_ | refine i_ret ?_ | refine i_skip ?_ | refine i_exit ?_) | ((with_reducible first | refine k_cb ?_ ?_ | refine k_gb ?_ ?_ | refine k_gb' ?_ ?_) <;> (intro hb; try simp only [hb]))) <;> try simp only [go_sem, Nat.reduceAdd, Nat.reduceLeDiff, Nat.reduceEqDiff, Nat.reduceMul, Nat.reduceSub, ↓reduceIte, Int.reduceLT, Int.reduceLE, Int.reduceGT, Int.reduceGE, Nat.reduceLT, Nat.reduceGT, Int.reduceToNat, reduceCtorEq, Nat.reduceBEq, Int.reduceBEq, Int.reduceBNe, Int.reduceEq, Int.reduceNe, decide_true, decide_false, Int.reduceBEq, Int.reduceBNe, bne_self_eq_false, hd, hg, d1, d48, hw, wx, wy, hgi, hD0, hfr, j1, j2, j3, j4, k1, k2, k3, ne0, ne1])
            exact ⟨i + 1, rfl, by rw [h_upd2]; exact Sub.upd (Sub.refl _) _ hfr, inv ⟨by omega, hlt⟩, by omega⟩
          · obtain ⟨a1, a2, a3⟩ := t5 (.inr rfl)
            obtain ⟨j1, j2, j3, j4⟩ := jx a1 a2 (by omega)
            obtain ⟨y, y1, y2⟩ := t3 (by omega) (by omega)
            obtain ⟨k1, k2, k3⟩ := nx y1 y2
            repeat' ((first | (with_reducible first | refine wr ?_ | refine i_ret ?_ | refine i_skip ?_ | refine i_exit ?_) | ((with_reducible first | refine k_cb ?_ ?_ | refine k_gb ?_ ?_ | refine k_gb' ?_ ?_) <;> (intro hb; try simp only [hb]))) <;> try simp only [go_sem, Nat.reduceAdd, Nat.reduceLeDiff, Nat.reduceEqDiff, Nat.reduceMul, Nat.reduceSub, ↓reduceIte, Int.reduceLT, Int.reduceLE, Int.reduceGT, Int.reduceGE, Nat.reduceLT, Nat.reduceGT, Int.reduceToNat, reduceCtorEq, Nat.reduceBEq, Int.reduceBEq, Int.reduceBNe, Int.reduceEq, Int.reduceNe, decide_true, decide_false, Int.reduceBEq, Int.reduceBNe, bne_self_eq_false, hd, hg, d1, d48, hw, wx, wy, hgi, hD0, hfr, j1, j2, j3, j4, k1, k2, k3, ne0, ne1])
            exact ⟨i + 1, rfl, by rw [h_upd2]; exact Sub.upd (Sub.refl _) _ hfr, inv ⟨by omega, hlt⟩, by omega⟩
          · obtain rfl := t2 rfl
            repeat' ((first | (with_reducible first | refine wr ?_ | refine i_ret ?_ | refine i_skip ?_ | refine i_exit ?_) | ((with_reducible first | refine k_cb ?_ ?_ | refine k_gb ?_ ?_ | refine k_gb' ?_ ?_) <;> (intro hb; try simp only [hb]))) <;> try simp only [go_sem, Nat.reduceAdd, Nat.reduceLeDiff, Nat.reduceEqDiff, Nat.reduceMul, Nat.reduceSub, ↓reduceIte, Int.reduceLT, Int.reduceLE, Int.reduceGT, Int.reduceGE, Nat.reduceLT, Nat.reduceGT, Int.reduceToNat, reduceCtorEq, Nat.reduceBEq, Int.reduceBEq, Int.reduceBNe, Int.reduceEq, Int.reduceNe, decide_true, decide_false, Int.reduceBEq, Int.reduceBNe, bne_self_eq_false, hd, hg, d1, d48, hw, wx, wy, hgi, hD0, hfr, ne0, ne1])
            exact ⟨i + 1, rfl, by rw [h_upd2]; exact Sub.upd (Sub.refl _) _ hfr, inv ⟨by omega, hlt⟩, by omega⟩
          · have y1 := t6 (.inl rfl)
            obtain ⟨y, y3, y2⟩ := t3 (by omega) (by omega)
            rw [y1] at y3
            cases y3
            obtain ⟨k1, k2, k3⟩ := nx y1 y2
            repeat' ((first | (with_reducible first | refine wr ?_ | refine i_ret ?_ | refine i_skip ?_ | refine i_exit ?_) | ((with_reducible first | refine k_cb ?_ ?_ | refine k_gb ?_ ?_ | refine k_gb' ?_ ?_) <;> (intro hb; try simp only [hb]))) <;> try simp only [go_sem, Nat.reduceAdd, Nat.reduceLeDiff, Nat.reduceEqDiff, Nat.reduceMul, Nat.reduceSub, ↓reduceIte, Int.reduceLT, Int.reduceLE, Int.reduceGT, Int.reduceGE, Nat.reduceLT, Nat.reduceGT, Int.reduceToNat, reduceCtorEq, Nat.reduceBEq, Int.reduceBEq, Int.reduceBNe, Int.reduceEq, Int.reduceNe, decide_true, decide_false, Int.reduceBEq, Int.reduceBNe, bne_self_eq_false, hd, hg, d1, d48, hw, wx, wy, hgi, hD0, hfr, k1, k2, k3, ne0, ne1])
            exact ⟨i + 1, rfl, by rw [h_upd2]; exact Sub.upd (Sub.refl _) _ hfr, inv ⟨by omega, hlt⟩, by omega⟩
          · have y1 := t6 (.inr (.inl rfl))
            obtain ⟨y, y3, y2⟩ := t3 (by omega) (by omega)
            rw [y1] at y3
            cases y3
            obtain ⟨k1, k2, k3⟩ := nx y1 y2
            repeat' ((first | (with_reducible first | refine wr ?_ | refine i_ret ?_ | refine i_skip ?_ | refine i_exit ?_) | ((with_reducible first | refine k_cb ?_ ?_ | refine k_gb ?_ ?_ | refine k_gb' ?_ ?_) <;> (intro hb; try simp only [hb]))) <;> try simp only [go_sem, Nat.reduceAdd, Nat.reduceLeDiff, Nat.reduceEqDiff, Nat.reduceMul, Nat.reduceSub, ↓reduceIte, Int.reduceLT, Int.reduceLE, Int.reduceGT, Int.reduceGE, Nat.reduceLT, Nat.reduceGT, Int.reduceToNat, reduceCtorEq, Nat.reduceBEq, Int.reduceBEq, Int.reduceBNe, Int.reduceEq, Int.reduceNe, decide_true, decide_false, Int.reduceBEq, Int.reduceBNe, bne_self_eq_false, hd, hg, d1, d48, hw, wx, wy, hgi, hD0, hfr, k1, k2, k3, ne0, ne1])
            exact ⟨i + 1, rfl, by rw [h_upd2]; exact Sub.upd (Sub.refl _) _ hfr, inv ⟨by omega, hlt⟩, by omega⟩
          · have y1 := t6 (.inr (.inr rfl))
            obtain ⟨y, y3, y2⟩ := t3 (by omega) (by omega)
            rw [y1] at y3
            cases y3
            obtain ⟨k1, k2, k3⟩ := nx y1 y2
            repeat' ((first | (with_reducible first | refine wr ?_ | refine i_ret ?_ | refine i_skip ?_ | refine i_exit ?_) | ((with_reducible first | refine k_cb ?_ ?_ | refine k_gb ?_ ?_ | refine k_gb' ?_ ?_) <;> (intro hb; try simp only [hb]))) <;> try simp only [go_sem, Nat.reduceAdd, Nat.reduceLeDiff, Nat.reduceEqDiff, Nat.reduceMul, Nat.reduceSub, ↓reduceIte, Int.reduceLT, Int.reduceLE, Int.reduceGT, Int.reduceGE, Nat.reduceLT, Nat.reduceGT, Int.reduceToNat, reduceCtorEq, Nat.reduceBEq, Int.reduceBEq, Int.reduceBNe, Int.reduceEq, Int.reduceNe, decide_true, decide_false, Int.reduceBEq, Int.reduceBNe, bne_self_eq_false, hd, hg, d1, d48, hw, wx, wy, hgi, hD0, hfr, k1, k2, k3, ne0, ne1])
            exact ⟨i + 1, rfl, by rw [h_upd2]; exact Sub.upd (Sub.refl _) _ hfr, inv ⟨by omega, hlt⟩, by omega⟩
          · have y1 := t7 rfl
            obtain ⟨k1, k2, k3⟩ := nx y1 (by omega)
            repeat' ((first | (with_reducible first | refine wr ?_ | refine i_ret ?_ | refine i_skip ?_ | refine i_exit ?_) | ((with_reducible first | refine k_cb ?_ ?_ | refine k_gb ?_ ?_ | refine k_gb' ?_ ?_) <;> (intro hb; try simp only [hb]))) <;> try simp only [go_sem, Nat.reduceAdd, Nat.reduceLeDiff, Nat.reduceEqDiff, Nat.reduceMul, Nat.reduceSub, ↓reduceIte, Int.reduceLT, Int.reduceLE, Int.reduceGT, Int.reduceGE, Nat.reduceLT, Nat.reduceGT, Int.reduceToNat, reduceCtorEq, Nat.reduceBEq, Int.reduceBEq, Int.reduceBNe, Int.reduceEq, Int.reduceNe, decide_true, decide_false, Int.reduceBEq, Int.reduceBNe, bne_self_eq_false, hd, hg, d1, d48, hw, wx, wy, hgi, hD0, hfr, k1, k2, k3, ne0, ne1])
            exact ⟨i + 1, rfl, by rw [h_upd2]; exact Sub.upd (Sub.refl _) _ hfr, inv ⟨by omega, hlt⟩, by omega⟩
          · obtain ⟨y, y1, y2⟩ := t3 n12 n31
            obtain ⟨k1, k2, k3⟩ := nx y1 y2
            have b12 : (op == 12) = false := by simpa using n12
            have b13 : (op == 13) = false := by simpa using n13
            have b14 : (op == 14) = false := by simpa using n14
            have b31 : (op == 31) = false := by simpa using n31
            have b3 : (op == 3) = false := by simpa using n3
            have b15 : (op == 15) = false := by simpa using n15
            have b11 : (op == 11) = false := by simpa using n11
            have b1 : (op == 1) = false := by simpa using n1
            have c12 : (op != 12) = true := by simpa using n12
            have c31 : (op != 31) = true := by simpa using n31
            repeat' ((first | (with_reducible first | refine wr ?_ | refine i_ret ?_ | refine i_skip ?_ | refine i_exit ?_) | ((with_reducible first | refine k_cb ?_ ?_ | refine k_gb ?_ ?_ | refine k_gb' ?_ ?_) <;> (intro hb; try simp only [hb]))) <;> try simp only [go_sem, Nat.reduceAdd, Nat.reduceLeDiff, Nat.reduceEqDiff, Nat.reduceMul, Nat.reduceSub, ↓reduceIte, Int.reduceLT, Int.reduceLE, Int.reduceGT, Int.reduceGE, Nat.reduceLT, Nat.reduceGT, Int.reduceToNat, reduceCtorEq, Nat.reduceBEq, Int.reduceBEq, Int.reduceBNe, Int.reduceEq, Int.reduceNe, decide_true, decide_false, b12, b13, b14, b31, b3, b15, b11, b1, c12, c31, Int.reduceBEq, Int.reduceBNe, bne_self_eq_false, hd, hg, d1, d48, hw, wx, wy, hgi, hD0, hfr, k1, k2, k3, ne0, ne1])
            exact ⟨i + 1, rfl, by rw [h_upd2]; exact Sub.upd (Sub.refl _) _ hfr, inv ⟨by omega, hlt⟩, by omega⟩
      · have hd : decide ((i : Int) < ((h.length : Nat) : Int)) = false := by simp; omega
        repeat' ((first | (with_reducible first | refine wr ?_ | refine i_ret ?_ | refine i_skip ?_ | refine i_exit ?_) | ((with_reducible first | refine k_cb ?_ ?_ | refine k_gb ?_ ?_ | refine k_gb' ?_ ?_) <;> (intro hb; try simp only [hb])) | ((with_reducible refine AC.call ((c_sane).at _ _) ?_); rintro _ _ _ ⟨rfl, rfl, rfl⟩ -)) <;> try simp only [go_sem, Nat.reduceAdd, Nat.reduceLeDiff, Nat.reduceEqDiff, Nat.reduceMul, Nat.reduceSub, ↓reduceIte, Int.reduceLT, Int.reduceLE, Int.reduceGT, Int.reduceGE, Nat.reduceLT, Nat.reduceGT, Int.reduceToNat, reduceCtorEq, Nat.reduceBEq, Int.reduceBEq, Int.reduceBNe, Int.reduceEq, Int.reduceNe, decide_true, decide_false, hd])
        exact pc_ret rfl
  · have hz : (validM c != 0) = true := by simp [h0]
    repeat' ((first | (with_reducible first | refine wr ?_ | refine i_ret ?_ | refine i_skip ?_ | refine i_exit ?_) | ((with_reducible first | refine k_cb ?_ ?_ | refine k_gb ?_ ?_ | refine k_gb' ?_ ?_) <;> (intro hb; try simp only [hb])) | ((with_reducible refine AC.call ((cB).at _ _) ?_); rintro _ _ _ ⟨rfl, rfl, rfl⟩ -) | ((with_reducible refine AC.call ((cH).at _ _) ?_); rintro _ _ _ ⟨rfl, rfl, rfl⟩ -) | ((with_reducible refine AC.call ((c_sane).at _ _) ?_); rintro _ _ _ ⟨rfl, rfl, rfl⟩ -)) <;> try simp only [go_sem, Nat.reduceAdd, Nat.reduceLeDiff, Nat.reduceEqDiff, Nat.reduceMul, Nat.reduceSub, ↓reduceIte, Int.reduceLT, Int.reduceLE, Int.reduceGT, Int.reduceGE, Nat.reduceLT, Nat.reduceGT, Int.reduceToNat, reduceCtorEq, Nat.reduceBEq, Int.reduceBEq, Int.reduceBNe, Int.reduceEq, Int.reduceNe, decide_true, decide_false, hz])
    exact pc_ret rfl
end Go.Proofs.YtcallbfckjlagaaDoor

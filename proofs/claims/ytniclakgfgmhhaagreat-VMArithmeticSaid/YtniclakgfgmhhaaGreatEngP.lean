/-
  THE ENGINE, part P: the parts of a faster run, written with recursors whose cases are constants, so that the kernel has little to copy.
-/
import Derived.Test.YtniclakgfgmhhaaGreatEngO
import Derived.KernelRfl
set_option linter.unusedVariables false
set_option linter.unusedSimpArgs false
namespace Go.Eng

/-! ### frames: three levels of eight -/
inductive D8 where
  | d0
  | d1
  | d2
  | d3
  | d4
  | d5
  | d6
  | d7
  deriving DecidableEq
structure N8 (α : Type) where
  a0 : α
  a1 : α
  a2 : α
  a3 : α
  a4 : α
  a5 : α
  a6 : α
  a7 : α

noncomputable def sel (α : Type) (d : D8) : N8 α → α := @D8.rec (fun _ => N8 α → α) N8.a0 N8.a1 N8.a2 N8.a3 N8.a4 N8.a5 N8.a6 N8.a7 d
noncomputable def pc0 (α : Type) (h : α → Value → α) (a0 a1 a2 a3 a4 a5 a6 a7 : α) (v : Value) : N8 α := N8.mk (h a0 v) a1 a2 a3 a4 a5 a6 a7
noncomputable def pc1 (α : Type) (h : α → Value → α) (a0 a1 a2 a3 a4 a5 a6 a7 : α) (v : Value) : N8 α := N8.mk a0 (h a1 v) a2 a3 a4 a5 a6 a7
noncomputable def pc2 (α : Type) (h : α → Value → α) (a0 a1 a2 a3 a4 a5 a6 a7 : α) (v : Value) : N8 α := N8.mk a0 a1 (h a2 v) a3 a4 a5 a6 a7
noncomputable def pc3 (α : Type) (h : α → Value → α) (a0 a1 a2 a3 a4 a5 a6 a7 : α) (v : Value) : N8 α := N8.mk a0 a1 a2 (h a3 v) a4 a5 a6 a7
noncomputable def pc4 (α : Type) (h : α → Value → α) (a0 a1 a2 a3 a4 a5 a6 a7 : α) (v : Value) : N8 α := N8.mk a0 a1 a2 a3 (h a4 v) a5 a6 a7
noncomputable def pc5 (α : Type) (h : α → Value → α) (a0 a1 a2 a3 a4 a5 a6 a7 : α) (v : Value) : N8 α := N8.mk a0 a1 a2 a3 a4 (h a5 v) a6 a7
noncomputable def pc6 (α : Type) (h : α → Value → α) (a0 a1 a2 a3 a4 a5 a6 a7 : α) (v : Value) : N8 α := N8.mk a0 a1 a2 a3 a4 a5 (h a6 v) a7
noncomputable def pc7 (α : Type) (h : α → Value → α) (a0 a1 a2 a3 a4 a5 a6 a7 : α) (v : Value) : N8 α := N8.mk a0 a1 a2 a3 a4 a5 a6 (h a7 v)
noncomputable def put (α : Type) (d : D8) : (α → Value → α) → N8 α → Value → N8 α := @D8.rec (fun _ => (α → Value → α) → N8 α → Value → N8 α) (fun h => @N8.rec α (fun _ => Value → N8 α) (pc0 α h)) (fun h => @N8.rec α (fun _ => Value → N8 α) (pc1 α h)) (fun h => @N8.rec α (fun _ => Value → N8 α) (pc2 α h)) (fun h => @N8.rec α (fun _ => Value → N8 α) (pc3 α h)) (fun h => @N8.rec α (fun _ => Value → N8 α) (pc4 α h)) (fun h => @N8.rec α (fun _ => Value → N8 α) (pc5 α h)) (fun h => @N8.rec α (fun _ => Value → N8 α) (pc6 α h)) (fun h => @N8.rec α (fun _ => Value → N8 α) (pc7 α h)) d

theorem sel_put {α : Type} (i j : D8) (h : α → Value → α) (f : N8 α) (v : Value) : sel α i (put α j h f v) = if i = j then h (sel α j f) v else sel α i f := by
  cases f
  cases i <;> cases j <;> rfl

abbrev R1 := N8 Value
abbrev R2 := N8 R1
abbrev Fr := N8 R2
structure RdW where
  f : Fr → Value
structure WrW where
  f : Fr → Value → Fr
noncomputable def setV (_ v : Value) : Value := v
noncomputable def pl0 (a0 a1 a2 a3 a4 a5 a6 a7 v : Value) : R1 := N8.mk v a1 a2 a3 a4 a5 a6 a7
noncomputable def q1_0 : R1 → Value → R1 := @N8.rec Value (fun _ => Value → R1) pl0
noncomputable def pl1 (a0 a1 a2 a3 a4 a5 a6 a7 v : Value) : R1 := N8.mk a0 v a2 a3 a4 a5 a6 a7
noncomputable def q1_1 : R1 → Value → R1 := @N8.rec Value (fun _ => Value → R1) pl1
noncomputable def pl2 (a0 a1 a2 a3 a4 a5 a6 a7 v : Value) : R1 := N8.mk a0 a1 v a3 a4 a5 a6 a7
noncomputable def q1_2 : R1 → Value → R1 := @N8.rec Value (fun _ => Value → R1) pl2
noncomputable def pl3 (a0 a1 a2 a3 a4 a5 a6 a7 v : Value) : R1 := N8.mk a0 a1 a2 v a4 a5 a6 a7
noncomputable def q1_3 : R1 → Value → R1 := @N8.rec Value (fun _ => Value → R1) pl3
noncomputable def pl4 (a0 a1 a2 a3 a4 a5 a6 a7 v : Value) : R1 := N8.mk a0 a1 a2 a3 v a5 a6 a7
noncomputable def q1_4 : R1 → Value → R1 := @N8.rec Value (fun _ => Value → R1) pl4
noncomputable def pl5 (a0 a1 a2 a3 a4 a5 a6 a7 v : Value) : R1 := N8.mk a0 a1 a2 a3 a4 v a6 a7
noncomputable def q1_5 : R1 → Value → R1 := @N8.rec Value (fun _ => Value → R1) pl5
noncomputable def pl6 (a0 a1 a2 a3 a4 a5 a6 a7 v : Value) : R1 := N8.mk a0 a1 a2 a3 a4 a5 v a7
noncomputable def q1_6 : R1 → Value → R1 := @N8.rec Value (fun _ => Value → R1) pl6
noncomputable def pl7 (a0 a1 a2 a3 a4 a5 a6 a7 v : Value) : R1 := N8.mk a0 a1 a2 a3 a4 a5 a6 v
noncomputable def q1_7 : R1 → Value → R1 := @N8.rec Value (fun _ => Value → R1) pl7
noncomputable def q2_0 : R2 → Value → R2 := @N8.rec R1 (fun _ => Value → R2) (pc0 R1 q1_0)
noncomputable def q2_1 : R2 → Value → R2 := @N8.rec R1 (fun _ => Value → R2) (pc0 R1 q1_1)
noncomputable def q2_2 : R2 → Value → R2 := @N8.rec R1 (fun _ => Value → R2) (pc0 R1 q1_2)
noncomputable def q2_3 : R2 → Value → R2 := @N8.rec R1 (fun _ => Value → R2) (pc0 R1 q1_3)
noncomputable def q2_4 : R2 → Value → R2 := @N8.rec R1 (fun _ => Value → R2) (pc0 R1 q1_4)
noncomputable def q2_5 : R2 → Value → R2 := @N8.rec R1 (fun _ => Value → R2) (pc0 R1 q1_5)
noncomputable def q2_6 : R2 → Value → R2 := @N8.rec R1 (fun _ => Value → R2) (pc0 R1 q1_6)
noncomputable def q2_7 : R2 → Value → R2 := @N8.rec R1 (fun _ => Value → R2) (pc0 R1 q1_7)
noncomputable def q2_8 : R2 → Value → R2 := @N8.rec R1 (fun _ => Value → R2) (pc1 R1 q1_0)
noncomputable def q2_9 : R2 → Value → R2 := @N8.rec R1 (fun _ => Value → R2) (pc1 R1 q1_1)
noncomputable def q2_10 : R2 → Value → R2 := @N8.rec R1 (fun _ => Value → R2) (pc1 R1 q1_2)
noncomputable def q2_11 : R2 → Value → R2 := @N8.rec R1 (fun _ => Value → R2) (pc1 R1 q1_3)
noncomputable def q2_12 : R2 → Value → R2 := @N8.rec R1 (fun _ => Value → R2) (pc1 R1 q1_4)
noncomputable def q2_13 : R2 → Value → R2 := @N8.rec R1 (fun _ => Value → R2) (pc1 R1 q1_5)
noncomputable def q2_14 : R2 → Value → R2 := @N8.rec R1 (fun _ => Value → R2) (pc1 R1 q1_6)
noncomputable def q2_15 : R2 → Value → R2 := @N8.rec R1 (fun _ => Value → R2) (pc1 R1 q1_7)
noncomputable def q2_16 : R2 → Value → R2 := @N8.rec R1 (fun _ => Value → R2) (pc2 R1 q1_0)
noncomputable def q2_17 : R2 → Value → R2 := @N8.rec R1 (fun _ => Value → R2) (pc2 R1 q1_1)
noncomputable def q2_18 : R2 → Value → R2 := @N8.rec R1 (fun _ => Value → R2) (pc2 R1 q1_2)
noncomputable def q2_19 : R2 → Value → R2 := @N8.rec R1 (fun _ => Value → R2) (pc2 R1 q1_3)
noncomputable def q2_20 : R2 → Value → R2 := @N8.rec R1 (fun _ => Value → R2) (pc2 R1 q1_4)
noncomputable def q2_21 : R2 → Value → R2 := @N8.rec R1 (fun _ => Value → R2) (pc2 R1 q1_5)
noncomputable def q2_22 : R2 → Value → R2 := @N8.rec R1 (fun _ => Value → R2) (pc2 R1 q1_6)
noncomputable def q2_23 : R2 → Value → R2 := @N8.rec R1 (fun _ => Value → R2) (pc2 R1 q1_7)
noncomputable def q2_24 : R2 → Value → R2 := @N8.rec R1 (fun _ => Value → R2) (pc3 R1 q1_0)
noncomputable def q2_25 : R2 → Value → R2 := @N8.rec R1 (fun _ => Value → R2) (pc3 R1 q1_1)
noncomputable def q2_26 : R2 → Value → R2 := @N8.rec R1 (fun _ => Value → R2) (pc3 R1 q1_2)
noncomputable def q2_27 : R2 → Value → R2 := @N8.rec R1 (fun _ => Value → R2) (pc3 R1 q1_3)
noncomputable def q2_28 : R2 → Value → R2 := @N8.rec R1 (fun _ => Value → R2) (pc3 R1 q1_4)
noncomputable def q2_29 : R2 → Value → R2 := @N8.rec R1 (fun _ => Value → R2) (pc3 R1 q1_5)
noncomputable def q2_30 : R2 → Value → R2 := @N8.rec R1 (fun _ => Value → R2) (pc3 R1 q1_6)
noncomputable def q2_31 : R2 → Value → R2 := @N8.rec R1 (fun _ => Value → R2) (pc3 R1 q1_7)
noncomputable def q2_32 : R2 → Value → R2 := @N8.rec R1 (fun _ => Value → R2) (pc4 R1 q1_0)
noncomputable def q2_33 : R2 → Value → R2 := @N8.rec R1 (fun _ => Value → R2) (pc4 R1 q1_1)
noncomputable def q2_34 : R2 → Value → R2 := @N8.rec R1 (fun _ => Value → R2) (pc4 R1 q1_2)
noncomputable def q2_35 : R2 → Value → R2 := @N8.rec R1 (fun _ => Value → R2) (pc4 R1 q1_3)
noncomputable def q2_36 : R2 → Value → R2 := @N8.rec R1 (fun _ => Value → R2) (pc4 R1 q1_4)
noncomputable def q2_37 : R2 → Value → R2 := @N8.rec R1 (fun _ => Value → R2) (pc4 R1 q1_5)
noncomputable def q2_38 : R2 → Value → R2 := @N8.rec R1 (fun _ => Value → R2) (pc4 R1 q1_6)
noncomputable def q2_39 : R2 → Value → R2 := @N8.rec R1 (fun _ => Value → R2) (pc4 R1 q1_7)
noncomputable def q2_40 : R2 → Value → R2 := @N8.rec R1 (fun _ => Value → R2) (pc5 R1 q1_0)
noncomputable def q2_41 : R2 → Value → R2 := @N8.rec R1 (fun _ => Value → R2) (pc5 R1 q1_1)
noncomputable def q2_42 : R2 → Value → R2 := @N8.rec R1 (fun _ => Value → R2) (pc5 R1 q1_2)
noncomputable def q2_43 : R2 → Value → R2 := @N8.rec R1 (fun _ => Value → R2) (pc5 R1 q1_3)
noncomputable def q2_44 : R2 → Value → R2 := @N8.rec R1 (fun _ => Value → R2) (pc5 R1 q1_4)
noncomputable def q2_45 : R2 → Value → R2 := @N8.rec R1 (fun _ => Value → R2) (pc5 R1 q1_5)
noncomputable def q2_46 : R2 → Value → R2 := @N8.rec R1 (fun _ => Value → R2) (pc5 R1 q1_6)
noncomputable def q2_47 : R2 → Value → R2 := @N8.rec R1 (fun _ => Value → R2) (pc5 R1 q1_7)
noncomputable def q2_48 : R2 → Value → R2 := @N8.rec R1 (fun _ => Value → R2) (pc6 R1 q1_0)
noncomputable def q2_49 : R2 → Value → R2 := @N8.rec R1 (fun _ => Value → R2) (pc6 R1 q1_1)
noncomputable def q2_50 : R2 → Value → R2 := @N8.rec R1 (fun _ => Value → R2) (pc6 R1 q1_2)
noncomputable def q2_51 : R2 → Value → R2 := @N8.rec R1 (fun _ => Value → R2) (pc6 R1 q1_3)
noncomputable def q2_52 : R2 → Value → R2 := @N8.rec R1 (fun _ => Value → R2) (pc6 R1 q1_4)
noncomputable def q2_53 : R2 → Value → R2 := @N8.rec R1 (fun _ => Value → R2) (pc6 R1 q1_5)
noncomputable def q2_54 : R2 → Value → R2 := @N8.rec R1 (fun _ => Value → R2) (pc6 R1 q1_6)
noncomputable def q2_55 : R2 → Value → R2 := @N8.rec R1 (fun _ => Value → R2) (pc6 R1 q1_7)
noncomputable def q2_56 : R2 → Value → R2 := @N8.rec R1 (fun _ => Value → R2) (pc7 R1 q1_0)
noncomputable def q2_57 : R2 → Value → R2 := @N8.rec R1 (fun _ => Value → R2) (pc7 R1 q1_1)
noncomputable def q2_58 : R2 → Value → R2 := @N8.rec R1 (fun _ => Value → R2) (pc7 R1 q1_2)
noncomputable def q2_59 : R2 → Value → R2 := @N8.rec R1 (fun _ => Value → R2) (pc7 R1 q1_3)
noncomputable def q2_60 : R2 → Value → R2 := @N8.rec R1 (fun _ => Value → R2) (pc7 R1 q1_4)
noncomputable def q2_61 : R2 → Value → R2 := @N8.rec R1 (fun _ => Value → R2) (pc7 R1 q1_5)
noncomputable def q2_62 : R2 → Value → R2 := @N8.rec R1 (fun _ => Value → R2) (pc7 R1 q1_6)
noncomputable def q2_63 : R2 → Value → R2 := @N8.rec R1 (fun _ => Value → R2) (pc7 R1 q1_7)
noncomputable def r0 (fr : Fr) : Value := N8.a0 (N8.a0 (N8.a0 fr))
noncomputable def w0 : Fr → Value → Fr := @N8.rec R2 (fun _ => Value → Fr) (pc0 R2 q2_0)
noncomputable def r1 (fr : Fr) : Value := N8.a1 (N8.a0 (N8.a0 fr))
noncomputable def w1 : Fr → Value → Fr := @N8.rec R2 (fun _ => Value → Fr) (pc0 R2 q2_1)
noncomputable def r2 (fr : Fr) : Value := N8.a2 (N8.a0 (N8.a0 fr))
noncomputable def w2 : Fr → Value → Fr := @N8.rec R2 (fun _ => Value → Fr) (pc0 R2 q2_2)
noncomputable def r3 (fr : Fr) : Value := N8.a3 (N8.a0 (N8.a0 fr))
noncomputable def w3 : Fr → Value → Fr := @N8.rec R2 (fun _ => Value → Fr) (pc0 R2 q2_3)
noncomputable def r4 (fr : Fr) : Value := N8.a4 (N8.a0 (N8.a0 fr))
noncomputable def w4 : Fr → Value → Fr := @N8.rec R2 (fun _ => Value → Fr) (pc0 R2 q2_4)
noncomputable def r5 (fr : Fr) : Value := N8.a5 (N8.a0 (N8.a0 fr))
noncomputable def w5 : Fr → Value → Fr := @N8.rec R2 (fun _ => Value → Fr) (pc0 R2 q2_5)
noncomputable def r6 (fr : Fr) : Value := N8.a6 (N8.a0 (N8.a0 fr))
noncomputable def w6 : Fr → Value → Fr := @N8.rec R2 (fun _ => Value → Fr) (pc0 R2 q2_6)
noncomputable def r7 (fr : Fr) : Value := N8.a7 (N8.a0 (N8.a0 fr))
noncomputable def w7 : Fr → Value → Fr := @N8.rec R2 (fun _ => Value → Fr) (pc0 R2 q2_7)
noncomputable def r8 (fr : Fr) : Value := N8.a0 (N8.a1 (N8.a0 fr))
noncomputable def w8 : Fr → Value → Fr := @N8.rec R2 (fun _ => Value → Fr) (pc0 R2 q2_8)
noncomputable def r9 (fr : Fr) : Value := N8.a1 (N8.a1 (N8.a0 fr))
noncomputable def w9 : Fr → Value → Fr := @N8.rec R2 (fun _ => Value → Fr) (pc0 R2 q2_9)
noncomputable def r10 (fr : Fr) : Value := N8.a2 (N8.a1 (N8.a0 fr))
noncomputable def w10 : Fr → Value → Fr := @N8.rec R2 (fun _ => Value → Fr) (pc0 R2 q2_10)
noncomputable def r11 (fr : Fr) : Value := N8.a3 (N8.a1 (N8.a0 fr))
noncomputable def w11 : Fr → Value → Fr := @N8.rec R2 (fun _ => Value → Fr) (pc0 R2 q2_11)
noncomputable def r12 (fr : Fr) : Value := N8.a4 (N8.a1 (N8.a0 fr))
noncomputable def w12 : Fr → Value → Fr := @N8.rec R2 (fun _ => Value → Fr) (pc0 R2 q2_12)
noncomputable def r13 (fr : Fr) : Value := N8.a5 (N8.a1 (N8.a0 fr))
noncomputable def w13 : Fr → Value → Fr := @N8.rec R2 (fun _ => Value → Fr) (pc0 R2 q2_13)
noncomputable def r14 (fr : Fr) : Value := N8.a6 (N8.a1 (N8.a0 fr))
noncomputable def w14 : Fr → Value → Fr := @N8.rec R2 (fun _ => Value → Fr) (pc0 R2 q2_14)
noncomputable def r15 (fr : Fr) : Value := N8.a7 (N8.a1 (N8.a0 fr))
noncomputable def w15 : Fr → Value → Fr := @N8.rec R2 (fun _ => Value → Fr) (pc0 R2 q2_15)
noncomputable def r16 (fr : Fr) : Value := N8.a0 (N8.a2 (N8.a0 fr))
noncomputable def w16 : Fr → Value → Fr := @N8.rec R2 (fun _ => Value → Fr) (pc0 R2 q2_16)
noncomputable def r17 (fr : Fr) : Value := N8.a1 (N8.a2 (N8.a0 fr))
noncomputable def w17 : Fr → Value → Fr := @N8.rec R2 (fun _ => Value → Fr) (pc0 R2 q2_17)
noncomputable def r18 (fr : Fr) : Value := N8.a2 (N8.a2 (N8.a0 fr))
noncomputable def w18 : Fr → Value → Fr := @N8.rec R2 (fun _ => Value → Fr) (pc0 R2 q2_18)
noncomputable def r19 (fr : Fr) : Value := N8.a3 (N8.a2 (N8.a0 fr))
noncomputable def w19 : Fr → Value → Fr := @N8.rec R2 (fun _ => Value → Fr) (pc0 R2 q2_19)
noncomputable def r20 (fr : Fr) : Value := N8.a4 (N8.a2 (N8.a0 fr))
noncomputable def w20 : Fr → Value → Fr := @N8.rec R2 (fun _ => Value → Fr) (pc0 R2 q2_20)
noncomputable def r21 (fr : Fr) : Value := N8.a5 (N8.a2 (N8.a0 fr))
noncomputable def w21 : Fr → Value → Fr := @N8.rec R2 (fun _ => Value → Fr) (pc0 R2 q2_21)
noncomputable def r22 (fr : Fr) : Value := N8.a6 (N8.a2 (N8.a0 fr))
noncomputable def w22 : Fr → Value → Fr := @N8.rec R2 (fun _ => Value → Fr) (pc0 R2 q2_22)
noncomputable def r23 (fr : Fr) : Value := N8.a7 (N8.a2 (N8.a0 fr))
noncomputable def w23 : Fr → Value → Fr := @N8.rec R2 (fun _ => Value → Fr) (pc0 R2 q2_23)
noncomputable def r24 (fr : Fr) : Value := N8.a0 (N8.a3 (N8.a0 fr))
noncomputable def w24 : Fr → Value → Fr := @N8.rec R2 (fun _ => Value → Fr) (pc0 R2 q2_24)
noncomputable def r25 (fr : Fr) : Value := N8.a1 (N8.a3 (N8.a0 fr))
noncomputable def w25 : Fr → Value → Fr := @N8.rec R2 (fun _ => Value → Fr) (pc0 R2 q2_25)
noncomputable def r26 (fr : Fr) : Value := N8.a2 (N8.a3 (N8.a0 fr))
noncomputable def w26 : Fr → Value → Fr := @N8.rec R2 (fun _ => Value → Fr) (pc0 R2 q2_26)
noncomputable def r27 (fr : Fr) : Value := N8.a3 (N8.a3 (N8.a0 fr))
noncomputable def w27 : Fr → Value → Fr := @N8.rec R2 (fun _ => Value → Fr) (pc0 R2 q2_27)
noncomputable def r28 (fr : Fr) : Value := N8.a4 (N8.a3 (N8.a0 fr))
noncomputable def w28 : Fr → Value → Fr := @N8.rec R2 (fun _ => Value → Fr) (pc0 R2 q2_28)
noncomputable def r29 (fr : Fr) : Value := N8.a5 (N8.a3 (N8.a0 fr))
noncomputable def w29 : Fr → Value → Fr := @N8.rec R2 (fun _ => Value → Fr) (pc0 R2 q2_29)
noncomputable def r30 (fr : Fr) : Value := N8.a6 (N8.a3 (N8.a0 fr))
noncomputable def w30 : Fr → Value → Fr := @N8.rec R2 (fun _ => Value → Fr) (pc0 R2 q2_30)
noncomputable def r31 (fr : Fr) : Value := N8.a7 (N8.a3 (N8.a0 fr))
noncomputable def w31 : Fr → Value → Fr := @N8.rec R2 (fun _ => Value → Fr) (pc0 R2 q2_31)
noncomputable def r32 (fr : Fr) : Value := N8.a0 (N8.a4 (N8.a0 fr))
noncomputable def w32 : Fr → Value → Fr := @N8.rec R2 (fun _ => Value → Fr) (pc0 R2 q2_32)
noncomputable def r33 (fr : Fr) : Value := N8.a1 (N8.a4 (N8.a0 fr))
noncomputable def w33 : Fr → Value → Fr := @N8.rec R2 (fun _ => Value → Fr) (pc0 R2 q2_33)
noncomputable def r34 (fr : Fr) : Value := N8.a2 (N8.a4 (N8.a0 fr))
noncomputable def w34 : Fr → Value → Fr := @N8.rec R2 (fun _ => Value → Fr) (pc0 R2 q2_34)
noncomputable def r35 (fr : Fr) : Value := N8.a3 (N8.a4 (N8.a0 fr))
noncomputable def w35 : Fr → Value → Fr := @N8.rec R2 (fun _ => Value → Fr) (pc0 R2 q2_35)
noncomputable def r36 (fr : Fr) : Value := N8.a4 (N8.a4 (N8.a0 fr))
noncomputable def w36 : Fr → Value → Fr := @N8.rec R2 (fun _ => Value → Fr) (pc0 R2 q2_36)
noncomputable def r37 (fr : Fr) : Value := N8.a5 (N8.a4 (N8.a0 fr))
noncomputable def w37 : Fr → Value → Fr := @N8.rec R2 (fun _ => Value → Fr) (pc0 R2 q2_37)
noncomputable def r38 (fr : Fr) : Value := N8.a6 (N8.a4 (N8.a0 fr))
noncomputable def w38 : Fr → Value → Fr := @N8.rec R2 (fun _ => Value → Fr) (pc0 R2 q2_38)
noncomputable def r39 (fr : Fr) : Value := N8.a7 (N8.a4 (N8.a0 fr))
noncomputable def w39 : Fr → Value → Fr := @N8.rec R2 (fun _ => Value → Fr) (pc0 R2 q2_39)
noncomputable def r40 (fr : Fr) : Value := N8.a0 (N8.a5 (N8.a0 fr))
noncomputable def w40 : Fr → Value → Fr := @N8.rec R2 (fun _ => Value → Fr) (pc0 R2 q2_40)
noncomputable def r41 (fr : Fr) : Value := N8.a1 (N8.a5 (N8.a0 fr))
noncomputable def w41 : Fr → Value → Fr := @N8.rec R2 (fun _ => Value → Fr) (pc0 R2 q2_41)
noncomputable def r42 (fr : Fr) : Value := N8.a2 (N8.a5 (N8.a0 fr))
noncomputable def w42 : Fr → Value → Fr := @N8.rec R2 (fun _ => Value → Fr) (pc0 R2 q2_42)
noncomputable def r43 (fr : Fr) : Value := N8.a3 (N8.a5 (N8.a0 fr))
noncomputable def w43 : Fr → Value → Fr := @N8.rec R2 (fun _ => Value → Fr) (pc0 R2 q2_43)
noncomputable def r44 (fr : Fr) : Value := N8.a4 (N8.a5 (N8.a0 fr))
noncomputable def w44 : Fr → Value → Fr := @N8.rec R2 (fun _ => Value → Fr) (pc0 R2 q2_44)
noncomputable def r45 (fr : Fr) : Value := N8.a5 (N8.a5 (N8.a0 fr))
noncomputable def w45 : Fr → Value → Fr := @N8.rec R2 (fun _ => Value → Fr) (pc0 R2 q2_45)
noncomputable def r46 (fr : Fr) : Value := N8.a6 (N8.a5 (N8.a0 fr))
noncomputable def w46 : Fr → Value → Fr := @N8.rec R2 (fun _ => Value → Fr) (pc0 R2 q2_46)
noncomputable def r47 (fr : Fr) : Value := N8.a7 (N8.a5 (N8.a0 fr))
noncomputable def w47 : Fr → Value → Fr := @N8.rec R2 (fun _ => Value → Fr) (pc0 R2 q2_47)
noncomputable def r48 (fr : Fr) : Value := N8.a0 (N8.a6 (N8.a0 fr))
noncomputable def w48 : Fr → Value → Fr := @N8.rec R2 (fun _ => Value → Fr) (pc0 R2 q2_48)
noncomputable def r49 (fr : Fr) : Value := N8.a1 (N8.a6 (N8.a0 fr))
noncomputable def w49 : Fr → Value → Fr := @N8.rec R2 (fun _ => Value → Fr) (pc0 R2 q2_49)
noncomputable def r50 (fr : Fr) : Value := N8.a2 (N8.a6 (N8.a0 fr))
noncomputable def w50 : Fr → Value → Fr := @N8.rec R2 (fun _ => Value → Fr) (pc0 R2 q2_50)
noncomputable def r51 (fr : Fr) : Value := N8.a3 (N8.a6 (N8.a0 fr))
noncomputable def w51 : Fr → Value → Fr := @N8.rec R2 (fun _ => Value → Fr) (pc0 R2 q2_51)
noncomputable def r52 (fr : Fr) : Value := N8.a4 (N8.a6 (N8.a0 fr))
noncomputable def w52 : Fr → Value → Fr := @N8.rec R2 (fun _ => Value → Fr) (pc0 R2 q2_52)
noncomputable def r53 (fr : Fr) : Value := N8.a5 (N8.a6 (N8.a0 fr))
noncomputable def w53 : Fr → Value → Fr := @N8.rec R2 (fun _ => Value → Fr) (pc0 R2 q2_53)
noncomputable def r54 (fr : Fr) : Value := N8.a6 (N8.a6 (N8.a0 fr))
noncomputable def w54 : Fr → Value → Fr := @N8.rec R2 (fun _ => Value → Fr) (pc0 R2 q2_54)
noncomputable def r55 (fr : Fr) : Value := N8.a7 (N8.a6 (N8.a0 fr))
noncomputable def w55 : Fr → Value → Fr := @N8.rec R2 (fun _ => Value → Fr) (pc0 R2 q2_55)
noncomputable def r56 (fr : Fr) : Value := N8.a0 (N8.a7 (N8.a0 fr))
noncomputable def w56 : Fr → Value → Fr := @N8.rec R2 (fun _ => Value → Fr) (pc0 R2 q2_56)
noncomputable def r57 (fr : Fr) : Value := N8.a1 (N8.a7 (N8.a0 fr))
noncomputable def w57 : Fr → Value → Fr := @N8.rec R2 (fun _ => Value → Fr) (pc0 R2 q2_57)
noncomputable def r58 (fr : Fr) : Value := N8.a2 (N8.a7 (N8.a0 fr))
noncomputable def w58 : Fr → Value → Fr := @N8.rec R2 (fun _ => Value → Fr) (pc0 R2 q2_58)
noncomputable def r59 (fr : Fr) : Value := N8.a3 (N8.a7 (N8.a0 fr))
noncomputable def w59 : Fr → Value → Fr := @N8.rec R2 (fun _ => Value → Fr) (pc0 R2 q2_59)
noncomputable def r60 (fr : Fr) : Value := N8.a4 (N8.a7 (N8.a0 fr))
noncomputable def w60 : Fr → Value → Fr := @N8.rec R2 (fun _ => Value → Fr) (pc0 R2 q2_60)
noncomputable def r61 (fr : Fr) : Value := N8.a5 (N8.a7 (N8.a0 fr))
noncomputable def w61 : Fr → Value → Fr := @N8.rec R2 (fun _ => Value → Fr) (pc0 R2 q2_61)
noncomputable def r62 (fr : Fr) : Value := N8.a6 (N8.a7 (N8.a0 fr))
noncomputable def w62 : Fr → Value → Fr := @N8.rec R2 (fun _ => Value → Fr) (pc0 R2 q2_62)
noncomputable def r63 (fr : Fr) : Value := N8.a7 (N8.a7 (N8.a0 fr))
noncomputable def w63 : Fr → Value → Fr := @N8.rec R2 (fun _ => Value → Fr) (pc0 R2 q2_63)
noncomputable def r64 (fr : Fr) : Value := N8.a0 (N8.a0 (N8.a1 fr))
noncomputable def w64 : Fr → Value → Fr := @N8.rec R2 (fun _ => Value → Fr) (pc1 R2 q2_0)
noncomputable def r65 (fr : Fr) : Value := N8.a1 (N8.a0 (N8.a1 fr))
noncomputable def w65 : Fr → Value → Fr := @N8.rec R2 (fun _ => Value → Fr) (pc1 R2 q2_1)
noncomputable def r66 (fr : Fr) : Value := N8.a2 (N8.a0 (N8.a1 fr))
noncomputable def w66 : Fr → Value → Fr := @N8.rec R2 (fun _ => Value → Fr) (pc1 R2 q2_2)
noncomputable def r67 (fr : Fr) : Value := N8.a3 (N8.a0 (N8.a1 fr))
noncomputable def w67 : Fr → Value → Fr := @N8.rec R2 (fun _ => Value → Fr) (pc1 R2 q2_3)
noncomputable def r68 (fr : Fr) : Value := N8.a4 (N8.a0 (N8.a1 fr))
noncomputable def w68 : Fr → Value → Fr := @N8.rec R2 (fun _ => Value → Fr) (pc1 R2 q2_4)
noncomputable def r69 (fr : Fr) : Value := N8.a5 (N8.a0 (N8.a1 fr))
noncomputable def w69 : Fr → Value → Fr := @N8.rec R2 (fun _ => Value → Fr) (pc1 R2 q2_5)
noncomputable def r70 (fr : Fr) : Value := N8.a6 (N8.a0 (N8.a1 fr))
noncomputable def w70 : Fr → Value → Fr := @N8.rec R2 (fun _ => Value → Fr) (pc1 R2 q2_6)
noncomputable def r71 (fr : Fr) : Value := N8.a7 (N8.a0 (N8.a1 fr))
noncomputable def w71 : Fr → Value → Fr := @N8.rec R2 (fun _ => Value → Fr) (pc1 R2 q2_7)
noncomputable def r72 (fr : Fr) : Value := N8.a0 (N8.a1 (N8.a1 fr))
noncomputable def w72 : Fr → Value → Fr := @N8.rec R2 (fun _ => Value → Fr) (pc1 R2 q2_8)
noncomputable def r73 (fr : Fr) : Value := N8.a1 (N8.a1 (N8.a1 fr))
noncomputable def w73 : Fr → Value → Fr := @N8.rec R2 (fun _ => Value → Fr) (pc1 R2 q2_9)
noncomputable def r74 (fr : Fr) : Value := N8.a2 (N8.a1 (N8.a1 fr))
noncomputable def w74 : Fr → Value → Fr := @N8.rec R2 (fun _ => Value → Fr) (pc1 R2 q2_10)
noncomputable def r75 (fr : Fr) : Value := N8.a3 (N8.a1 (N8.a1 fr))
noncomputable def w75 : Fr → Value → Fr := @N8.rec R2 (fun _ => Value → Fr) (pc1 R2 q2_11)
noncomputable def r76 (fr : Fr) : Value := N8.a4 (N8.a1 (N8.a1 fr))
noncomputable def w76 : Fr → Value → Fr := @N8.rec R2 (fun _ => Value → Fr) (pc1 R2 q2_12)
noncomputable def r77 (fr : Fr) : Value := N8.a5 (N8.a1 (N8.a1 fr))
noncomputable def w77 : Fr → Value → Fr := @N8.rec R2 (fun _ => Value → Fr) (pc1 R2 q2_13)
noncomputable def r78 (fr : Fr) : Value := N8.a6 (N8.a1 (N8.a1 fr))
noncomputable def w78 : Fr → Value → Fr := @N8.rec R2 (fun _ => Value → Fr) (pc1 R2 q2_14)
noncomputable def r79 (fr : Fr) : Value := N8.a7 (N8.a1 (N8.a1 fr))
noncomputable def w79 : Fr → Value → Fr := @N8.rec R2 (fun _ => Value → Fr) (pc1 R2 q2_15)
noncomputable def r80 (fr : Fr) : Value := N8.a0 (N8.a2 (N8.a1 fr))
noncomputable def w80 : Fr → Value → Fr := @N8.rec R2 (fun _ => Value → Fr) (pc1 R2 q2_16)
noncomputable def r81 (fr : Fr) : Value := N8.a1 (N8.a2 (N8.a1 fr))
noncomputable def w81 : Fr → Value → Fr := @N8.rec R2 (fun _ => Value → Fr) (pc1 R2 q2_17)
noncomputable def r82 (fr : Fr) : Value := N8.a2 (N8.a2 (N8.a1 fr))
noncomputable def w82 : Fr → Value → Fr := @N8.rec R2 (fun _ => Value → Fr) (pc1 R2 q2_18)
noncomputable def r83 (fr : Fr) : Value := N8.a3 (N8.a2 (N8.a1 fr))
noncomputable def w83 : Fr → Value → Fr := @N8.rec R2 (fun _ => Value → Fr) (pc1 R2 q2_19)
noncomputable def r84 (fr : Fr) : Value := N8.a4 (N8.a2 (N8.a1 fr))
noncomputable def w84 : Fr → Value → Fr := @N8.rec R2 (fun _ => Value → Fr) (pc1 R2 q2_20)
noncomputable def r85 (fr : Fr) : Value := N8.a5 (N8.a2 (N8.a1 fr))
noncomputable def w85 : Fr → Value → Fr := @N8.rec R2 (fun _ => Value → Fr) (pc1 R2 q2_21)
noncomputable def r86 (fr : Fr) : Value := N8.a6 (N8.a2 (N8.a1 fr))
noncomputable def w86 : Fr → Value → Fr := @N8.rec R2 (fun _ => Value → Fr) (pc1 R2 q2_22)
noncomputable def r87 (fr : Fr) : Value := N8.a7 (N8.a2 (N8.a1 fr))
noncomputable def w87 : Fr → Value → Fr := @N8.rec R2 (fun _ => Value → Fr) (pc1 R2 q2_23)
noncomputable def r88 (fr : Fr) : Value := N8.a0 (N8.a3 (N8.a1 fr))
noncomputable def w88 : Fr → Value → Fr := @N8.rec R2 (fun _ => Value → Fr) (pc1 R2 q2_24)
noncomputable def r89 (fr : Fr) : Value := N8.a1 (N8.a3 (N8.a1 fr))
noncomputable def w89 : Fr → Value → Fr := @N8.rec R2 (fun _ => Value → Fr) (pc1 R2 q2_25)
noncomputable def r90 (fr : Fr) : Value := N8.a2 (N8.a3 (N8.a1 fr))
noncomputable def w90 : Fr → Value → Fr := @N8.rec R2 (fun _ => Value → Fr) (pc1 R2 q2_26)
noncomputable def r91 (fr : Fr) : Value := N8.a3 (N8.a3 (N8.a1 fr))
noncomputable def w91 : Fr → Value → Fr := @N8.rec R2 (fun _ => Value → Fr) (pc1 R2 q2_27)
noncomputable def r92 (fr : Fr) : Value := N8.a4 (N8.a3 (N8.a1 fr))
noncomputable def w92 : Fr → Value → Fr := @N8.rec R2 (fun _ => Value → Fr) (pc1 R2 q2_28)
noncomputable def r93 (fr : Fr) : Value := N8.a5 (N8.a3 (N8.a1 fr))
noncomputable def w93 : Fr → Value → Fr := @N8.rec R2 (fun _ => Value → Fr) (pc1 R2 q2_29)
noncomputable def r94 (fr : Fr) : Value := N8.a6 (N8.a3 (N8.a1 fr))
noncomputable def w94 : Fr → Value → Fr := @N8.rec R2 (fun _ => Value → Fr) (pc1 R2 q2_30)
noncomputable def r95 (fr : Fr) : Value := N8.a7 (N8.a3 (N8.a1 fr))
noncomputable def w95 : Fr → Value → Fr := @N8.rec R2 (fun _ => Value → Fr) (pc1 R2 q2_31)
noncomputable def r96 (fr : Fr) : Value := N8.a0 (N8.a4 (N8.a1 fr))
noncomputable def w96 : Fr → Value → Fr := @N8.rec R2 (fun _ => Value → Fr) (pc1 R2 q2_32)
noncomputable def r97 (fr : Fr) : Value := N8.a1 (N8.a4 (N8.a1 fr))
noncomputable def w97 : Fr → Value → Fr := @N8.rec R2 (fun _ => Value → Fr) (pc1 R2 q2_33)
noncomputable def r98 (fr : Fr) : Value := N8.a2 (N8.a4 (N8.a1 fr))
noncomputable def w98 : Fr → Value → Fr := @N8.rec R2 (fun _ => Value → Fr) (pc1 R2 q2_34)
noncomputable def r99 (fr : Fr) : Value := N8.a3 (N8.a4 (N8.a1 fr))
noncomputable def w99 : Fr → Value → Fr := @N8.rec R2 (fun _ => Value → Fr) (pc1 R2 q2_35)
noncomputable def r100 (fr : Fr) : Value := N8.a4 (N8.a4 (N8.a1 fr))
noncomputable def w100 : Fr → Value → Fr := @N8.rec R2 (fun _ => Value → Fr) (pc1 R2 q2_36)
noncomputable def r101 (fr : Fr) : Value := N8.a5 (N8.a4 (N8.a1 fr))
noncomputable def w101 : Fr → Value → Fr := @N8.rec R2 (fun _ => Value → Fr) (pc1 R2 q2_37)
noncomputable def r102 (fr : Fr) : Value := N8.a6 (N8.a4 (N8.a1 fr))
noncomputable def w102 : Fr → Value → Fr := @N8.rec R2 (fun _ => Value → Fr) (pc1 R2 q2_38)
noncomputable def r103 (fr : Fr) : Value := N8.a7 (N8.a4 (N8.a1 fr))
noncomputable def w103 : Fr → Value → Fr := @N8.rec R2 (fun _ => Value → Fr) (pc1 R2 q2_39)
noncomputable def r104 (fr : Fr) : Value := N8.a0 (N8.a5 (N8.a1 fr))
noncomputable def w104 : Fr → Value → Fr := @N8.rec R2 (fun _ => Value → Fr) (pc1 R2 q2_40)
noncomputable def r105 (fr : Fr) : Value := N8.a1 (N8.a5 (N8.a1 fr))
noncomputable def w105 : Fr → Value → Fr := @N8.rec R2 (fun _ => Value → Fr) (pc1 R2 q2_41)
noncomputable def r106 (fr : Fr) : Value := N8.a2 (N8.a5 (N8.a1 fr))
noncomputable def w106 : Fr → Value → Fr := @N8.rec R2 (fun _ => Value → Fr) (pc1 R2 q2_42)
noncomputable def r107 (fr : Fr) : Value := N8.a3 (N8.a5 (N8.a1 fr))
noncomputable def w107 : Fr → Value → Fr := @N8.rec R2 (fun _ => Value → Fr) (pc1 R2 q2_43)
noncomputable def r108 (fr : Fr) : Value := N8.a4 (N8.a5 (N8.a1 fr))
noncomputable def w108 : Fr → Value → Fr := @N8.rec R2 (fun _ => Value → Fr) (pc1 R2 q2_44)
noncomputable def r109 (fr : Fr) : Value := N8.a5 (N8.a5 (N8.a1 fr))
noncomputable def w109 : Fr → Value → Fr := @N8.rec R2 (fun _ => Value → Fr) (pc1 R2 q2_45)
noncomputable def r110 (fr : Fr) : Value := N8.a6 (N8.a5 (N8.a1 fr))
noncomputable def w110 : Fr → Value → Fr := @N8.rec R2 (fun _ => Value → Fr) (pc1 R2 q2_46)
noncomputable def r111 (fr : Fr) : Value := N8.a7 (N8.a5 (N8.a1 fr))
noncomputable def w111 : Fr → Value → Fr := @N8.rec R2 (fun _ => Value → Fr) (pc1 R2 q2_47)
noncomputable def r112 (fr : Fr) : Value := N8.a0 (N8.a6 (N8.a1 fr))
noncomputable def w112 : Fr → Value → Fr := @N8.rec R2 (fun _ => Value → Fr) (pc1 R2 q2_48)
noncomputable def r113 (fr : Fr) : Value := N8.a1 (N8.a6 (N8.a1 fr))
noncomputable def w113 : Fr → Value → Fr := @N8.rec R2 (fun _ => Value → Fr) (pc1 R2 q2_49)
noncomputable def r114 (fr : Fr) : Value := N8.a2 (N8.a6 (N8.a1 fr))
noncomputable def w114 : Fr → Value → Fr := @N8.rec R2 (fun _ => Value → Fr) (pc1 R2 q2_50)
noncomputable def r115 (fr : Fr) : Value := N8.a3 (N8.a6 (N8.a1 fr))
noncomputable def w115 : Fr → Value → Fr := @N8.rec R2 (fun _ => Value → Fr) (pc1 R2 q2_51)
noncomputable def r116 (fr : Fr) : Value := N8.a4 (N8.a6 (N8.a1 fr))
noncomputable def w116 : Fr → Value → Fr := @N8.rec R2 (fun _ => Value → Fr) (pc1 R2 q2_52)
noncomputable def r117 (fr : Fr) : Value := N8.a5 (N8.a6 (N8.a1 fr))
noncomputable def w117 : Fr → Value → Fr := @N8.rec R2 (fun _ => Value → Fr) (pc1 R2 q2_53)
noncomputable def r118 (fr : Fr) : Value := N8.a6 (N8.a6 (N8.a1 fr))
noncomputable def w118 : Fr → Value → Fr := @N8.rec R2 (fun _ => Value → Fr) (pc1 R2 q2_54)
noncomputable def r119 (fr : Fr) : Value := N8.a7 (N8.a6 (N8.a1 fr))
noncomputable def w119 : Fr → Value → Fr := @N8.rec R2 (fun _ => Value → Fr) (pc1 R2 q2_55)
noncomputable def r120 (fr : Fr) : Value := N8.a0 (N8.a7 (N8.a1 fr))
noncomputable def w120 : Fr → Value → Fr := @N8.rec R2 (fun _ => Value → Fr) (pc1 R2 q2_56)
noncomputable def r121 (fr : Fr) : Value := N8.a1 (N8.a7 (N8.a1 fr))
noncomputable def w121 : Fr → Value → Fr := @N8.rec R2 (fun _ => Value → Fr) (pc1 R2 q2_57)
noncomputable def r122 (fr : Fr) : Value := N8.a2 (N8.a7 (N8.a1 fr))
noncomputable def w122 : Fr → Value → Fr := @N8.rec R2 (fun _ => Value → Fr) (pc1 R2 q2_58)
noncomputable def r123 (fr : Fr) : Value := N8.a3 (N8.a7 (N8.a1 fr))
noncomputable def w123 : Fr → Value → Fr := @N8.rec R2 (fun _ => Value → Fr) (pc1 R2 q2_59)
noncomputable def r124 (fr : Fr) : Value := N8.a4 (N8.a7 (N8.a1 fr))
noncomputable def w124 : Fr → Value → Fr := @N8.rec R2 (fun _ => Value → Fr) (pc1 R2 q2_60)
noncomputable def r125 (fr : Fr) : Value := N8.a5 (N8.a7 (N8.a1 fr))
noncomputable def w125 : Fr → Value → Fr := @N8.rec R2 (fun _ => Value → Fr) (pc1 R2 q2_61)
noncomputable def r126 (fr : Fr) : Value := N8.a6 (N8.a7 (N8.a1 fr))
noncomputable def w126 : Fr → Value → Fr := @N8.rec R2 (fun _ => Value → Fr) (pc1 R2 q2_62)
noncomputable def r127 (fr : Fr) : Value := N8.a7 (N8.a7 (N8.a1 fr))
noncomputable def w127 : Fr → Value → Fr := @N8.rec R2 (fun _ => Value → Fr) (pc1 R2 q2_63)
noncomputable def r128 (fr : Fr) : Value := N8.a0 (N8.a0 (N8.a2 fr))
noncomputable def w128 : Fr → Value → Fr := @N8.rec R2 (fun _ => Value → Fr) (pc2 R2 q2_0)
noncomputable def r129 (fr : Fr) : Value := N8.a1 (N8.a0 (N8.a2 fr))
noncomputable def w129 : Fr → Value → Fr := @N8.rec R2 (fun _ => Value → Fr) (pc2 R2 q2_1)
noncomputable def r130 (fr : Fr) : Value := N8.a2 (N8.a0 (N8.a2 fr))
noncomputable def w130 : Fr → Value → Fr := @N8.rec R2 (fun _ => Value → Fr) (pc2 R2 q2_2)
noncomputable def r131 (fr : Fr) : Value := N8.a3 (N8.a0 (N8.a2 fr))
noncomputable def w131 : Fr → Value → Fr := @N8.rec R2 (fun _ => Value → Fr) (pc2 R2 q2_3)
noncomputable def r132 (fr : Fr) : Value := N8.a4 (N8.a0 (N8.a2 fr))
noncomputable def w132 : Fr → Value → Fr := @N8.rec R2 (fun _ => Value → Fr) (pc2 R2 q2_4)
noncomputable def r133 (fr : Fr) : Value := N8.a5 (N8.a0 (N8.a2 fr))
noncomputable def w133 : Fr → Value → Fr := @N8.rec R2 (fun _ => Value → Fr) (pc2 R2 q2_5)
noncomputable def r134 (fr : Fr) : Value := N8.a6 (N8.a0 (N8.a2 fr))
noncomputable def w134 : Fr → Value → Fr := @N8.rec R2 (fun _ => Value → Fr) (pc2 R2 q2_6)
noncomputable def r135 (fr : Fr) : Value := N8.a7 (N8.a0 (N8.a2 fr))
noncomputable def w135 : Fr → Value → Fr := @N8.rec R2 (fun _ => Value → Fr) (pc2 R2 q2_7)
noncomputable def r136 (fr : Fr) : Value := N8.a0 (N8.a1 (N8.a2 fr))
noncomputable def w136 : Fr → Value → Fr := @N8.rec R2 (fun _ => Value → Fr) (pc2 R2 q2_8)
noncomputable def r137 (fr : Fr) : Value := N8.a1 (N8.a1 (N8.a2 fr))
noncomputable def w137 : Fr → Value → Fr := @N8.rec R2 (fun _ => Value → Fr) (pc2 R2 q2_9)
noncomputable def r138 (fr : Fr) : Value := N8.a2 (N8.a1 (N8.a2 fr))
noncomputable def w138 : Fr → Value → Fr := @N8.rec R2 (fun _ => Value → Fr) (pc2 R2 q2_10)
noncomputable def r139 (fr : Fr) : Value := N8.a3 (N8.a1 (N8.a2 fr))
noncomputable def w139 : Fr → Value → Fr := @N8.rec R2 (fun _ => Value → Fr) (pc2 R2 q2_11)
noncomputable def r140 (fr : Fr) : Value := N8.a4 (N8.a1 (N8.a2 fr))
noncomputable def w140 : Fr → Value → Fr := @N8.rec R2 (fun _ => Value → Fr) (pc2 R2 q2_12)
noncomputable def r141 (fr : Fr) : Value := N8.a5 (N8.a1 (N8.a2 fr))
noncomputable def w141 : Fr → Value → Fr := @N8.rec R2 (fun _ => Value → Fr) (pc2 R2 q2_13)
noncomputable def r142 (fr : Fr) : Value := N8.a6 (N8.a1 (N8.a2 fr))
noncomputable def w142 : Fr → Value → Fr := @N8.rec R2 (fun _ => Value → Fr) (pc2 R2 q2_14)
noncomputable def r143 (fr : Fr) : Value := N8.a7 (N8.a1 (N8.a2 fr))
noncomputable def w143 : Fr → Value → Fr := @N8.rec R2 (fun _ => Value → Fr) (pc2 R2 q2_15)
noncomputable def r144 (fr : Fr) : Value := N8.a0 (N8.a2 (N8.a2 fr))
noncomputable def w144 : Fr → Value → Fr := @N8.rec R2 (fun _ => Value → Fr) (pc2 R2 q2_16)
noncomputable def r145 (fr : Fr) : Value := N8.a1 (N8.a2 (N8.a2 fr))
noncomputable def w145 : Fr → Value → Fr := @N8.rec R2 (fun _ => Value → Fr) (pc2 R2 q2_17)
noncomputable def r146 (fr : Fr) : Value := N8.a2 (N8.a2 (N8.a2 fr))
noncomputable def w146 : Fr → Value → Fr := @N8.rec R2 (fun _ => Value → Fr) (pc2 R2 q2_18)
noncomputable def r147 (fr : Fr) : Value := N8.a3 (N8.a2 (N8.a2 fr))
noncomputable def w147 : Fr → Value → Fr := @N8.rec R2 (fun _ => Value → Fr) (pc2 R2 q2_19)
noncomputable def r148 (fr : Fr) : Value := N8.a4 (N8.a2 (N8.a2 fr))
noncomputable def w148 : Fr → Value → Fr := @N8.rec R2 (fun _ => Value → Fr) (pc2 R2 q2_20)
noncomputable def r149 (fr : Fr) : Value := N8.a5 (N8.a2 (N8.a2 fr))
noncomputable def w149 : Fr → Value → Fr := @N8.rec R2 (fun _ => Value → Fr) (pc2 R2 q2_21)
noncomputable def r150 (fr : Fr) : Value := N8.a6 (N8.a2 (N8.a2 fr))
noncomputable def w150 : Fr → Value → Fr := @N8.rec R2 (fun _ => Value → Fr) (pc2 R2 q2_22)
noncomputable def r151 (fr : Fr) : Value := N8.a7 (N8.a2 (N8.a2 fr))
noncomputable def w151 : Fr → Value → Fr := @N8.rec R2 (fun _ => Value → Fr) (pc2 R2 q2_23)
noncomputable def r152 (fr : Fr) : Value := N8.a0 (N8.a3 (N8.a2 fr))
noncomputable def w152 : Fr → Value → Fr := @N8.rec R2 (fun _ => Value → Fr) (pc2 R2 q2_24)
noncomputable def r153 (fr : Fr) : Value := N8.a1 (N8.a3 (N8.a2 fr))
noncomputable def w153 : Fr → Value → Fr := @N8.rec R2 (fun _ => Value → Fr) (pc2 R2 q2_25)
noncomputable def r154 (fr : Fr) : Value := N8.a2 (N8.a3 (N8.a2 fr))
noncomputable def w154 : Fr → Value → Fr := @N8.rec R2 (fun _ => Value → Fr) (pc2 R2 q2_26)
noncomputable def r155 (fr : Fr) : Value := N8.a3 (N8.a3 (N8.a2 fr))
noncomputable def w155 : Fr → Value → Fr := @N8.rec R2 (fun _ => Value → Fr) (pc2 R2 q2_27)
noncomputable def r156 (fr : Fr) : Value := N8.a4 (N8.a3 (N8.a2 fr))
noncomputable def w156 : Fr → Value → Fr := @N8.rec R2 (fun _ => Value → Fr) (pc2 R2 q2_28)
noncomputable def r157 (fr : Fr) : Value := N8.a5 (N8.a3 (N8.a2 fr))
noncomputable def w157 : Fr → Value → Fr := @N8.rec R2 (fun _ => Value → Fr) (pc2 R2 q2_29)
noncomputable def r158 (fr : Fr) : Value := N8.a6 (N8.a3 (N8.a2 fr))
noncomputable def w158 : Fr → Value → Fr := @N8.rec R2 (fun _ => Value → Fr) (pc2 R2 q2_30)
noncomputable def r159 (fr : Fr) : Value := N8.a7 (N8.a3 (N8.a2 fr))
noncomputable def w159 : Fr → Value → Fr := @N8.rec R2 (fun _ => Value → Fr) (pc2 R2 q2_31)
noncomputable def r160 (fr : Fr) : Value := N8.a0 (N8.a4 (N8.a2 fr))
noncomputable def w160 : Fr → Value → Fr := @N8.rec R2 (fun _ => Value → Fr) (pc2 R2 q2_32)
noncomputable def r161 (fr : Fr) : Value := N8.a1 (N8.a4 (N8.a2 fr))
noncomputable def w161 : Fr → Value → Fr := @N8.rec R2 (fun _ => Value → Fr) (pc2 R2 q2_33)
noncomputable def r162 (fr : Fr) : Value := N8.a2 (N8.a4 (N8.a2 fr))
noncomputable def w162 : Fr → Value → Fr := @N8.rec R2 (fun _ => Value → Fr) (pc2 R2 q2_34)
noncomputable def r163 (fr : Fr) : Value := N8.a3 (N8.a4 (N8.a2 fr))
noncomputable def w163 : Fr → Value → Fr := @N8.rec R2 (fun _ => Value → Fr) (pc2 R2 q2_35)
noncomputable def r164 (fr : Fr) : Value := N8.a4 (N8.a4 (N8.a2 fr))
noncomputable def w164 : Fr → Value → Fr := @N8.rec R2 (fun _ => Value → Fr) (pc2 R2 q2_36)
noncomputable def r165 (fr : Fr) : Value := N8.a5 (N8.a4 (N8.a2 fr))
noncomputable def w165 : Fr → Value → Fr := @N8.rec R2 (fun _ => Value → Fr) (pc2 R2 q2_37)
noncomputable def r166 (fr : Fr) : Value := N8.a6 (N8.a4 (N8.a2 fr))
noncomputable def w166 : Fr → Value → Fr := @N8.rec R2 (fun _ => Value → Fr) (pc2 R2 q2_38)
noncomputable def r167 (fr : Fr) : Value := N8.a7 (N8.a4 (N8.a2 fr))
noncomputable def w167 : Fr → Value → Fr := @N8.rec R2 (fun _ => Value → Fr) (pc2 R2 q2_39)
noncomputable def r168 (fr : Fr) : Value := N8.a0 (N8.a5 (N8.a2 fr))
noncomputable def w168 : Fr → Value → Fr := @N8.rec R2 (fun _ => Value → Fr) (pc2 R2 q2_40)
noncomputable def r169 (fr : Fr) : Value := N8.a1 (N8.a5 (N8.a2 fr))
noncomputable def w169 : Fr → Value → Fr := @N8.rec R2 (fun _ => Value → Fr) (pc2 R2 q2_41)
noncomputable def r170 (fr : Fr) : Value := N8.a2 (N8.a5 (N8.a2 fr))
noncomputable def w170 : Fr → Value → Fr := @N8.rec R2 (fun _ => Value → Fr) (pc2 R2 q2_42)
noncomputable def r171 (fr : Fr) : Value := N8.a3 (N8.a5 (N8.a2 fr))
noncomputable def w171 : Fr → Value → Fr := @N8.rec R2 (fun _ => Value → Fr) (pc2 R2 q2_43)
noncomputable def r172 (fr : Fr) : Value := N8.a4 (N8.a5 (N8.a2 fr))
noncomputable def w172 : Fr → Value → Fr := @N8.rec R2 (fun _ => Value → Fr) (pc2 R2 q2_44)
noncomputable def r173 (fr : Fr) : Value := N8.a5 (N8.a5 (N8.a2 fr))
noncomputable def w173 : Fr → Value → Fr := @N8.rec R2 (fun _ => Value → Fr) (pc2 R2 q2_45)
noncomputable def r174 (fr : Fr) : Value := N8.a6 (N8.a5 (N8.a2 fr))
noncomputable def w174 : Fr → Value → Fr := @N8.rec R2 (fun _ => Value → Fr) (pc2 R2 q2_46)
noncomputable def r175 (fr : Fr) : Value := N8.a7 (N8.a5 (N8.a2 fr))
noncomputable def w175 : Fr → Value → Fr := @N8.rec R2 (fun _ => Value → Fr) (pc2 R2 q2_47)
noncomputable def r176 (fr : Fr) : Value := N8.a0 (N8.a6 (N8.a2 fr))
noncomputable def w176 : Fr → Value → Fr := @N8.rec R2 (fun _ => Value → Fr) (pc2 R2 q2_48)
noncomputable def r177 (fr : Fr) : Value := N8.a1 (N8.a6 (N8.a2 fr))
noncomputable def w177 : Fr → Value → Fr := @N8.rec R2 (fun _ => Value → Fr) (pc2 R2 q2_49)
noncomputable def r178 (fr : Fr) : Value := N8.a2 (N8.a6 (N8.a2 fr))
noncomputable def w178 : Fr → Value → Fr := @N8.rec R2 (fun _ => Value → Fr) (pc2 R2 q2_50)
noncomputable def r179 (fr : Fr) : Value := N8.a3 (N8.a6 (N8.a2 fr))
noncomputable def w179 : Fr → Value → Fr := @N8.rec R2 (fun _ => Value → Fr) (pc2 R2 q2_51)
noncomputable def r180 (fr : Fr) : Value := N8.a4 (N8.a6 (N8.a2 fr))
noncomputable def w180 : Fr → Value → Fr := @N8.rec R2 (fun _ => Value → Fr) (pc2 R2 q2_52)
noncomputable def r181 (fr : Fr) : Value := N8.a5 (N8.a6 (N8.a2 fr))
noncomputable def w181 : Fr → Value → Fr := @N8.rec R2 (fun _ => Value → Fr) (pc2 R2 q2_53)
noncomputable def r182 (fr : Fr) : Value := N8.a6 (N8.a6 (N8.a2 fr))
noncomputable def w182 : Fr → Value → Fr := @N8.rec R2 (fun _ => Value → Fr) (pc2 R2 q2_54)
noncomputable def r183 (fr : Fr) : Value := N8.a7 (N8.a6 (N8.a2 fr))
noncomputable def w183 : Fr → Value → Fr := @N8.rec R2 (fun _ => Value → Fr) (pc2 R2 q2_55)
noncomputable def r184 (fr : Fr) : Value := N8.a0 (N8.a7 (N8.a2 fr))
noncomputable def w184 : Fr → Value → Fr := @N8.rec R2 (fun _ => Value → Fr) (pc2 R2 q2_56)
noncomputable def r185 (fr : Fr) : Value := N8.a1 (N8.a7 (N8.a2 fr))
noncomputable def w185 : Fr → Value → Fr := @N8.rec R2 (fun _ => Value → Fr) (pc2 R2 q2_57)
noncomputable def r186 (fr : Fr) : Value := N8.a2 (N8.a7 (N8.a2 fr))
noncomputable def w186 : Fr → Value → Fr := @N8.rec R2 (fun _ => Value → Fr) (pc2 R2 q2_58)
noncomputable def r187 (fr : Fr) : Value := N8.a3 (N8.a7 (N8.a2 fr))
noncomputable def w187 : Fr → Value → Fr := @N8.rec R2 (fun _ => Value → Fr) (pc2 R2 q2_59)
noncomputable def r188 (fr : Fr) : Value := N8.a4 (N8.a7 (N8.a2 fr))
noncomputable def w188 : Fr → Value → Fr := @N8.rec R2 (fun _ => Value → Fr) (pc2 R2 q2_60)
noncomputable def r189 (fr : Fr) : Value := N8.a5 (N8.a7 (N8.a2 fr))
noncomputable def w189 : Fr → Value → Fr := @N8.rec R2 (fun _ => Value → Fr) (pc2 R2 q2_61)
noncomputable def r190 (fr : Fr) : Value := N8.a6 (N8.a7 (N8.a2 fr))
noncomputable def w190 : Fr → Value → Fr := @N8.rec R2 (fun _ => Value → Fr) (pc2 R2 q2_62)
noncomputable def r191 (fr : Fr) : Value := N8.a7 (N8.a7 (N8.a2 fr))
noncomputable def w191 : Fr → Value → Fr := @N8.rec R2 (fun _ => Value → Fr) (pc2 R2 q2_63)
noncomputable def r192 (fr : Fr) : Value := N8.a0 (N8.a0 (N8.a3 fr))
noncomputable def w192 : Fr → Value → Fr := @N8.rec R2 (fun _ => Value → Fr) (pc3 R2 q2_0)
noncomputable def r193 (fr : Fr) : Value := N8.a1 (N8.a0 (N8.a3 fr))
noncomputable def w193 : Fr → Value → Fr := @N8.rec R2 (fun _ => Value → Fr) (pc3 R2 q2_1)
noncomputable def r194 (fr : Fr) : Value := N8.a2 (N8.a0 (N8.a3 fr))
noncomputable def w194 : Fr → Value → Fr := @N8.rec R2 (fun _ => Value → Fr) (pc3 R2 q2_2)
noncomputable def r195 (fr : Fr) : Value := N8.a3 (N8.a0 (N8.a3 fr))
noncomputable def w195 : Fr → Value → Fr := @N8.rec R2 (fun _ => Value → Fr) (pc3 R2 q2_3)
noncomputable def r196 (fr : Fr) : Value := N8.a4 (N8.a0 (N8.a3 fr))
noncomputable def w196 : Fr → Value → Fr := @N8.rec R2 (fun _ => Value → Fr) (pc3 R2 q2_4)
noncomputable def r197 (fr : Fr) : Value := N8.a5 (N8.a0 (N8.a3 fr))
noncomputable def w197 : Fr → Value → Fr := @N8.rec R2 (fun _ => Value → Fr) (pc3 R2 q2_5)
noncomputable def r198 (fr : Fr) : Value := N8.a6 (N8.a0 (N8.a3 fr))
noncomputable def w198 : Fr → Value → Fr := @N8.rec R2 (fun _ => Value → Fr) (pc3 R2 q2_6)
noncomputable def r199 (fr : Fr) : Value := N8.a7 (N8.a0 (N8.a3 fr))
noncomputable def w199 : Fr → Value → Fr := @N8.rec R2 (fun _ => Value → Fr) (pc3 R2 q2_7)
noncomputable def r200 (fr : Fr) : Value := N8.a0 (N8.a1 (N8.a3 fr))
noncomputable def w200 : Fr → Value → Fr := @N8.rec R2 (fun _ => Value → Fr) (pc3 R2 q2_8)
noncomputable def r201 (fr : Fr) : Value := N8.a1 (N8.a1 (N8.a3 fr))
noncomputable def w201 : Fr → Value → Fr := @N8.rec R2 (fun _ => Value → Fr) (pc3 R2 q2_9)
noncomputable def r202 (fr : Fr) : Value := N8.a2 (N8.a1 (N8.a3 fr))
noncomputable def w202 : Fr → Value → Fr := @N8.rec R2 (fun _ => Value → Fr) (pc3 R2 q2_10)
noncomputable def r203 (fr : Fr) : Value := N8.a3 (N8.a1 (N8.a3 fr))
noncomputable def w203 : Fr → Value → Fr := @N8.rec R2 (fun _ => Value → Fr) (pc3 R2 q2_11)
noncomputable def r204 (fr : Fr) : Value := N8.a4 (N8.a1 (N8.a3 fr))
noncomputable def w204 : Fr → Value → Fr := @N8.rec R2 (fun _ => Value → Fr) (pc3 R2 q2_12)
noncomputable def r205 (fr : Fr) : Value := N8.a5 (N8.a1 (N8.a3 fr))
noncomputable def w205 : Fr → Value → Fr := @N8.rec R2 (fun _ => Value → Fr) (pc3 R2 q2_13)
noncomputable def r206 (fr : Fr) : Value := N8.a6 (N8.a1 (N8.a3 fr))
noncomputable def w206 : Fr → Value → Fr := @N8.rec R2 (fun _ => Value → Fr) (pc3 R2 q2_14)
noncomputable def r207 (fr : Fr) : Value := N8.a7 (N8.a1 (N8.a3 fr))
noncomputable def w207 : Fr → Value → Fr := @N8.rec R2 (fun _ => Value → Fr) (pc3 R2 q2_15)
noncomputable def r208 (fr : Fr) : Value := N8.a0 (N8.a2 (N8.a3 fr))
noncomputable def w208 : Fr → Value → Fr := @N8.rec R2 (fun _ => Value → Fr) (pc3 R2 q2_16)
noncomputable def r209 (fr : Fr) : Value := N8.a1 (N8.a2 (N8.a3 fr))
noncomputable def w209 : Fr → Value → Fr := @N8.rec R2 (fun _ => Value → Fr) (pc3 R2 q2_17)
noncomputable def r210 (fr : Fr) : Value := N8.a2 (N8.a2 (N8.a3 fr))
noncomputable def w210 : Fr → Value → Fr := @N8.rec R2 (fun _ => Value → Fr) (pc3 R2 q2_18)
noncomputable def r211 (fr : Fr) : Value := N8.a3 (N8.a2 (N8.a3 fr))
noncomputable def w211 : Fr → Value → Fr := @N8.rec R2 (fun _ => Value → Fr) (pc3 R2 q2_19)
noncomputable def r212 (fr : Fr) : Value := N8.a4 (N8.a2 (N8.a3 fr))
noncomputable def w212 : Fr → Value → Fr := @N8.rec R2 (fun _ => Value → Fr) (pc3 R2 q2_20)
noncomputable def r213 (fr : Fr) : Value := N8.a5 (N8.a2 (N8.a3 fr))
noncomputable def w213 : Fr → Value → Fr := @N8.rec R2 (fun _ => Value → Fr) (pc3 R2 q2_21)
noncomputable def r214 (fr : Fr) : Value := N8.a6 (N8.a2 (N8.a3 fr))
noncomputable def w214 : Fr → Value → Fr := @N8.rec R2 (fun _ => Value → Fr) (pc3 R2 q2_22)
noncomputable def r215 (fr : Fr) : Value := N8.a7 (N8.a2 (N8.a3 fr))
noncomputable def w215 : Fr → Value → Fr := @N8.rec R2 (fun _ => Value → Fr) (pc3 R2 q2_23)
noncomputable def r216 (fr : Fr) : Value := N8.a0 (N8.a3 (N8.a3 fr))
noncomputable def w216 : Fr → Value → Fr := @N8.rec R2 (fun _ => Value → Fr) (pc3 R2 q2_24)
noncomputable def r217 (fr : Fr) : Value := N8.a1 (N8.a3 (N8.a3 fr))
noncomputable def w217 : Fr → Value → Fr := @N8.rec R2 (fun _ => Value → Fr) (pc3 R2 q2_25)
noncomputable def r218 (fr : Fr) : Value := N8.a2 (N8.a3 (N8.a3 fr))
noncomputable def w218 : Fr → Value → Fr := @N8.rec R2 (fun _ => Value → Fr) (pc3 R2 q2_26)
noncomputable def r219 (fr : Fr) : Value := N8.a3 (N8.a3 (N8.a3 fr))
noncomputable def w219 : Fr → Value → Fr := @N8.rec R2 (fun _ => Value → Fr) (pc3 R2 q2_27)
noncomputable def r220 (fr : Fr) : Value := N8.a4 (N8.a3 (N8.a3 fr))
noncomputable def w220 : Fr → Value → Fr := @N8.rec R2 (fun _ => Value → Fr) (pc3 R2 q2_28)
noncomputable def r221 (fr : Fr) : Value := N8.a5 (N8.a3 (N8.a3 fr))
noncomputable def w221 : Fr → Value → Fr := @N8.rec R2 (fun _ => Value → Fr) (pc3 R2 q2_29)
noncomputable def r222 (fr : Fr) : Value := N8.a6 (N8.a3 (N8.a3 fr))
noncomputable def w222 : Fr → Value → Fr := @N8.rec R2 (fun _ => Value → Fr) (pc3 R2 q2_30)
noncomputable def r223 (fr : Fr) : Value := N8.a7 (N8.a3 (N8.a3 fr))
noncomputable def w223 : Fr → Value → Fr := @N8.rec R2 (fun _ => Value → Fr) (pc3 R2 q2_31)
noncomputable def r224 (fr : Fr) : Value := N8.a0 (N8.a4 (N8.a3 fr))
noncomputable def w224 : Fr → Value → Fr := @N8.rec R2 (fun _ => Value → Fr) (pc3 R2 q2_32)
noncomputable def r225 (fr : Fr) : Value := N8.a1 (N8.a4 (N8.a3 fr))
noncomputable def w225 : Fr → Value → Fr := @N8.rec R2 (fun _ => Value → Fr) (pc3 R2 q2_33)
noncomputable def r226 (fr : Fr) : Value := N8.a2 (N8.a4 (N8.a3 fr))
noncomputable def w226 : Fr → Value → Fr := @N8.rec R2 (fun _ => Value → Fr) (pc3 R2 q2_34)
noncomputable def r227 (fr : Fr) : Value := N8.a3 (N8.a4 (N8.a3 fr))
noncomputable def w227 : Fr → Value → Fr := @N8.rec R2 (fun _ => Value → Fr) (pc3 R2 q2_35)
noncomputable def r228 (fr : Fr) : Value := N8.a4 (N8.a4 (N8.a3 fr))
noncomputable def w228 : Fr → Value → Fr := @N8.rec R2 (fun _ => Value → Fr) (pc3 R2 q2_36)
noncomputable def r229 (fr : Fr) : Value := N8.a5 (N8.a4 (N8.a3 fr))
noncomputable def w229 : Fr → Value → Fr := @N8.rec R2 (fun _ => Value → Fr) (pc3 R2 q2_37)
noncomputable def r230 (fr : Fr) : Value := N8.a6 (N8.a4 (N8.a3 fr))
noncomputable def w230 : Fr → Value → Fr := @N8.rec R2 (fun _ => Value → Fr) (pc3 R2 q2_38)
noncomputable def r231 (fr : Fr) : Value := N8.a7 (N8.a4 (N8.a3 fr))
noncomputable def w231 : Fr → Value → Fr := @N8.rec R2 (fun _ => Value → Fr) (pc3 R2 q2_39)
noncomputable def r232 (fr : Fr) : Value := N8.a0 (N8.a5 (N8.a3 fr))
noncomputable def w232 : Fr → Value → Fr := @N8.rec R2 (fun _ => Value → Fr) (pc3 R2 q2_40)
noncomputable def r233 (fr : Fr) : Value := N8.a1 (N8.a5 (N8.a3 fr))
noncomputable def w233 : Fr → Value → Fr := @N8.rec R2 (fun _ => Value → Fr) (pc3 R2 q2_41)
noncomputable def r234 (fr : Fr) : Value := N8.a2 (N8.a5 (N8.a3 fr))
noncomputable def w234 : Fr → Value → Fr := @N8.rec R2 (fun _ => Value → Fr) (pc3 R2 q2_42)
noncomputable def r235 (fr : Fr) : Value := N8.a3 (N8.a5 (N8.a3 fr))
noncomputable def w235 : Fr → Value → Fr := @N8.rec R2 (fun _ => Value → Fr) (pc3 R2 q2_43)
noncomputable def r236 (fr : Fr) : Value := N8.a4 (N8.a5 (N8.a3 fr))
noncomputable def w236 : Fr → Value → Fr := @N8.rec R2 (fun _ => Value → Fr) (pc3 R2 q2_44)
noncomputable def r237 (fr : Fr) : Value := N8.a5 (N8.a5 (N8.a3 fr))
noncomputable def w237 : Fr → Value → Fr := @N8.rec R2 (fun _ => Value → Fr) (pc3 R2 q2_45)
noncomputable def r238 (fr : Fr) : Value := N8.a6 (N8.a5 (N8.a3 fr))
noncomputable def w238 : Fr → Value → Fr := @N8.rec R2 (fun _ => Value → Fr) (pc3 R2 q2_46)
noncomputable def r239 (fr : Fr) : Value := N8.a7 (N8.a5 (N8.a3 fr))
noncomputable def w239 : Fr → Value → Fr := @N8.rec R2 (fun _ => Value → Fr) (pc3 R2 q2_47)
noncomputable def r240 (fr : Fr) : Value := N8.a0 (N8.a6 (N8.a3 fr))
noncomputable def w240 : Fr → Value → Fr := @N8.rec R2 (fun _ => Value → Fr) (pc3 R2 q2_48)
noncomputable def r241 (fr : Fr) : Value := N8.a1 (N8.a6 (N8.a3 fr))
noncomputable def w241 : Fr → Value → Fr := @N8.rec R2 (fun _ => Value → Fr) (pc3 R2 q2_49)
noncomputable def r242 (fr : Fr) : Value := N8.a2 (N8.a6 (N8.a3 fr))
noncomputable def w242 : Fr → Value → Fr := @N8.rec R2 (fun _ => Value → Fr) (pc3 R2 q2_50)
noncomputable def r243 (fr : Fr) : Value := N8.a3 (N8.a6 (N8.a3 fr))
noncomputable def w243 : Fr → Value → Fr := @N8.rec R2 (fun _ => Value → Fr) (pc3 R2 q2_51)
noncomputable def r244 (fr : Fr) : Value := N8.a4 (N8.a6 (N8.a3 fr))
noncomputable def w244 : Fr → Value → Fr := @N8.rec R2 (fun _ => Value → Fr) (pc3 R2 q2_52)
noncomputable def r245 (fr : Fr) : Value := N8.a5 (N8.a6 (N8.a3 fr))
noncomputable def w245 : Fr → Value → Fr := @N8.rec R2 (fun _ => Value → Fr) (pc3 R2 q2_53)
noncomputable def r246 (fr : Fr) : Value := N8.a6 (N8.a6 (N8.a3 fr))
noncomputable def w246 : Fr → Value → Fr := @N8.rec R2 (fun _ => Value → Fr) (pc3 R2 q2_54)
noncomputable def r247 (fr : Fr) : Value := N8.a7 (N8.a6 (N8.a3 fr))
noncomputable def w247 : Fr → Value → Fr := @N8.rec R2 (fun _ => Value → Fr) (pc3 R2 q2_55)
noncomputable def r248 (fr : Fr) : Value := N8.a0 (N8.a7 (N8.a3 fr))
noncomputable def w248 : Fr → Value → Fr := @N8.rec R2 (fun _ => Value → Fr) (pc3 R2 q2_56)
noncomputable def r249 (fr : Fr) : Value := N8.a1 (N8.a7 (N8.a3 fr))
noncomputable def w249 : Fr → Value → Fr := @N8.rec R2 (fun _ => Value → Fr) (pc3 R2 q2_57)
noncomputable def r250 (fr : Fr) : Value := N8.a2 (N8.a7 (N8.a3 fr))
noncomputable def w250 : Fr → Value → Fr := @N8.rec R2 (fun _ => Value → Fr) (pc3 R2 q2_58)
noncomputable def r251 (fr : Fr) : Value := N8.a3 (N8.a7 (N8.a3 fr))
noncomputable def w251 : Fr → Value → Fr := @N8.rec R2 (fun _ => Value → Fr) (pc3 R2 q2_59)
noncomputable def r252 (fr : Fr) : Value := N8.a4 (N8.a7 (N8.a3 fr))
noncomputable def w252 : Fr → Value → Fr := @N8.rec R2 (fun _ => Value → Fr) (pc3 R2 q2_60)
noncomputable def r253 (fr : Fr) : Value := N8.a5 (N8.a7 (N8.a3 fr))
noncomputable def w253 : Fr → Value → Fr := @N8.rec R2 (fun _ => Value → Fr) (pc3 R2 q2_61)
noncomputable def r254 (fr : Fr) : Value := N8.a6 (N8.a7 (N8.a3 fr))
noncomputable def w254 : Fr → Value → Fr := @N8.rec R2 (fun _ => Value → Fr) (pc3 R2 q2_62)
noncomputable def r255 (fr : Fr) : Value := N8.a7 (N8.a7 (N8.a3 fr))
noncomputable def w255 : Fr → Value → Fr := @N8.rec R2 (fun _ => Value → Fr) (pc3 R2 q2_63)
noncomputable def r256 (fr : Fr) : Value := N8.a0 (N8.a0 (N8.a4 fr))
noncomputable def w256 : Fr → Value → Fr := @N8.rec R2 (fun _ => Value → Fr) (pc4 R2 q2_0)
noncomputable def r257 (fr : Fr) : Value := N8.a1 (N8.a0 (N8.a4 fr))
noncomputable def w257 : Fr → Value → Fr := @N8.rec R2 (fun _ => Value → Fr) (pc4 R2 q2_1)
noncomputable def r258 (fr : Fr) : Value := N8.a2 (N8.a0 (N8.a4 fr))
noncomputable def w258 : Fr → Value → Fr := @N8.rec R2 (fun _ => Value → Fr) (pc4 R2 q2_2)
noncomputable def r259 (fr : Fr) : Value := N8.a3 (N8.a0 (N8.a4 fr))
noncomputable def w259 : Fr → Value → Fr := @N8.rec R2 (fun _ => Value → Fr) (pc4 R2 q2_3)
noncomputable def r260 (fr : Fr) : Value := N8.a4 (N8.a0 (N8.a4 fr))
noncomputable def w260 : Fr → Value → Fr := @N8.rec R2 (fun _ => Value → Fr) (pc4 R2 q2_4)
noncomputable def r261 (fr : Fr) : Value := N8.a5 (N8.a0 (N8.a4 fr))
noncomputable def w261 : Fr → Value → Fr := @N8.rec R2 (fun _ => Value → Fr) (pc4 R2 q2_5)
noncomputable def r262 (fr : Fr) : Value := N8.a6 (N8.a0 (N8.a4 fr))
noncomputable def w262 : Fr → Value → Fr := @N8.rec R2 (fun _ => Value → Fr) (pc4 R2 q2_6)
noncomputable def r263 (fr : Fr) : Value := N8.a7 (N8.a0 (N8.a4 fr))
noncomputable def w263 : Fr → Value → Fr := @N8.rec R2 (fun _ => Value → Fr) (pc4 R2 q2_7)
noncomputable def r264 (fr : Fr) : Value := N8.a0 (N8.a1 (N8.a4 fr))
noncomputable def w264 : Fr → Value → Fr := @N8.rec R2 (fun _ => Value → Fr) (pc4 R2 q2_8)
noncomputable def r265 (fr : Fr) : Value := N8.a1 (N8.a1 (N8.a4 fr))
noncomputable def w265 : Fr → Value → Fr := @N8.rec R2 (fun _ => Value → Fr) (pc4 R2 q2_9)
noncomputable def r266 (fr : Fr) : Value := N8.a2 (N8.a1 (N8.a4 fr))
noncomputable def w266 : Fr → Value → Fr := @N8.rec R2 (fun _ => Value → Fr) (pc4 R2 q2_10)
noncomputable def r267 (fr : Fr) : Value := N8.a3 (N8.a1 (N8.a4 fr))
noncomputable def w267 : Fr → Value → Fr := @N8.rec R2 (fun _ => Value → Fr) (pc4 R2 q2_11)
noncomputable def r268 (fr : Fr) : Value := N8.a4 (N8.a1 (N8.a4 fr))
noncomputable def w268 : Fr → Value → Fr := @N8.rec R2 (fun _ => Value → Fr) (pc4 R2 q2_12)
noncomputable def r269 (fr : Fr) : Value := N8.a5 (N8.a1 (N8.a4 fr))
noncomputable def w269 : Fr → Value → Fr := @N8.rec R2 (fun _ => Value → Fr) (pc4 R2 q2_13)
noncomputable def r270 (fr : Fr) : Value := N8.a6 (N8.a1 (N8.a4 fr))
noncomputable def w270 : Fr → Value → Fr := @N8.rec R2 (fun _ => Value → Fr) (pc4 R2 q2_14)
noncomputable def r271 (fr : Fr) : Value := N8.a7 (N8.a1 (N8.a4 fr))
noncomputable def w271 : Fr → Value → Fr := @N8.rec R2 (fun _ => Value → Fr) (pc4 R2 q2_15)
noncomputable def r272 (fr : Fr) : Value := N8.a0 (N8.a2 (N8.a4 fr))
noncomputable def w272 : Fr → Value → Fr := @N8.rec R2 (fun _ => Value → Fr) (pc4 R2 q2_16)
noncomputable def r273 (fr : Fr) : Value := N8.a1 (N8.a2 (N8.a4 fr))
noncomputable def w273 : Fr → Value → Fr := @N8.rec R2 (fun _ => Value → Fr) (pc4 R2 q2_17)
noncomputable def r274 (fr : Fr) : Value := N8.a2 (N8.a2 (N8.a4 fr))
noncomputable def w274 : Fr → Value → Fr := @N8.rec R2 (fun _ => Value → Fr) (pc4 R2 q2_18)
noncomputable def r275 (fr : Fr) : Value := N8.a3 (N8.a2 (N8.a4 fr))
noncomputable def w275 : Fr → Value → Fr := @N8.rec R2 (fun _ => Value → Fr) (pc4 R2 q2_19)
noncomputable def r276 (fr : Fr) : Value := N8.a4 (N8.a2 (N8.a4 fr))
noncomputable def w276 : Fr → Value → Fr := @N8.rec R2 (fun _ => Value → Fr) (pc4 R2 q2_20)
noncomputable def r277 (fr : Fr) : Value := N8.a5 (N8.a2 (N8.a4 fr))
noncomputable def w277 : Fr → Value → Fr := @N8.rec R2 (fun _ => Value → Fr) (pc4 R2 q2_21)
noncomputable def r278 (fr : Fr) : Value := N8.a6 (N8.a2 (N8.a4 fr))
noncomputable def w278 : Fr → Value → Fr := @N8.rec R2 (fun _ => Value → Fr) (pc4 R2 q2_22)
noncomputable def r279 (fr : Fr) : Value := N8.a7 (N8.a2 (N8.a4 fr))
noncomputable def w279 : Fr → Value → Fr := @N8.rec R2 (fun _ => Value → Fr) (pc4 R2 q2_23)
noncomputable def r280 (fr : Fr) : Value := N8.a0 (N8.a3 (N8.a4 fr))
noncomputable def w280 : Fr → Value → Fr := @N8.rec R2 (fun _ => Value → Fr) (pc4 R2 q2_24)
noncomputable def r281 (fr : Fr) : Value := N8.a1 (N8.a3 (N8.a4 fr))
noncomputable def w281 : Fr → Value → Fr := @N8.rec R2 (fun _ => Value → Fr) (pc4 R2 q2_25)
noncomputable def r282 (fr : Fr) : Value := N8.a2 (N8.a3 (N8.a4 fr))
noncomputable def w282 : Fr → Value → Fr := @N8.rec R2 (fun _ => Value → Fr) (pc4 R2 q2_26)
noncomputable def r283 (fr : Fr) : Value := N8.a3 (N8.a3 (N8.a4 fr))
noncomputable def w283 : Fr → Value → Fr := @N8.rec R2 (fun _ => Value → Fr) (pc4 R2 q2_27)
noncomputable def r284 (fr : Fr) : Value := N8.a4 (N8.a3 (N8.a4 fr))
noncomputable def w284 : Fr → Value → Fr := @N8.rec R2 (fun _ => Value → Fr) (pc4 R2 q2_28)
noncomputable def r285 (fr : Fr) : Value := N8.a5 (N8.a3 (N8.a4 fr))
noncomputable def w285 : Fr → Value → Fr := @N8.rec R2 (fun _ => Value → Fr) (pc4 R2 q2_29)
noncomputable def r286 (fr : Fr) : Value := N8.a6 (N8.a3 (N8.a4 fr))
noncomputable def w286 : Fr → Value → Fr := @N8.rec R2 (fun _ => Value → Fr) (pc4 R2 q2_30)
noncomputable def r287 (fr : Fr) : Value := N8.a7 (N8.a3 (N8.a4 fr))
noncomputable def w287 : Fr → Value → Fr := @N8.rec R2 (fun _ => Value → Fr) (pc4 R2 q2_31)
noncomputable def r288 (fr : Fr) : Value := N8.a0 (N8.a4 (N8.a4 fr))
noncomputable def w288 : Fr → Value → Fr := @N8.rec R2 (fun _ => Value → Fr) (pc4 R2 q2_32)
noncomputable def r289 (fr : Fr) : Value := N8.a1 (N8.a4 (N8.a4 fr))
noncomputable def w289 : Fr → Value → Fr := @N8.rec R2 (fun _ => Value → Fr) (pc4 R2 q2_33)
noncomputable def r290 (fr : Fr) : Value := N8.a2 (N8.a4 (N8.a4 fr))
noncomputable def w290 : Fr → Value → Fr := @N8.rec R2 (fun _ => Value → Fr) (pc4 R2 q2_34)
noncomputable def r291 (fr : Fr) : Value := N8.a3 (N8.a4 (N8.a4 fr))
noncomputable def w291 : Fr → Value → Fr := @N8.rec R2 (fun _ => Value → Fr) (pc4 R2 q2_35)
noncomputable def r292 (fr : Fr) : Value := N8.a4 (N8.a4 (N8.a4 fr))
noncomputable def w292 : Fr → Value → Fr := @N8.rec R2 (fun _ => Value → Fr) (pc4 R2 q2_36)
noncomputable def r293 (fr : Fr) : Value := N8.a5 (N8.a4 (N8.a4 fr))
noncomputable def w293 : Fr → Value → Fr := @N8.rec R2 (fun _ => Value → Fr) (pc4 R2 q2_37)
noncomputable def r294 (fr : Fr) : Value := N8.a6 (N8.a4 (N8.a4 fr))
noncomputable def w294 : Fr → Value → Fr := @N8.rec R2 (fun _ => Value → Fr) (pc4 R2 q2_38)
noncomputable def r295 (fr : Fr) : Value := N8.a7 (N8.a4 (N8.a4 fr))
noncomputable def w295 : Fr → Value → Fr := @N8.rec R2 (fun _ => Value → Fr) (pc4 R2 q2_39)
noncomputable def r296 (fr : Fr) : Value := N8.a0 (N8.a5 (N8.a4 fr))
noncomputable def w296 : Fr → Value → Fr := @N8.rec R2 (fun _ => Value → Fr) (pc4 R2 q2_40)
noncomputable def r297 (fr : Fr) : Value := N8.a1 (N8.a5 (N8.a4 fr))
noncomputable def w297 : Fr → Value → Fr := @N8.rec R2 (fun _ => Value → Fr) (pc4 R2 q2_41)
noncomputable def r298 (fr : Fr) : Value := N8.a2 (N8.a5 (N8.a4 fr))
noncomputable def w298 : Fr → Value → Fr := @N8.rec R2 (fun _ => Value → Fr) (pc4 R2 q2_42)
noncomputable def r299 (fr : Fr) : Value := N8.a3 (N8.a5 (N8.a4 fr))
noncomputable def w299 : Fr → Value → Fr := @N8.rec R2 (fun _ => Value → Fr) (pc4 R2 q2_43)
noncomputable def r300 (fr : Fr) : Value := N8.a4 (N8.a5 (N8.a4 fr))
noncomputable def w300 : Fr → Value → Fr := @N8.rec R2 (fun _ => Value → Fr) (pc4 R2 q2_44)
noncomputable def r301 (fr : Fr) : Value := N8.a5 (N8.a5 (N8.a4 fr))
noncomputable def w301 : Fr → Value → Fr := @N8.rec R2 (fun _ => Value → Fr) (pc4 R2 q2_45)
noncomputable def r302 (fr : Fr) : Value := N8.a6 (N8.a5 (N8.a4 fr))
noncomputable def w302 : Fr → Value → Fr := @N8.rec R2 (fun _ => Value → Fr) (pc4 R2 q2_46)
noncomputable def r303 (fr : Fr) : Value := N8.a7 (N8.a5 (N8.a4 fr))
noncomputable def w303 : Fr → Value → Fr := @N8.rec R2 (fun _ => Value → Fr) (pc4 R2 q2_47)
noncomputable def r304 (fr : Fr) : Value := N8.a0 (N8.a6 (N8.a4 fr))
noncomputable def w304 : Fr → Value → Fr := @N8.rec R2 (fun _ => Value → Fr) (pc4 R2 q2_48)
noncomputable def r305 (fr : Fr) : Value := N8.a1 (N8.a6 (N8.a4 fr))
noncomputable def w305 : Fr → Value → Fr := @N8.rec R2 (fun _ => Value → Fr) (pc4 R2 q2_49)
noncomputable def r306 (fr : Fr) : Value := N8.a2 (N8.a6 (N8.a4 fr))
noncomputable def w306 : Fr → Value → Fr := @N8.rec R2 (fun _ => Value → Fr) (pc4 R2 q2_50)
noncomputable def r307 (fr : Fr) : Value := N8.a3 (N8.a6 (N8.a4 fr))
noncomputable def w307 : Fr → Value → Fr := @N8.rec R2 (fun _ => Value → Fr) (pc4 R2 q2_51)
noncomputable def r308 (fr : Fr) : Value := N8.a4 (N8.a6 (N8.a4 fr))
noncomputable def w308 : Fr → Value → Fr := @N8.rec R2 (fun _ => Value → Fr) (pc4 R2 q2_52)
noncomputable def r309 (fr : Fr) : Value := N8.a5 (N8.a6 (N8.a4 fr))
noncomputable def w309 : Fr → Value → Fr := @N8.rec R2 (fun _ => Value → Fr) (pc4 R2 q2_53)
noncomputable def r310 (fr : Fr) : Value := N8.a6 (N8.a6 (N8.a4 fr))
noncomputable def w310 : Fr → Value → Fr := @N8.rec R2 (fun _ => Value → Fr) (pc4 R2 q2_54)
noncomputable def r311 (fr : Fr) : Value := N8.a7 (N8.a6 (N8.a4 fr))
noncomputable def w311 : Fr → Value → Fr := @N8.rec R2 (fun _ => Value → Fr) (pc4 R2 q2_55)
noncomputable def r312 (fr : Fr) : Value := N8.a0 (N8.a7 (N8.a4 fr))
noncomputable def w312 : Fr → Value → Fr := @N8.rec R2 (fun _ => Value → Fr) (pc4 R2 q2_56)
noncomputable def r313 (fr : Fr) : Value := N8.a1 (N8.a7 (N8.a4 fr))
noncomputable def w313 : Fr → Value → Fr := @N8.rec R2 (fun _ => Value → Fr) (pc4 R2 q2_57)
noncomputable def r314 (fr : Fr) : Value := N8.a2 (N8.a7 (N8.a4 fr))
noncomputable def w314 : Fr → Value → Fr := @N8.rec R2 (fun _ => Value → Fr) (pc4 R2 q2_58)
noncomputable def r315 (fr : Fr) : Value := N8.a3 (N8.a7 (N8.a4 fr))
noncomputable def w315 : Fr → Value → Fr := @N8.rec R2 (fun _ => Value → Fr) (pc4 R2 q2_59)
noncomputable def r316 (fr : Fr) : Value := N8.a4 (N8.a7 (N8.a4 fr))
noncomputable def w316 : Fr → Value → Fr := @N8.rec R2 (fun _ => Value → Fr) (pc4 R2 q2_60)
noncomputable def r317 (fr : Fr) : Value := N8.a5 (N8.a7 (N8.a4 fr))
noncomputable def w317 : Fr → Value → Fr := @N8.rec R2 (fun _ => Value → Fr) (pc4 R2 q2_61)
noncomputable def r318 (fr : Fr) : Value := N8.a6 (N8.a7 (N8.a4 fr))
noncomputable def w318 : Fr → Value → Fr := @N8.rec R2 (fun _ => Value → Fr) (pc4 R2 q2_62)
noncomputable def r319 (fr : Fr) : Value := N8.a7 (N8.a7 (N8.a4 fr))
noncomputable def w319 : Fr → Value → Fr := @N8.rec R2 (fun _ => Value → Fr) (pc4 R2 q2_63)
noncomputable def r320 (fr : Fr) : Value := N8.a0 (N8.a0 (N8.a5 fr))
noncomputable def w320 : Fr → Value → Fr := @N8.rec R2 (fun _ => Value → Fr) (pc5 R2 q2_0)
noncomputable def r321 (fr : Fr) : Value := N8.a1 (N8.a0 (N8.a5 fr))
noncomputable def w321 : Fr → Value → Fr := @N8.rec R2 (fun _ => Value → Fr) (pc5 R2 q2_1)
noncomputable def r322 (fr : Fr) : Value := N8.a2 (N8.a0 (N8.a5 fr))
noncomputable def w322 : Fr → Value → Fr := @N8.rec R2 (fun _ => Value → Fr) (pc5 R2 q2_2)
noncomputable def r323 (fr : Fr) : Value := N8.a3 (N8.a0 (N8.a5 fr))
noncomputable def w323 : Fr → Value → Fr := @N8.rec R2 (fun _ => Value → Fr) (pc5 R2 q2_3)
noncomputable def r324 (fr : Fr) : Value := N8.a4 (N8.a0 (N8.a5 fr))
noncomputable def w324 : Fr → Value → Fr := @N8.rec R2 (fun _ => Value → Fr) (pc5 R2 q2_4)
noncomputable def r325 (fr : Fr) : Value := N8.a5 (N8.a0 (N8.a5 fr))
noncomputable def w325 : Fr → Value → Fr := @N8.rec R2 (fun _ => Value → Fr) (pc5 R2 q2_5)
noncomputable def r326 (fr : Fr) : Value := N8.a6 (N8.a0 (N8.a5 fr))
noncomputable def w326 : Fr → Value → Fr := @N8.rec R2 (fun _ => Value → Fr) (pc5 R2 q2_6)
noncomputable def r327 (fr : Fr) : Value := N8.a7 (N8.a0 (N8.a5 fr))
noncomputable def w327 : Fr → Value → Fr := @N8.rec R2 (fun _ => Value → Fr) (pc5 R2 q2_7)
noncomputable def r328 (fr : Fr) : Value := N8.a0 (N8.a1 (N8.a5 fr))
noncomputable def w328 : Fr → Value → Fr := @N8.rec R2 (fun _ => Value → Fr) (pc5 R2 q2_8)
noncomputable def r329 (fr : Fr) : Value := N8.a1 (N8.a1 (N8.a5 fr))
noncomputable def w329 : Fr → Value → Fr := @N8.rec R2 (fun _ => Value → Fr) (pc5 R2 q2_9)
noncomputable def r330 (fr : Fr) : Value := N8.a2 (N8.a1 (N8.a5 fr))
noncomputable def w330 : Fr → Value → Fr := @N8.rec R2 (fun _ => Value → Fr) (pc5 R2 q2_10)
noncomputable def r331 (fr : Fr) : Value := N8.a3 (N8.a1 (N8.a5 fr))
noncomputable def w331 : Fr → Value → Fr := @N8.rec R2 (fun _ => Value → Fr) (pc5 R2 q2_11)
noncomputable def r332 (fr : Fr) : Value := N8.a4 (N8.a1 (N8.a5 fr))
noncomputable def w332 : Fr → Value → Fr := @N8.rec R2 (fun _ => Value → Fr) (pc5 R2 q2_12)
noncomputable def r333 (fr : Fr) : Value := N8.a5 (N8.a1 (N8.a5 fr))
noncomputable def w333 : Fr → Value → Fr := @N8.rec R2 (fun _ => Value → Fr) (pc5 R2 q2_13)
noncomputable def r334 (fr : Fr) : Value := N8.a6 (N8.a1 (N8.a5 fr))
noncomputable def w334 : Fr → Value → Fr := @N8.rec R2 (fun _ => Value → Fr) (pc5 R2 q2_14)
noncomputable def r335 (fr : Fr) : Value := N8.a7 (N8.a1 (N8.a5 fr))
noncomputable def w335 : Fr → Value → Fr := @N8.rec R2 (fun _ => Value → Fr) (pc5 R2 q2_15)
noncomputable def r336 (fr : Fr) : Value := N8.a0 (N8.a2 (N8.a5 fr))
noncomputable def w336 : Fr → Value → Fr := @N8.rec R2 (fun _ => Value → Fr) (pc5 R2 q2_16)
noncomputable def r337 (fr : Fr) : Value := N8.a1 (N8.a2 (N8.a5 fr))
noncomputable def w337 : Fr → Value → Fr := @N8.rec R2 (fun _ => Value → Fr) (pc5 R2 q2_17)
noncomputable def r338 (fr : Fr) : Value := N8.a2 (N8.a2 (N8.a5 fr))
noncomputable def w338 : Fr → Value → Fr := @N8.rec R2 (fun _ => Value → Fr) (pc5 R2 q2_18)
noncomputable def r339 (fr : Fr) : Value := N8.a3 (N8.a2 (N8.a5 fr))
noncomputable def w339 : Fr → Value → Fr := @N8.rec R2 (fun _ => Value → Fr) (pc5 R2 q2_19)
noncomputable def r340 (fr : Fr) : Value := N8.a4 (N8.a2 (N8.a5 fr))
noncomputable def w340 : Fr → Value → Fr := @N8.rec R2 (fun _ => Value → Fr) (pc5 R2 q2_20)
noncomputable def r341 (fr : Fr) : Value := N8.a5 (N8.a2 (N8.a5 fr))
noncomputable def w341 : Fr → Value → Fr := @N8.rec R2 (fun _ => Value → Fr) (pc5 R2 q2_21)
noncomputable def r342 (fr : Fr) : Value := N8.a6 (N8.a2 (N8.a5 fr))
noncomputable def w342 : Fr → Value → Fr := @N8.rec R2 (fun _ => Value → Fr) (pc5 R2 q2_22)
noncomputable def r343 (fr : Fr) : Value := N8.a7 (N8.a2 (N8.a5 fr))
noncomputable def w343 : Fr → Value → Fr := @N8.rec R2 (fun _ => Value → Fr) (pc5 R2 q2_23)
noncomputable def r344 (fr : Fr) : Value := N8.a0 (N8.a3 (N8.a5 fr))
noncomputable def w344 : Fr → Value → Fr := @N8.rec R2 (fun _ => Value → Fr) (pc5 R2 q2_24)
noncomputable def r345 (fr : Fr) : Value := N8.a1 (N8.a3 (N8.a5 fr))
noncomputable def w345 : Fr → Value → Fr := @N8.rec R2 (fun _ => Value → Fr) (pc5 R2 q2_25)
noncomputable def r346 (fr : Fr) : Value := N8.a2 (N8.a3 (N8.a5 fr))
noncomputable def w346 : Fr → Value → Fr := @N8.rec R2 (fun _ => Value → Fr) (pc5 R2 q2_26)
noncomputable def r347 (fr : Fr) : Value := N8.a3 (N8.a3 (N8.a5 fr))
noncomputable def w347 : Fr → Value → Fr := @N8.rec R2 (fun _ => Value → Fr) (pc5 R2 q2_27)
noncomputable def r348 (fr : Fr) : Value := N8.a4 (N8.a3 (N8.a5 fr))
noncomputable def w348 : Fr → Value → Fr := @N8.rec R2 (fun _ => Value → Fr) (pc5 R2 q2_28)
noncomputable def r349 (fr : Fr) : Value := N8.a5 (N8.a3 (N8.a5 fr))
noncomputable def w349 : Fr → Value → Fr := @N8.rec R2 (fun _ => Value → Fr) (pc5 R2 q2_29)
noncomputable def r350 (fr : Fr) : Value := N8.a6 (N8.a3 (N8.a5 fr))
noncomputable def w350 : Fr → Value → Fr := @N8.rec R2 (fun _ => Value → Fr) (pc5 R2 q2_30)
noncomputable def r351 (fr : Fr) : Value := N8.a7 (N8.a3 (N8.a5 fr))
noncomputable def w351 : Fr → Value → Fr := @N8.rec R2 (fun _ => Value → Fr) (pc5 R2 q2_31)
noncomputable def r352 (fr : Fr) : Value := N8.a0 (N8.a4 (N8.a5 fr))
noncomputable def w352 : Fr → Value → Fr := @N8.rec R2 (fun _ => Value → Fr) (pc5 R2 q2_32)
noncomputable def r353 (fr : Fr) : Value := N8.a1 (N8.a4 (N8.a5 fr))
noncomputable def w353 : Fr → Value → Fr := @N8.rec R2 (fun _ => Value → Fr) (pc5 R2 q2_33)
noncomputable def r354 (fr : Fr) : Value := N8.a2 (N8.a4 (N8.a5 fr))
noncomputable def w354 : Fr → Value → Fr := @N8.rec R2 (fun _ => Value → Fr) (pc5 R2 q2_34)
noncomputable def r355 (fr : Fr) : Value := N8.a3 (N8.a4 (N8.a5 fr))
noncomputable def w355 : Fr → Value → Fr := @N8.rec R2 (fun _ => Value → Fr) (pc5 R2 q2_35)
noncomputable def r356 (fr : Fr) : Value := N8.a4 (N8.a4 (N8.a5 fr))
noncomputable def w356 : Fr → Value → Fr := @N8.rec R2 (fun _ => Value → Fr) (pc5 R2 q2_36)
noncomputable def r357 (fr : Fr) : Value := N8.a5 (N8.a4 (N8.a5 fr))
noncomputable def w357 : Fr → Value → Fr := @N8.rec R2 (fun _ => Value → Fr) (pc5 R2 q2_37)
noncomputable def r358 (fr : Fr) : Value := N8.a6 (N8.a4 (N8.a5 fr))
noncomputable def w358 : Fr → Value → Fr := @N8.rec R2 (fun _ => Value → Fr) (pc5 R2 q2_38)
noncomputable def r359 (fr : Fr) : Value := N8.a7 (N8.a4 (N8.a5 fr))
noncomputable def w359 : Fr → Value → Fr := @N8.rec R2 (fun _ => Value → Fr) (pc5 R2 q2_39)
noncomputable def r360 (fr : Fr) : Value := N8.a0 (N8.a5 (N8.a5 fr))
noncomputable def w360 : Fr → Value → Fr := @N8.rec R2 (fun _ => Value → Fr) (pc5 R2 q2_40)
noncomputable def r361 (fr : Fr) : Value := N8.a1 (N8.a5 (N8.a5 fr))
noncomputable def w361 : Fr → Value → Fr := @N8.rec R2 (fun _ => Value → Fr) (pc5 R2 q2_41)
noncomputable def r362 (fr : Fr) : Value := N8.a2 (N8.a5 (N8.a5 fr))
noncomputable def w362 : Fr → Value → Fr := @N8.rec R2 (fun _ => Value → Fr) (pc5 R2 q2_42)
noncomputable def r363 (fr : Fr) : Value := N8.a3 (N8.a5 (N8.a5 fr))
noncomputable def w363 : Fr → Value → Fr := @N8.rec R2 (fun _ => Value → Fr) (pc5 R2 q2_43)
noncomputable def r364 (fr : Fr) : Value := N8.a4 (N8.a5 (N8.a5 fr))
noncomputable def w364 : Fr → Value → Fr := @N8.rec R2 (fun _ => Value → Fr) (pc5 R2 q2_44)
noncomputable def r365 (fr : Fr) : Value := N8.a5 (N8.a5 (N8.a5 fr))
noncomputable def w365 : Fr → Value → Fr := @N8.rec R2 (fun _ => Value → Fr) (pc5 R2 q2_45)
noncomputable def r366 (fr : Fr) : Value := N8.a6 (N8.a5 (N8.a5 fr))
noncomputable def w366 : Fr → Value → Fr := @N8.rec R2 (fun _ => Value → Fr) (pc5 R2 q2_46)
noncomputable def r367 (fr : Fr) : Value := N8.a7 (N8.a5 (N8.a5 fr))
noncomputable def w367 : Fr → Value → Fr := @N8.rec R2 (fun _ => Value → Fr) (pc5 R2 q2_47)
noncomputable def r368 (fr : Fr) : Value := N8.a0 (N8.a6 (N8.a5 fr))
noncomputable def w368 : Fr → Value → Fr := @N8.rec R2 (fun _ => Value → Fr) (pc5 R2 q2_48)
noncomputable def r369 (fr : Fr) : Value := N8.a1 (N8.a6 (N8.a5 fr))
noncomputable def w369 : Fr → Value → Fr := @N8.rec R2 (fun _ => Value → Fr) (pc5 R2 q2_49)
noncomputable def r370 (fr : Fr) : Value := N8.a2 (N8.a6 (N8.a5 fr))
noncomputable def w370 : Fr → Value → Fr := @N8.rec R2 (fun _ => Value → Fr) (pc5 R2 q2_50)
noncomputable def r371 (fr : Fr) : Value := N8.a3 (N8.a6 (N8.a5 fr))
noncomputable def w371 : Fr → Value → Fr := @N8.rec R2 (fun _ => Value → Fr) (pc5 R2 q2_51)
noncomputable def r372 (fr : Fr) : Value := N8.a4 (N8.a6 (N8.a5 fr))
noncomputable def w372 : Fr → Value → Fr := @N8.rec R2 (fun _ => Value → Fr) (pc5 R2 q2_52)
noncomputable def r373 (fr : Fr) : Value := N8.a5 (N8.a6 (N8.a5 fr))
noncomputable def w373 : Fr → Value → Fr := @N8.rec R2 (fun _ => Value → Fr) (pc5 R2 q2_53)
noncomputable def r374 (fr : Fr) : Value := N8.a6 (N8.a6 (N8.a5 fr))
noncomputable def w374 : Fr → Value → Fr := @N8.rec R2 (fun _ => Value → Fr) (pc5 R2 q2_54)
noncomputable def r375 (fr : Fr) : Value := N8.a7 (N8.a6 (N8.a5 fr))
noncomputable def w375 : Fr → Value → Fr := @N8.rec R2 (fun _ => Value → Fr) (pc5 R2 q2_55)
noncomputable def r376 (fr : Fr) : Value := N8.a0 (N8.a7 (N8.a5 fr))
noncomputable def w376 : Fr → Value → Fr := @N8.rec R2 (fun _ => Value → Fr) (pc5 R2 q2_56)
noncomputable def r377 (fr : Fr) : Value := N8.a1 (N8.a7 (N8.a5 fr))
noncomputable def w377 : Fr → Value → Fr := @N8.rec R2 (fun _ => Value → Fr) (pc5 R2 q2_57)
noncomputable def r378 (fr : Fr) : Value := N8.a2 (N8.a7 (N8.a5 fr))
noncomputable def w378 : Fr → Value → Fr := @N8.rec R2 (fun _ => Value → Fr) (pc5 R2 q2_58)
noncomputable def r379 (fr : Fr) : Value := N8.a3 (N8.a7 (N8.a5 fr))
noncomputable def w379 : Fr → Value → Fr := @N8.rec R2 (fun _ => Value → Fr) (pc5 R2 q2_59)
noncomputable def r380 (fr : Fr) : Value := N8.a4 (N8.a7 (N8.a5 fr))
noncomputable def w380 : Fr → Value → Fr := @N8.rec R2 (fun _ => Value → Fr) (pc5 R2 q2_60)
noncomputable def r381 (fr : Fr) : Value := N8.a5 (N8.a7 (N8.a5 fr))
noncomputable def w381 : Fr → Value → Fr := @N8.rec R2 (fun _ => Value → Fr) (pc5 R2 q2_61)
noncomputable def r382 (fr : Fr) : Value := N8.a6 (N8.a7 (N8.a5 fr))
noncomputable def w382 : Fr → Value → Fr := @N8.rec R2 (fun _ => Value → Fr) (pc5 R2 q2_62)
noncomputable def r383 (fr : Fr) : Value := N8.a7 (N8.a7 (N8.a5 fr))
noncomputable def w383 : Fr → Value → Fr := @N8.rec R2 (fun _ => Value → Fr) (pc5 R2 q2_63)
noncomputable def r384 (fr : Fr) : Value := N8.a0 (N8.a0 (N8.a6 fr))
noncomputable def w384 : Fr → Value → Fr := @N8.rec R2 (fun _ => Value → Fr) (pc6 R2 q2_0)
noncomputable def r385 (fr : Fr) : Value := N8.a1 (N8.a0 (N8.a6 fr))
noncomputable def w385 : Fr → Value → Fr := @N8.rec R2 (fun _ => Value → Fr) (pc6 R2 q2_1)
noncomputable def r386 (fr : Fr) : Value := N8.a2 (N8.a0 (N8.a6 fr))
noncomputable def w386 : Fr → Value → Fr := @N8.rec R2 (fun _ => Value → Fr) (pc6 R2 q2_2)
noncomputable def r387 (fr : Fr) : Value := N8.a3 (N8.a0 (N8.a6 fr))
noncomputable def w387 : Fr → Value → Fr := @N8.rec R2 (fun _ => Value → Fr) (pc6 R2 q2_3)
noncomputable def r388 (fr : Fr) : Value := N8.a4 (N8.a0 (N8.a6 fr))
noncomputable def w388 : Fr → Value → Fr := @N8.rec R2 (fun _ => Value → Fr) (pc6 R2 q2_4)
noncomputable def r389 (fr : Fr) : Value := N8.a5 (N8.a0 (N8.a6 fr))
noncomputable def w389 : Fr → Value → Fr := @N8.rec R2 (fun _ => Value → Fr) (pc6 R2 q2_5)
noncomputable def r390 (fr : Fr) : Value := N8.a6 (N8.a0 (N8.a6 fr))
noncomputable def w390 : Fr → Value → Fr := @N8.rec R2 (fun _ => Value → Fr) (pc6 R2 q2_6)
noncomputable def r391 (fr : Fr) : Value := N8.a7 (N8.a0 (N8.a6 fr))
noncomputable def w391 : Fr → Value → Fr := @N8.rec R2 (fun _ => Value → Fr) (pc6 R2 q2_7)
noncomputable def r392 (fr : Fr) : Value := N8.a0 (N8.a1 (N8.a6 fr))
noncomputable def w392 : Fr → Value → Fr := @N8.rec R2 (fun _ => Value → Fr) (pc6 R2 q2_8)
noncomputable def r393 (fr : Fr) : Value := N8.a1 (N8.a1 (N8.a6 fr))
noncomputable def w393 : Fr → Value → Fr := @N8.rec R2 (fun _ => Value → Fr) (pc6 R2 q2_9)
noncomputable def r394 (fr : Fr) : Value := N8.a2 (N8.a1 (N8.a6 fr))
noncomputable def w394 : Fr → Value → Fr := @N8.rec R2 (fun _ => Value → Fr) (pc6 R2 q2_10)
noncomputable def r395 (fr : Fr) : Value := N8.a3 (N8.a1 (N8.a6 fr))
noncomputable def w395 : Fr → Value → Fr := @N8.rec R2 (fun _ => Value → Fr) (pc6 R2 q2_11)
noncomputable def r396 (fr : Fr) : Value := N8.a4 (N8.a1 (N8.a6 fr))
noncomputable def w396 : Fr → Value → Fr := @N8.rec R2 (fun _ => Value → Fr) (pc6 R2 q2_12)
noncomputable def r397 (fr : Fr) : Value := N8.a5 (N8.a1 (N8.a6 fr))
noncomputable def w397 : Fr → Value → Fr := @N8.rec R2 (fun _ => Value → Fr) (pc6 R2 q2_13)
noncomputable def r398 (fr : Fr) : Value := N8.a6 (N8.a1 (N8.a6 fr))
noncomputable def w398 : Fr → Value → Fr := @N8.rec R2 (fun _ => Value → Fr) (pc6 R2 q2_14)
noncomputable def r399 (fr : Fr) : Value := N8.a7 (N8.a1 (N8.a6 fr))
noncomputable def w399 : Fr → Value → Fr := @N8.rec R2 (fun _ => Value → Fr) (pc6 R2 q2_15)
noncomputable def r400 (fr : Fr) : Value := N8.a0 (N8.a2 (N8.a6 fr))
noncomputable def w400 : Fr → Value → Fr := @N8.rec R2 (fun _ => Value → Fr) (pc6 R2 q2_16)
noncomputable def r401 (fr : Fr) : Value := N8.a1 (N8.a2 (N8.a6 fr))
noncomputable def w401 : Fr → Value → Fr := @N8.rec R2 (fun _ => Value → Fr) (pc6 R2 q2_17)
noncomputable def r402 (fr : Fr) : Value := N8.a2 (N8.a2 (N8.a6 fr))
noncomputable def w402 : Fr → Value → Fr := @N8.rec R2 (fun _ => Value → Fr) (pc6 R2 q2_18)
noncomputable def r403 (fr : Fr) : Value := N8.a3 (N8.a2 (N8.a6 fr))
noncomputable def w403 : Fr → Value → Fr := @N8.rec R2 (fun _ => Value → Fr) (pc6 R2 q2_19)
noncomputable def r404 (fr : Fr) : Value := N8.a4 (N8.a2 (N8.a6 fr))
noncomputable def w404 : Fr → Value → Fr := @N8.rec R2 (fun _ => Value → Fr) (pc6 R2 q2_20)
noncomputable def r405 (fr : Fr) : Value := N8.a5 (N8.a2 (N8.a6 fr))
noncomputable def w405 : Fr → Value → Fr := @N8.rec R2 (fun _ => Value → Fr) (pc6 R2 q2_21)
noncomputable def r406 (fr : Fr) : Value := N8.a6 (N8.a2 (N8.a6 fr))
noncomputable def w406 : Fr → Value → Fr := @N8.rec R2 (fun _ => Value → Fr) (pc6 R2 q2_22)
noncomputable def r407 (fr : Fr) : Value := N8.a7 (N8.a2 (N8.a6 fr))
noncomputable def w407 : Fr → Value → Fr := @N8.rec R2 (fun _ => Value → Fr) (pc6 R2 q2_23)
noncomputable def r408 (fr : Fr) : Value := N8.a0 (N8.a3 (N8.a6 fr))
noncomputable def w408 : Fr → Value → Fr := @N8.rec R2 (fun _ => Value → Fr) (pc6 R2 q2_24)
noncomputable def r409 (fr : Fr) : Value := N8.a1 (N8.a3 (N8.a6 fr))
noncomputable def w409 : Fr → Value → Fr := @N8.rec R2 (fun _ => Value → Fr) (pc6 R2 q2_25)
noncomputable def r410 (fr : Fr) : Value := N8.a2 (N8.a3 (N8.a6 fr))
noncomputable def w410 : Fr → Value → Fr := @N8.rec R2 (fun _ => Value → Fr) (pc6 R2 q2_26)
noncomputable def r411 (fr : Fr) : Value := N8.a3 (N8.a3 (N8.a6 fr))
noncomputable def w411 : Fr → Value → Fr := @N8.rec R2 (fun _ => Value → Fr) (pc6 R2 q2_27)
noncomputable def r412 (fr : Fr) : Value := N8.a4 (N8.a3 (N8.a6 fr))
noncomputable def w412 : Fr → Value → Fr := @N8.rec R2 (fun _ => Value → Fr) (pc6 R2 q2_28)
noncomputable def r413 (fr : Fr) : Value := N8.a5 (N8.a3 (N8.a6 fr))
noncomputable def w413 : Fr → Value → Fr := @N8.rec R2 (fun _ => Value → Fr) (pc6 R2 q2_29)
noncomputable def r414 (fr : Fr) : Value := N8.a6 (N8.a3 (N8.a6 fr))
noncomputable def w414 : Fr → Value → Fr := @N8.rec R2 (fun _ => Value → Fr) (pc6 R2 q2_30)
noncomputable def r415 (fr : Fr) : Value := N8.a7 (N8.a3 (N8.a6 fr))
noncomputable def w415 : Fr → Value → Fr := @N8.rec R2 (fun _ => Value → Fr) (pc6 R2 q2_31)
noncomputable def r416 (fr : Fr) : Value := N8.a0 (N8.a4 (N8.a6 fr))
noncomputable def w416 : Fr → Value → Fr := @N8.rec R2 (fun _ => Value → Fr) (pc6 R2 q2_32)
noncomputable def r417 (fr : Fr) : Value := N8.a1 (N8.a4 (N8.a6 fr))
noncomputable def w417 : Fr → Value → Fr := @N8.rec R2 (fun _ => Value → Fr) (pc6 R2 q2_33)
noncomputable def r418 (fr : Fr) : Value := N8.a2 (N8.a4 (N8.a6 fr))
noncomputable def w418 : Fr → Value → Fr := @N8.rec R2 (fun _ => Value → Fr) (pc6 R2 q2_34)
noncomputable def r419 (fr : Fr) : Value := N8.a3 (N8.a4 (N8.a6 fr))
noncomputable def w419 : Fr → Value → Fr := @N8.rec R2 (fun _ => Value → Fr) (pc6 R2 q2_35)
noncomputable def r420 (fr : Fr) : Value := N8.a4 (N8.a4 (N8.a6 fr))
noncomputable def w420 : Fr → Value → Fr := @N8.rec R2 (fun _ => Value → Fr) (pc6 R2 q2_36)
noncomputable def r421 (fr : Fr) : Value := N8.a5 (N8.a4 (N8.a6 fr))
noncomputable def w421 : Fr → Value → Fr := @N8.rec R2 (fun _ => Value → Fr) (pc6 R2 q2_37)
noncomputable def r422 (fr : Fr) : Value := N8.a6 (N8.a4 (N8.a6 fr))
noncomputable def w422 : Fr → Value → Fr := @N8.rec R2 (fun _ => Value → Fr) (pc6 R2 q2_38)
noncomputable def r423 (fr : Fr) : Value := N8.a7 (N8.a4 (N8.a6 fr))
noncomputable def w423 : Fr → Value → Fr := @N8.rec R2 (fun _ => Value → Fr) (pc6 R2 q2_39)
noncomputable def r424 (fr : Fr) : Value := N8.a0 (N8.a5 (N8.a6 fr))
noncomputable def w424 : Fr → Value → Fr := @N8.rec R2 (fun _ => Value → Fr) (pc6 R2 q2_40)
noncomputable def r425 (fr : Fr) : Value := N8.a1 (N8.a5 (N8.a6 fr))
noncomputable def w425 : Fr → Value → Fr := @N8.rec R2 (fun _ => Value → Fr) (pc6 R2 q2_41)
noncomputable def r426 (fr : Fr) : Value := N8.a2 (N8.a5 (N8.a6 fr))
noncomputable def w426 : Fr → Value → Fr := @N8.rec R2 (fun _ => Value → Fr) (pc6 R2 q2_42)
noncomputable def r427 (fr : Fr) : Value := N8.a3 (N8.a5 (N8.a6 fr))
noncomputable def w427 : Fr → Value → Fr := @N8.rec R2 (fun _ => Value → Fr) (pc6 R2 q2_43)
noncomputable def r428 (fr : Fr) : Value := N8.a4 (N8.a5 (N8.a6 fr))
noncomputable def w428 : Fr → Value → Fr := @N8.rec R2 (fun _ => Value → Fr) (pc6 R2 q2_44)
noncomputable def r429 (fr : Fr) : Value := N8.a5 (N8.a5 (N8.a6 fr))
noncomputable def w429 : Fr → Value → Fr := @N8.rec R2 (fun _ => Value → Fr) (pc6 R2 q2_45)
noncomputable def r430 (fr : Fr) : Value := N8.a6 (N8.a5 (N8.a6 fr))
noncomputable def w430 : Fr → Value → Fr := @N8.rec R2 (fun _ => Value → Fr) (pc6 R2 q2_46)
noncomputable def r431 (fr : Fr) : Value := N8.a7 (N8.a5 (N8.a6 fr))
noncomputable def w431 : Fr → Value → Fr := @N8.rec R2 (fun _ => Value → Fr) (pc6 R2 q2_47)
noncomputable def r432 (fr : Fr) : Value := N8.a0 (N8.a6 (N8.a6 fr))
noncomputable def w432 : Fr → Value → Fr := @N8.rec R2 (fun _ => Value → Fr) (pc6 R2 q2_48)
noncomputable def r433 (fr : Fr) : Value := N8.a1 (N8.a6 (N8.a6 fr))
noncomputable def w433 : Fr → Value → Fr := @N8.rec R2 (fun _ => Value → Fr) (pc6 R2 q2_49)
noncomputable def r434 (fr : Fr) : Value := N8.a2 (N8.a6 (N8.a6 fr))
noncomputable def w434 : Fr → Value → Fr := @N8.rec R2 (fun _ => Value → Fr) (pc6 R2 q2_50)
noncomputable def r435 (fr : Fr) : Value := N8.a3 (N8.a6 (N8.a6 fr))
noncomputable def w435 : Fr → Value → Fr := @N8.rec R2 (fun _ => Value → Fr) (pc6 R2 q2_51)
noncomputable def r436 (fr : Fr) : Value := N8.a4 (N8.a6 (N8.a6 fr))
noncomputable def w436 : Fr → Value → Fr := @N8.rec R2 (fun _ => Value → Fr) (pc6 R2 q2_52)
noncomputable def r437 (fr : Fr) : Value := N8.a5 (N8.a6 (N8.a6 fr))
noncomputable def w437 : Fr → Value → Fr := @N8.rec R2 (fun _ => Value → Fr) (pc6 R2 q2_53)
noncomputable def r438 (fr : Fr) : Value := N8.a6 (N8.a6 (N8.a6 fr))
noncomputable def w438 : Fr → Value → Fr := @N8.rec R2 (fun _ => Value → Fr) (pc6 R2 q2_54)
noncomputable def r439 (fr : Fr) : Value := N8.a7 (N8.a6 (N8.a6 fr))
noncomputable def w439 : Fr → Value → Fr := @N8.rec R2 (fun _ => Value → Fr) (pc6 R2 q2_55)
noncomputable def r440 (fr : Fr) : Value := N8.a0 (N8.a7 (N8.a6 fr))
noncomputable def w440 : Fr → Value → Fr := @N8.rec R2 (fun _ => Value → Fr) (pc6 R2 q2_56)
noncomputable def r441 (fr : Fr) : Value := N8.a1 (N8.a7 (N8.a6 fr))
noncomputable def w441 : Fr → Value → Fr := @N8.rec R2 (fun _ => Value → Fr) (pc6 R2 q2_57)
noncomputable def r442 (fr : Fr) : Value := N8.a2 (N8.a7 (N8.a6 fr))
noncomputable def w442 : Fr → Value → Fr := @N8.rec R2 (fun _ => Value → Fr) (pc6 R2 q2_58)
noncomputable def r443 (fr : Fr) : Value := N8.a3 (N8.a7 (N8.a6 fr))
noncomputable def w443 : Fr → Value → Fr := @N8.rec R2 (fun _ => Value → Fr) (pc6 R2 q2_59)
noncomputable def r444 (fr : Fr) : Value := N8.a4 (N8.a7 (N8.a6 fr))
noncomputable def w444 : Fr → Value → Fr := @N8.rec R2 (fun _ => Value → Fr) (pc6 R2 q2_60)
noncomputable def r445 (fr : Fr) : Value := N8.a5 (N8.a7 (N8.a6 fr))
noncomputable def w445 : Fr → Value → Fr := @N8.rec R2 (fun _ => Value → Fr) (pc6 R2 q2_61)
noncomputable def r446 (fr : Fr) : Value := N8.a6 (N8.a7 (N8.a6 fr))
noncomputable def w446 : Fr → Value → Fr := @N8.rec R2 (fun _ => Value → Fr) (pc6 R2 q2_62)
noncomputable def r447 (fr : Fr) : Value := N8.a7 (N8.a7 (N8.a6 fr))
noncomputable def w447 : Fr → Value → Fr := @N8.rec R2 (fun _ => Value → Fr) (pc6 R2 q2_63)
noncomputable def r448 (fr : Fr) : Value := N8.a0 (N8.a0 (N8.a7 fr))
noncomputable def w448 : Fr → Value → Fr := @N8.rec R2 (fun _ => Value → Fr) (pc7 R2 q2_0)
noncomputable def r449 (fr : Fr) : Value := N8.a1 (N8.a0 (N8.a7 fr))
noncomputable def w449 : Fr → Value → Fr := @N8.rec R2 (fun _ => Value → Fr) (pc7 R2 q2_1)
noncomputable def r450 (fr : Fr) : Value := N8.a2 (N8.a0 (N8.a7 fr))
noncomputable def w450 : Fr → Value → Fr := @N8.rec R2 (fun _ => Value → Fr) (pc7 R2 q2_2)
noncomputable def r451 (fr : Fr) : Value := N8.a3 (N8.a0 (N8.a7 fr))
noncomputable def w451 : Fr → Value → Fr := @N8.rec R2 (fun _ => Value → Fr) (pc7 R2 q2_3)
noncomputable def r452 (fr : Fr) : Value := N8.a4 (N8.a0 (N8.a7 fr))
noncomputable def w452 : Fr → Value → Fr := @N8.rec R2 (fun _ => Value → Fr) (pc7 R2 q2_4)
noncomputable def r453 (fr : Fr) : Value := N8.a5 (N8.a0 (N8.a7 fr))
noncomputable def w453 : Fr → Value → Fr := @N8.rec R2 (fun _ => Value → Fr) (pc7 R2 q2_5)
noncomputable def r454 (fr : Fr) : Value := N8.a6 (N8.a0 (N8.a7 fr))
noncomputable def w454 : Fr → Value → Fr := @N8.rec R2 (fun _ => Value → Fr) (pc7 R2 q2_6)
noncomputable def r455 (fr : Fr) : Value := N8.a7 (N8.a0 (N8.a7 fr))
noncomputable def w455 : Fr → Value → Fr := @N8.rec R2 (fun _ => Value → Fr) (pc7 R2 q2_7)
noncomputable def r456 (fr : Fr) : Value := N8.a0 (N8.a1 (N8.a7 fr))
noncomputable def w456 : Fr → Value → Fr := @N8.rec R2 (fun _ => Value → Fr) (pc7 R2 q2_8)
noncomputable def r457 (fr : Fr) : Value := N8.a1 (N8.a1 (N8.a7 fr))
noncomputable def w457 : Fr → Value → Fr := @N8.rec R2 (fun _ => Value → Fr) (pc7 R2 q2_9)
noncomputable def r458 (fr : Fr) : Value := N8.a2 (N8.a1 (N8.a7 fr))
noncomputable def w458 : Fr → Value → Fr := @N8.rec R2 (fun _ => Value → Fr) (pc7 R2 q2_10)
noncomputable def r459 (fr : Fr) : Value := N8.a3 (N8.a1 (N8.a7 fr))
noncomputable def w459 : Fr → Value → Fr := @N8.rec R2 (fun _ => Value → Fr) (pc7 R2 q2_11)
noncomputable def r460 (fr : Fr) : Value := N8.a4 (N8.a1 (N8.a7 fr))
noncomputable def w460 : Fr → Value → Fr := @N8.rec R2 (fun _ => Value → Fr) (pc7 R2 q2_12)
noncomputable def r461 (fr : Fr) : Value := N8.a5 (N8.a1 (N8.a7 fr))
noncomputable def w461 : Fr → Value → Fr := @N8.rec R2 (fun _ => Value → Fr) (pc7 R2 q2_13)
noncomputable def r462 (fr : Fr) : Value := N8.a6 (N8.a1 (N8.a7 fr))
noncomputable def w462 : Fr → Value → Fr := @N8.rec R2 (fun _ => Value → Fr) (pc7 R2 q2_14)
noncomputable def r463 (fr : Fr) : Value := N8.a7 (N8.a1 (N8.a7 fr))
noncomputable def w463 : Fr → Value → Fr := @N8.rec R2 (fun _ => Value → Fr) (pc7 R2 q2_15)
noncomputable def r464 (fr : Fr) : Value := N8.a0 (N8.a2 (N8.a7 fr))
noncomputable def w464 : Fr → Value → Fr := @N8.rec R2 (fun _ => Value → Fr) (pc7 R2 q2_16)
noncomputable def r465 (fr : Fr) : Value := N8.a1 (N8.a2 (N8.a7 fr))
noncomputable def w465 : Fr → Value → Fr := @N8.rec R2 (fun _ => Value → Fr) (pc7 R2 q2_17)
noncomputable def r466 (fr : Fr) : Value := N8.a2 (N8.a2 (N8.a7 fr))
noncomputable def w466 : Fr → Value → Fr := @N8.rec R2 (fun _ => Value → Fr) (pc7 R2 q2_18)
noncomputable def r467 (fr : Fr) : Value := N8.a3 (N8.a2 (N8.a7 fr))
noncomputable def w467 : Fr → Value → Fr := @N8.rec R2 (fun _ => Value → Fr) (pc7 R2 q2_19)
noncomputable def r468 (fr : Fr) : Value := N8.a4 (N8.a2 (N8.a7 fr))
noncomputable def w468 : Fr → Value → Fr := @N8.rec R2 (fun _ => Value → Fr) (pc7 R2 q2_20)
noncomputable def r469 (fr : Fr) : Value := N8.a5 (N8.a2 (N8.a7 fr))
noncomputable def w469 : Fr → Value → Fr := @N8.rec R2 (fun _ => Value → Fr) (pc7 R2 q2_21)
noncomputable def r470 (fr : Fr) : Value := N8.a6 (N8.a2 (N8.a7 fr))
noncomputable def w470 : Fr → Value → Fr := @N8.rec R2 (fun _ => Value → Fr) (pc7 R2 q2_22)
noncomputable def r471 (fr : Fr) : Value := N8.a7 (N8.a2 (N8.a7 fr))
noncomputable def w471 : Fr → Value → Fr := @N8.rec R2 (fun _ => Value → Fr) (pc7 R2 q2_23)
noncomputable def r472 (fr : Fr) : Value := N8.a0 (N8.a3 (N8.a7 fr))
noncomputable def w472 : Fr → Value → Fr := @N8.rec R2 (fun _ => Value → Fr) (pc7 R2 q2_24)
noncomputable def r473 (fr : Fr) : Value := N8.a1 (N8.a3 (N8.a7 fr))
noncomputable def w473 : Fr → Value → Fr := @N8.rec R2 (fun _ => Value → Fr) (pc7 R2 q2_25)
noncomputable def r474 (fr : Fr) : Value := N8.a2 (N8.a3 (N8.a7 fr))
noncomputable def w474 : Fr → Value → Fr := @N8.rec R2 (fun _ => Value → Fr) (pc7 R2 q2_26)
noncomputable def r475 (fr : Fr) : Value := N8.a3 (N8.a3 (N8.a7 fr))
noncomputable def w475 : Fr → Value → Fr := @N8.rec R2 (fun _ => Value → Fr) (pc7 R2 q2_27)
noncomputable def r476 (fr : Fr) : Value := N8.a4 (N8.a3 (N8.a7 fr))
noncomputable def w476 : Fr → Value → Fr := @N8.rec R2 (fun _ => Value → Fr) (pc7 R2 q2_28)
noncomputable def r477 (fr : Fr) : Value := N8.a5 (N8.a3 (N8.a7 fr))
noncomputable def w477 : Fr → Value → Fr := @N8.rec R2 (fun _ => Value → Fr) (pc7 R2 q2_29)
noncomputable def r478 (fr : Fr) : Value := N8.a6 (N8.a3 (N8.a7 fr))
noncomputable def w478 : Fr → Value → Fr := @N8.rec R2 (fun _ => Value → Fr) (pc7 R2 q2_30)
noncomputable def r479 (fr : Fr) : Value := N8.a7 (N8.a3 (N8.a7 fr))
noncomputable def w479 : Fr → Value → Fr := @N8.rec R2 (fun _ => Value → Fr) (pc7 R2 q2_31)
noncomputable def r480 (fr : Fr) : Value := N8.a0 (N8.a4 (N8.a7 fr))
noncomputable def w480 : Fr → Value → Fr := @N8.rec R2 (fun _ => Value → Fr) (pc7 R2 q2_32)
noncomputable def r481 (fr : Fr) : Value := N8.a1 (N8.a4 (N8.a7 fr))
noncomputable def w481 : Fr → Value → Fr := @N8.rec R2 (fun _ => Value → Fr) (pc7 R2 q2_33)
noncomputable def r482 (fr : Fr) : Value := N8.a2 (N8.a4 (N8.a7 fr))
noncomputable def w482 : Fr → Value → Fr := @N8.rec R2 (fun _ => Value → Fr) (pc7 R2 q2_34)
noncomputable def r483 (fr : Fr) : Value := N8.a3 (N8.a4 (N8.a7 fr))
noncomputable def w483 : Fr → Value → Fr := @N8.rec R2 (fun _ => Value → Fr) (pc7 R2 q2_35)
noncomputable def r484 (fr : Fr) : Value := N8.a4 (N8.a4 (N8.a7 fr))
noncomputable def w484 : Fr → Value → Fr := @N8.rec R2 (fun _ => Value → Fr) (pc7 R2 q2_36)
noncomputable def r485 (fr : Fr) : Value := N8.a5 (N8.a4 (N8.a7 fr))
noncomputable def w485 : Fr → Value → Fr := @N8.rec R2 (fun _ => Value → Fr) (pc7 R2 q2_37)
noncomputable def r486 (fr : Fr) : Value := N8.a6 (N8.a4 (N8.a7 fr))
noncomputable def w486 : Fr → Value → Fr := @N8.rec R2 (fun _ => Value → Fr) (pc7 R2 q2_38)
noncomputable def r487 (fr : Fr) : Value := N8.a7 (N8.a4 (N8.a7 fr))
noncomputable def w487 : Fr → Value → Fr := @N8.rec R2 (fun _ => Value → Fr) (pc7 R2 q2_39)
noncomputable def r488 (fr : Fr) : Value := N8.a0 (N8.a5 (N8.a7 fr))
noncomputable def w488 : Fr → Value → Fr := @N8.rec R2 (fun _ => Value → Fr) (pc7 R2 q2_40)
noncomputable def r489 (fr : Fr) : Value := N8.a1 (N8.a5 (N8.a7 fr))
noncomputable def w489 : Fr → Value → Fr := @N8.rec R2 (fun _ => Value → Fr) (pc7 R2 q2_41)
noncomputable def r490 (fr : Fr) : Value := N8.a2 (N8.a5 (N8.a7 fr))
noncomputable def w490 : Fr → Value → Fr := @N8.rec R2 (fun _ => Value → Fr) (pc7 R2 q2_42)
noncomputable def r491 (fr : Fr) : Value := N8.a3 (N8.a5 (N8.a7 fr))
noncomputable def w491 : Fr → Value → Fr := @N8.rec R2 (fun _ => Value → Fr) (pc7 R2 q2_43)
noncomputable def r492 (fr : Fr) : Value := N8.a4 (N8.a5 (N8.a7 fr))
noncomputable def w492 : Fr → Value → Fr := @N8.rec R2 (fun _ => Value → Fr) (pc7 R2 q2_44)
noncomputable def r493 (fr : Fr) : Value := N8.a5 (N8.a5 (N8.a7 fr))
noncomputable def w493 : Fr → Value → Fr := @N8.rec R2 (fun _ => Value → Fr) (pc7 R2 q2_45)
noncomputable def r494 (fr : Fr) : Value := N8.a6 (N8.a5 (N8.a7 fr))
noncomputable def w494 : Fr → Value → Fr := @N8.rec R2 (fun _ => Value → Fr) (pc7 R2 q2_46)
noncomputable def r495 (fr : Fr) : Value := N8.a7 (N8.a5 (N8.a7 fr))
noncomputable def w495 : Fr → Value → Fr := @N8.rec R2 (fun _ => Value → Fr) (pc7 R2 q2_47)
noncomputable def r496 (fr : Fr) : Value := N8.a0 (N8.a6 (N8.a7 fr))
noncomputable def w496 : Fr → Value → Fr := @N8.rec R2 (fun _ => Value → Fr) (pc7 R2 q2_48)
noncomputable def r497 (fr : Fr) : Value := N8.a1 (N8.a6 (N8.a7 fr))
noncomputable def w497 : Fr → Value → Fr := @N8.rec R2 (fun _ => Value → Fr) (pc7 R2 q2_49)
noncomputable def r498 (fr : Fr) : Value := N8.a2 (N8.a6 (N8.a7 fr))
noncomputable def w498 : Fr → Value → Fr := @N8.rec R2 (fun _ => Value → Fr) (pc7 R2 q2_50)
noncomputable def r499 (fr : Fr) : Value := N8.a3 (N8.a6 (N8.a7 fr))
noncomputable def w499 : Fr → Value → Fr := @N8.rec R2 (fun _ => Value → Fr) (pc7 R2 q2_51)
noncomputable def r500 (fr : Fr) : Value := N8.a4 (N8.a6 (N8.a7 fr))
noncomputable def w500 : Fr → Value → Fr := @N8.rec R2 (fun _ => Value → Fr) (pc7 R2 q2_52)
noncomputable def r501 (fr : Fr) : Value := N8.a5 (N8.a6 (N8.a7 fr))
noncomputable def w501 : Fr → Value → Fr := @N8.rec R2 (fun _ => Value → Fr) (pc7 R2 q2_53)
noncomputable def r502 (fr : Fr) : Value := N8.a6 (N8.a6 (N8.a7 fr))
noncomputable def w502 : Fr → Value → Fr := @N8.rec R2 (fun _ => Value → Fr) (pc7 R2 q2_54)
noncomputable def r503 (fr : Fr) : Value := N8.a7 (N8.a6 (N8.a7 fr))
noncomputable def w503 : Fr → Value → Fr := @N8.rec R2 (fun _ => Value → Fr) (pc7 R2 q2_55)
noncomputable def r504 (fr : Fr) : Value := N8.a0 (N8.a7 (N8.a7 fr))
noncomputable def w504 : Fr → Value → Fr := @N8.rec R2 (fun _ => Value → Fr) (pc7 R2 q2_56)
noncomputable def r505 (fr : Fr) : Value := N8.a1 (N8.a7 (N8.a7 fr))
noncomputable def w505 : Fr → Value → Fr := @N8.rec R2 (fun _ => Value → Fr) (pc7 R2 q2_57)
noncomputable def r506 (fr : Fr) : Value := N8.a2 (N8.a7 (N8.a7 fr))
noncomputable def w506 : Fr → Value → Fr := @N8.rec R2 (fun _ => Value → Fr) (pc7 R2 q2_58)
noncomputable def r507 (fr : Fr) : Value := N8.a3 (N8.a7 (N8.a7 fr))
noncomputable def w507 : Fr → Value → Fr := @N8.rec R2 (fun _ => Value → Fr) (pc7 R2 q2_59)
noncomputable def r508 (fr : Fr) : Value := N8.a4 (N8.a7 (N8.a7 fr))
noncomputable def w508 : Fr → Value → Fr := @N8.rec R2 (fun _ => Value → Fr) (pc7 R2 q2_60)
noncomputable def r509 (fr : Fr) : Value := N8.a5 (N8.a7 (N8.a7 fr))
noncomputable def w509 : Fr → Value → Fr := @N8.rec R2 (fun _ => Value → Fr) (pc7 R2 q2_61)
noncomputable def r510 (fr : Fr) : Value := N8.a6 (N8.a7 (N8.a7 fr))
noncomputable def w510 : Fr → Value → Fr := @N8.rec R2 (fun _ => Value → Fr) (pc7 R2 q2_62)
noncomputable def r511 (fr : Fr) : Value := N8.a7 (N8.a7 (N8.a7 fr))
noncomputable def w511 : Fr → Value → Fr := @N8.rec R2 (fun _ => Value → Fr) (pc7 R2 q2_63)
noncomputable def rL0 : List RdW := [⟨r0⟩, ⟨r1⟩, ⟨r2⟩, ⟨r3⟩, ⟨r4⟩, ⟨r5⟩, ⟨r6⟩, ⟨r7⟩, ⟨r8⟩, ⟨r9⟩, ⟨r10⟩, ⟨r11⟩, ⟨r12⟩, ⟨r13⟩, ⟨r14⟩, ⟨r15⟩, ⟨r16⟩, ⟨r17⟩, ⟨r18⟩, ⟨r19⟩, ⟨r20⟩, ⟨r21⟩, ⟨r22⟩, ⟨r23⟩, ⟨r24⟩, ⟨r25⟩, ⟨r26⟩, ⟨r27⟩, ⟨r28⟩, ⟨r29⟩, ⟨r30⟩, ⟨r31⟩, ⟨r32⟩, ⟨r33⟩, ⟨r34⟩, ⟨r35⟩, ⟨r36⟩, ⟨r37⟩, ⟨r38⟩, ⟨r39⟩, ⟨r40⟩, ⟨r41⟩, ⟨r42⟩, ⟨r43⟩, ⟨r44⟩, ⟨r45⟩, ⟨r46⟩, ⟨r47⟩, ⟨r48⟩, ⟨r49⟩, ⟨r50⟩, ⟨r51⟩, ⟨r52⟩, ⟨r53⟩, ⟨r54⟩, ⟨r55⟩, ⟨r56⟩, ⟨r57⟩, ⟨r58⟩, ⟨r59⟩, ⟨r60⟩, ⟨r61⟩, ⟨r62⟩, ⟨r63⟩]
noncomputable def rL1 : List RdW := [⟨r64⟩, ⟨r65⟩, ⟨r66⟩, ⟨r67⟩, ⟨r68⟩, ⟨r69⟩, ⟨r70⟩, ⟨r71⟩, ⟨r72⟩, ⟨r73⟩, ⟨r74⟩, ⟨r75⟩, ⟨r76⟩, ⟨r77⟩, ⟨r78⟩, ⟨r79⟩, ⟨r80⟩, ⟨r81⟩, ⟨r82⟩, ⟨r83⟩, ⟨r84⟩, ⟨r85⟩, ⟨r86⟩, ⟨r87⟩, ⟨r88⟩, ⟨r89⟩, ⟨r90⟩, ⟨r91⟩, ⟨r92⟩, ⟨r93⟩, ⟨r94⟩, ⟨r95⟩, ⟨r96⟩, ⟨r97⟩, ⟨r98⟩, ⟨r99⟩, ⟨r100⟩, ⟨r101⟩, ⟨r102⟩, ⟨r103⟩, ⟨r104⟩, ⟨r105⟩, ⟨r106⟩, ⟨r107⟩, ⟨r108⟩, ⟨r109⟩, ⟨r110⟩, ⟨r111⟩, ⟨r112⟩, ⟨r113⟩, ⟨r114⟩, ⟨r115⟩, ⟨r116⟩, ⟨r117⟩, ⟨r118⟩, ⟨r119⟩, ⟨r120⟩, ⟨r121⟩, ⟨r122⟩, ⟨r123⟩, ⟨r124⟩, ⟨r125⟩, ⟨r126⟩, ⟨r127⟩]
noncomputable def rL2 : List RdW := [⟨r128⟩, ⟨r129⟩, ⟨r130⟩, ⟨r131⟩, ⟨r132⟩, ⟨r133⟩, ⟨r134⟩, ⟨r135⟩, ⟨r136⟩, ⟨r137⟩, ⟨r138⟩, ⟨r139⟩, ⟨r140⟩, ⟨r141⟩, ⟨r142⟩, ⟨r143⟩, ⟨r144⟩, ⟨r145⟩, ⟨r146⟩, ⟨r147⟩, ⟨r148⟩, ⟨r149⟩, ⟨r150⟩, ⟨r151⟩, ⟨r152⟩, ⟨r153⟩, ⟨r154⟩, ⟨r155⟩, ⟨r156⟩, ⟨r157⟩, ⟨r158⟩, ⟨r159⟩, ⟨r160⟩, ⟨r161⟩, ⟨r162⟩, ⟨r163⟩, ⟨r164⟩, ⟨r165⟩, ⟨r166⟩, ⟨r167⟩, ⟨r168⟩, ⟨r169⟩, ⟨r170⟩, ⟨r171⟩, ⟨r172⟩, ⟨r173⟩, ⟨r174⟩, ⟨r175⟩, ⟨r176⟩, ⟨r177⟩, ⟨r178⟩, ⟨r179⟩, ⟨r180⟩, ⟨r181⟩, ⟨r182⟩, ⟨r183⟩, ⟨r184⟩, ⟨r185⟩, ⟨r186⟩, ⟨r187⟩, ⟨r188⟩, ⟨r189⟩, ⟨r190⟩, ⟨r191⟩]
noncomputable def rL3 : List RdW := [⟨r192⟩, ⟨r193⟩, ⟨r194⟩, ⟨r195⟩, ⟨r196⟩, ⟨r197⟩, ⟨r198⟩, ⟨r199⟩, ⟨r200⟩, ⟨r201⟩, ⟨r202⟩, ⟨r203⟩, ⟨r204⟩, ⟨r205⟩, ⟨r206⟩, ⟨r207⟩, ⟨r208⟩, ⟨r209⟩, ⟨r210⟩, ⟨r211⟩, ⟨r212⟩, ⟨r213⟩, ⟨r214⟩, ⟨r215⟩, ⟨r216⟩, ⟨r217⟩, ⟨r218⟩, ⟨r219⟩, ⟨r220⟩, ⟨r221⟩, ⟨r222⟩, ⟨r223⟩, ⟨r224⟩, ⟨r225⟩, ⟨r226⟩, ⟨r227⟩, ⟨r228⟩, ⟨r229⟩, ⟨r230⟩, ⟨r231⟩, ⟨r232⟩, ⟨r233⟩, ⟨r234⟩, ⟨r235⟩, ⟨r236⟩, ⟨r237⟩, ⟨r238⟩, ⟨r239⟩, ⟨r240⟩, ⟨r241⟩, ⟨r242⟩, ⟨r243⟩, ⟨r244⟩, ⟨r245⟩, ⟨r246⟩, ⟨r247⟩, ⟨r248⟩, ⟨r249⟩, ⟨r250⟩, ⟨r251⟩, ⟨r252⟩, ⟨r253⟩, ⟨r254⟩, ⟨r255⟩]
noncomputable def rL4 : List RdW := [⟨r256⟩, ⟨r257⟩, ⟨r258⟩, ⟨r259⟩, ⟨r260⟩, ⟨r261⟩, ⟨r262⟩, ⟨r263⟩, ⟨r264⟩, ⟨r265⟩, ⟨r266⟩, ⟨r267⟩, ⟨r268⟩, ⟨r269⟩, ⟨r270⟩, ⟨r271⟩, ⟨r272⟩, ⟨r273⟩, ⟨r274⟩, ⟨r275⟩, ⟨r276⟩, ⟨r277⟩, ⟨r278⟩, ⟨r279⟩, ⟨r280⟩, ⟨r281⟩, ⟨r282⟩, ⟨r283⟩, ⟨r284⟩, ⟨r285⟩, ⟨r286⟩, ⟨r287⟩, ⟨r288⟩, ⟨r289⟩, ⟨r290⟩, ⟨r291⟩, ⟨r292⟩, ⟨r293⟩, ⟨r294⟩, ⟨r295⟩, ⟨r296⟩, ⟨r297⟩, ⟨r298⟩, ⟨r299⟩, ⟨r300⟩, ⟨r301⟩, ⟨r302⟩, ⟨r303⟩, ⟨r304⟩, ⟨r305⟩, ⟨r306⟩, ⟨r307⟩, ⟨r308⟩, ⟨r309⟩, ⟨r310⟩, ⟨r311⟩, ⟨r312⟩, ⟨r313⟩, ⟨r314⟩, ⟨r315⟩, ⟨r316⟩, ⟨r317⟩, ⟨r318⟩, ⟨r319⟩]
noncomputable def rL5 : List RdW := [⟨r320⟩, ⟨r321⟩, ⟨r322⟩, ⟨r323⟩, ⟨r324⟩, ⟨r325⟩, ⟨r326⟩, ⟨r327⟩, ⟨r328⟩, ⟨r329⟩, ⟨r330⟩, ⟨r331⟩, ⟨r332⟩, ⟨r333⟩, ⟨r334⟩, ⟨r335⟩, ⟨r336⟩, ⟨r337⟩, ⟨r338⟩, ⟨r339⟩, ⟨r340⟩, ⟨r341⟩, ⟨r342⟩, ⟨r343⟩, ⟨r344⟩, ⟨r345⟩, ⟨r346⟩, ⟨r347⟩, ⟨r348⟩, ⟨r349⟩, ⟨r350⟩, ⟨r351⟩, ⟨r352⟩, ⟨r353⟩, ⟨r354⟩, ⟨r355⟩, ⟨r356⟩, ⟨r357⟩, ⟨r358⟩, ⟨r359⟩, ⟨r360⟩, ⟨r361⟩, ⟨r362⟩, ⟨r363⟩, ⟨r364⟩, ⟨r365⟩, ⟨r366⟩, ⟨r367⟩, ⟨r368⟩, ⟨r369⟩, ⟨r370⟩, ⟨r371⟩, ⟨r372⟩, ⟨r373⟩, ⟨r374⟩, ⟨r375⟩, ⟨r376⟩, ⟨r377⟩, ⟨r378⟩, ⟨r379⟩, ⟨r380⟩, ⟨r381⟩, ⟨r382⟩, ⟨r383⟩]
noncomputable def rL6 : List RdW := [⟨r384⟩, ⟨r385⟩, ⟨r386⟩, ⟨r387⟩, ⟨r388⟩, ⟨r389⟩, ⟨r390⟩, ⟨r391⟩, ⟨r392⟩, ⟨r393⟩, ⟨r394⟩, ⟨r395⟩, ⟨r396⟩, ⟨r397⟩, ⟨r398⟩, ⟨r399⟩, ⟨r400⟩, ⟨r401⟩, ⟨r402⟩, ⟨r403⟩, ⟨r404⟩, ⟨r405⟩, ⟨r406⟩, ⟨r407⟩, ⟨r408⟩, ⟨r409⟩, ⟨r410⟩, ⟨r411⟩, ⟨r412⟩, ⟨r413⟩, ⟨r414⟩, ⟨r415⟩, ⟨r416⟩, ⟨r417⟩, ⟨r418⟩, ⟨r419⟩, ⟨r420⟩, ⟨r421⟩, ⟨r422⟩, ⟨r423⟩, ⟨r424⟩, ⟨r425⟩, ⟨r426⟩, ⟨r427⟩, ⟨r428⟩, ⟨r429⟩, ⟨r430⟩, ⟨r431⟩, ⟨r432⟩, ⟨r433⟩, ⟨r434⟩, ⟨r435⟩, ⟨r436⟩, ⟨r437⟩, ⟨r438⟩, ⟨r439⟩, ⟨r440⟩, ⟨r441⟩, ⟨r442⟩, ⟨r443⟩, ⟨r444⟩, ⟨r445⟩, ⟨r446⟩, ⟨r447⟩]
noncomputable def rL7 : List RdW := [⟨r448⟩, ⟨r449⟩, ⟨r450⟩, ⟨r451⟩, ⟨r452⟩, ⟨r453⟩, ⟨r454⟩, ⟨r455⟩, ⟨r456⟩, ⟨r457⟩, ⟨r458⟩, ⟨r459⟩, ⟨r460⟩, ⟨r461⟩, ⟨r462⟩, ⟨r463⟩, ⟨r464⟩, ⟨r465⟩, ⟨r466⟩, ⟨r467⟩, ⟨r468⟩, ⟨r469⟩, ⟨r470⟩, ⟨r471⟩, ⟨r472⟩, ⟨r473⟩, ⟨r474⟩, ⟨r475⟩, ⟨r476⟩, ⟨r477⟩, ⟨r478⟩, ⟨r479⟩, ⟨r480⟩, ⟨r481⟩, ⟨r482⟩, ⟨r483⟩, ⟨r484⟩, ⟨r485⟩, ⟨r486⟩, ⟨r487⟩, ⟨r488⟩, ⟨r489⟩, ⟨r490⟩, ⟨r491⟩, ⟨r492⟩, ⟨r493⟩, ⟨r494⟩, ⟨r495⟩, ⟨r496⟩, ⟨r497⟩, ⟨r498⟩, ⟨r499⟩, ⟨r500⟩, ⟨r501⟩, ⟨r502⟩, ⟨r503⟩, ⟨r504⟩, ⟨r505⟩, ⟨r506⟩, ⟨r507⟩, ⟨r508⟩, ⟨r509⟩, ⟨r510⟩, ⟨r511⟩]
noncomputable def wL0 : List WrW := [⟨w0⟩, ⟨w1⟩, ⟨w2⟩, ⟨w3⟩, ⟨w4⟩, ⟨w5⟩, ⟨w6⟩, ⟨w7⟩, ⟨w8⟩, ⟨w9⟩, ⟨w10⟩, ⟨w11⟩, ⟨w12⟩, ⟨w13⟩, ⟨w14⟩, ⟨w15⟩, ⟨w16⟩, ⟨w17⟩, ⟨w18⟩, ⟨w19⟩, ⟨w20⟩, ⟨w21⟩, ⟨w22⟩, ⟨w23⟩, ⟨w24⟩, ⟨w25⟩, ⟨w26⟩, ⟨w27⟩, ⟨w28⟩, ⟨w29⟩, ⟨w30⟩, ⟨w31⟩, ⟨w32⟩, ⟨w33⟩, ⟨w34⟩, ⟨w35⟩, ⟨w36⟩, ⟨w37⟩, ⟨w38⟩, ⟨w39⟩, ⟨w40⟩, ⟨w41⟩, ⟨w42⟩, ⟨w43⟩, ⟨w44⟩, ⟨w45⟩, ⟨w46⟩, ⟨w47⟩, ⟨w48⟩, ⟨w49⟩, ⟨w50⟩, ⟨w51⟩, ⟨w52⟩, ⟨w53⟩, ⟨w54⟩, ⟨w55⟩, ⟨w56⟩, ⟨w57⟩, ⟨w58⟩, ⟨w59⟩, ⟨w60⟩, ⟨w61⟩, ⟨w62⟩, ⟨w63⟩]
noncomputable def wL1 : List WrW := [⟨w64⟩, ⟨w65⟩, ⟨w66⟩, ⟨w67⟩, ⟨w68⟩, ⟨w69⟩, ⟨w70⟩, ⟨w71⟩, ⟨w72⟩, ⟨w73⟩, ⟨w74⟩, ⟨w75⟩, ⟨w76⟩, ⟨w77⟩, ⟨w78⟩, ⟨w79⟩, ⟨w80⟩, ⟨w81⟩, ⟨w82⟩, ⟨w83⟩, ⟨w84⟩, ⟨w85⟩, ⟨w86⟩, ⟨w87⟩, ⟨w88⟩, ⟨w89⟩, ⟨w90⟩, ⟨w91⟩, ⟨w92⟩, ⟨w93⟩, ⟨w94⟩, ⟨w95⟩, ⟨w96⟩, ⟨w97⟩, ⟨w98⟩, ⟨w99⟩, ⟨w100⟩, ⟨w101⟩, ⟨w102⟩, ⟨w103⟩, ⟨w104⟩, ⟨w105⟩, ⟨w106⟩, ⟨w107⟩, ⟨w108⟩, ⟨w109⟩, ⟨w110⟩, ⟨w111⟩, ⟨w112⟩, ⟨w113⟩, ⟨w114⟩, ⟨w115⟩, ⟨w116⟩, ⟨w117⟩, ⟨w118⟩, ⟨w119⟩, ⟨w120⟩, ⟨w121⟩, ⟨w122⟩, ⟨w123⟩, ⟨w124⟩, ⟨w125⟩, ⟨w126⟩, ⟨w127⟩]
noncomputable def wL2 : List WrW := [⟨w128⟩, ⟨w129⟩, ⟨w130⟩, ⟨w131⟩, ⟨w132⟩, ⟨w133⟩, ⟨w134⟩, ⟨w135⟩, ⟨w136⟩, ⟨w137⟩, ⟨w138⟩, ⟨w139⟩, ⟨w140⟩, ⟨w141⟩, ⟨w142⟩, ⟨w143⟩, ⟨w144⟩, ⟨w145⟩, ⟨w146⟩, ⟨w147⟩, ⟨w148⟩, ⟨w149⟩, ⟨w150⟩, ⟨w151⟩, ⟨w152⟩, ⟨w153⟩, ⟨w154⟩, ⟨w155⟩, ⟨w156⟩, ⟨w157⟩, ⟨w158⟩, ⟨w159⟩, ⟨w160⟩, ⟨w161⟩, ⟨w162⟩, ⟨w163⟩, ⟨w164⟩, ⟨w165⟩, ⟨w166⟩, ⟨w167⟩, ⟨w168⟩, ⟨w169⟩, ⟨w170⟩, ⟨w171⟩, ⟨w172⟩, ⟨w173⟩, ⟨w174⟩, ⟨w175⟩, ⟨w176⟩, ⟨w177⟩, ⟨w178⟩, ⟨w179⟩, ⟨w180⟩, ⟨w181⟩, ⟨w182⟩, ⟨w183⟩, ⟨w184⟩, ⟨w185⟩, ⟨w186⟩, ⟨w187⟩, ⟨w188⟩, ⟨w189⟩, ⟨w190⟩, ⟨w191⟩]
noncomputable def wL3 : List WrW := [⟨w192⟩, ⟨w193⟩, ⟨w194⟩, ⟨w195⟩, ⟨w196⟩, ⟨w197⟩, ⟨w198⟩, ⟨w199⟩, ⟨w200⟩, ⟨w201⟩, ⟨w202⟩, ⟨w203⟩, ⟨w204⟩, ⟨w205⟩, ⟨w206⟩, ⟨w207⟩, ⟨w208⟩, ⟨w209⟩, ⟨w210⟩, ⟨w211⟩, ⟨w212⟩, ⟨w213⟩, ⟨w214⟩, ⟨w215⟩, ⟨w216⟩, ⟨w217⟩, ⟨w218⟩, ⟨w219⟩, ⟨w220⟩, ⟨w221⟩, ⟨w222⟩, ⟨w223⟩, ⟨w224⟩, ⟨w225⟩, ⟨w226⟩, ⟨w227⟩, ⟨w228⟩, ⟨w229⟩, ⟨w230⟩, ⟨w231⟩, ⟨w232⟩, ⟨w233⟩, ⟨w234⟩, ⟨w235⟩, ⟨w236⟩, ⟨w237⟩, ⟨w238⟩, ⟨w239⟩, ⟨w240⟩, ⟨w241⟩, ⟨w242⟩, ⟨w243⟩, ⟨w244⟩, ⟨w245⟩, ⟨w246⟩, ⟨w247⟩, ⟨w248⟩, ⟨w249⟩, ⟨w250⟩, ⟨w251⟩, ⟨w252⟩, ⟨w253⟩, ⟨w254⟩, ⟨w255⟩]
noncomputable def wL4 : List WrW := [⟨w256⟩, ⟨w257⟩, ⟨w258⟩, ⟨w259⟩, ⟨w260⟩, ⟨w261⟩, ⟨w262⟩, ⟨w263⟩, ⟨w264⟩, ⟨w265⟩, ⟨w266⟩, ⟨w267⟩, ⟨w268⟩, ⟨w269⟩, ⟨w270⟩, ⟨w271⟩, ⟨w272⟩, ⟨w273⟩, ⟨w274⟩, ⟨w275⟩, ⟨w276⟩, ⟨w277⟩, ⟨w278⟩, ⟨w279⟩, ⟨w280⟩, ⟨w281⟩, ⟨w282⟩, ⟨w283⟩, ⟨w284⟩, ⟨w285⟩, ⟨w286⟩, ⟨w287⟩, ⟨w288⟩, ⟨w289⟩, ⟨w290⟩, ⟨w291⟩, ⟨w292⟩, ⟨w293⟩, ⟨w294⟩, ⟨w295⟩, ⟨w296⟩, ⟨w297⟩, ⟨w298⟩, ⟨w299⟩, ⟨w300⟩, ⟨w301⟩, ⟨w302⟩, ⟨w303⟩, ⟨w304⟩, ⟨w305⟩, ⟨w306⟩, ⟨w307⟩, ⟨w308⟩, ⟨w309⟩, ⟨w310⟩, ⟨w311⟩, ⟨w312⟩, ⟨w313⟩, ⟨w314⟩, ⟨w315⟩, ⟨w316⟩, ⟨w317⟩, ⟨w318⟩, ⟨w319⟩]
noncomputable def wL5 : List WrW := [⟨w320⟩, ⟨w321⟩, ⟨w322⟩, ⟨w323⟩, ⟨w324⟩, ⟨w325⟩, ⟨w326⟩, ⟨w327⟩, ⟨w328⟩, ⟨w329⟩, ⟨w330⟩, ⟨w331⟩, ⟨w332⟩, ⟨w333⟩, ⟨w334⟩, ⟨w335⟩, ⟨w336⟩, ⟨w337⟩, ⟨w338⟩, ⟨w339⟩, ⟨w340⟩, ⟨w341⟩, ⟨w342⟩, ⟨w343⟩, ⟨w344⟩, ⟨w345⟩, ⟨w346⟩, ⟨w347⟩, ⟨w348⟩, ⟨w349⟩, ⟨w350⟩, ⟨w351⟩, ⟨w352⟩, ⟨w353⟩, ⟨w354⟩, ⟨w355⟩, ⟨w356⟩, ⟨w357⟩, ⟨w358⟩, ⟨w359⟩, ⟨w360⟩, ⟨w361⟩, ⟨w362⟩, ⟨w363⟩, ⟨w364⟩, ⟨w365⟩, ⟨w366⟩, ⟨w367⟩, ⟨w368⟩, ⟨w369⟩, ⟨w370⟩, ⟨w371⟩, ⟨w372⟩, ⟨w373⟩, ⟨w374⟩, ⟨w375⟩, ⟨w376⟩, ⟨w377⟩, ⟨w378⟩, ⟨w379⟩, ⟨w380⟩, ⟨w381⟩, ⟨w382⟩, ⟨w383⟩]
noncomputable def wL6 : List WrW := [⟨w384⟩, ⟨w385⟩, ⟨w386⟩, ⟨w387⟩, ⟨w388⟩, ⟨w389⟩, ⟨w390⟩, ⟨w391⟩, ⟨w392⟩, ⟨w393⟩, ⟨w394⟩, ⟨w395⟩, ⟨w396⟩, ⟨w397⟩, ⟨w398⟩, ⟨w399⟩, ⟨w400⟩, ⟨w401⟩, ⟨w402⟩, ⟨w403⟩, ⟨w404⟩, ⟨w405⟩, ⟨w406⟩, ⟨w407⟩, ⟨w408⟩, ⟨w409⟩, ⟨w410⟩, ⟨w411⟩, ⟨w412⟩, ⟨w413⟩, ⟨w414⟩, ⟨w415⟩, ⟨w416⟩, ⟨w417⟩, ⟨w418⟩, ⟨w419⟩, ⟨w420⟩, ⟨w421⟩, ⟨w422⟩, ⟨w423⟩, ⟨w424⟩, ⟨w425⟩, ⟨w426⟩, ⟨w427⟩, ⟨w428⟩, ⟨w429⟩, ⟨w430⟩, ⟨w431⟩, ⟨w432⟩, ⟨w433⟩, ⟨w434⟩, ⟨w435⟩, ⟨w436⟩, ⟨w437⟩, ⟨w438⟩, ⟨w439⟩, ⟨w440⟩, ⟨w441⟩, ⟨w442⟩, ⟨w443⟩, ⟨w444⟩, ⟨w445⟩, ⟨w446⟩, ⟨w447⟩]
noncomputable def wL7 : List WrW := [⟨w448⟩, ⟨w449⟩, ⟨w450⟩, ⟨w451⟩, ⟨w452⟩, ⟨w453⟩, ⟨w454⟩, ⟨w455⟩, ⟨w456⟩, ⟨w457⟩, ⟨w458⟩, ⟨w459⟩, ⟨w460⟩, ⟨w461⟩, ⟨w462⟩, ⟨w463⟩, ⟨w464⟩, ⟨w465⟩, ⟨w466⟩, ⟨w467⟩, ⟨w468⟩, ⟨w469⟩, ⟨w470⟩, ⟨w471⟩, ⟨w472⟩, ⟨w473⟩, ⟨w474⟩, ⟨w475⟩, ⟨w476⟩, ⟨w477⟩, ⟨w478⟩, ⟨w479⟩, ⟨w480⟩, ⟨w481⟩, ⟨w482⟩, ⟨w483⟩, ⟨w484⟩, ⟨w485⟩, ⟨w486⟩, ⟨w487⟩, ⟨w488⟩, ⟨w489⟩, ⟨w490⟩, ⟨w491⟩, ⟨w492⟩, ⟨w493⟩, ⟨w494⟩, ⟨w495⟩, ⟨w496⟩, ⟨w497⟩, ⟨w498⟩, ⟨w499⟩, ⟨w500⟩, ⟨w501⟩, ⟨w502⟩, ⟨w503⟩, ⟨w504⟩, ⟨w505⟩, ⟨w506⟩, ⟨w507⟩, ⟨w508⟩, ⟨w509⟩, ⟨w510⟩, ⟨w511⟩]

noncomputable def dg (n : Nat) : D8 := @Nat.rec (fun _ => D8) .d0 (fun n _ => @Nat.rec (fun _ => D8) .d1 (fun n _ => @Nat.rec (fun _ => D8) .d2 (fun n _ => @Nat.rec (fun _ => D8) .d3 (fun n _ => @Nat.rec (fun _ => D8) .d4 (fun n _ => @Nat.rec (fun _ => D8) .d5 (fun n _ => @Nat.rec (fun _ => D8) .d6 (fun _ _ => .d7) n) n) n) n) n) n) n
theorem dg_inj : ∀ a, a < 8 → ∀ b, b < 8 → dg a = dg b → a = b := by decide
noncomputable def gR (n : Nat) : RdW := ⟨fun fr => sel Value (dg (n % 8)) (sel R1 (dg (n / 8 % 8)) (sel R2 (dg (n / 64)) fr))⟩
noncomputable def gW (n : Nat) : WrW := ⟨fun fr v => put R2 (dg (n / 64)) (put R1 (dg (n / 8 % 8)) (put Value (dg (n % 8)) setV)) fr v⟩
theorem lst_get {α : Type} {l : List α} {g : Nat → α} {b n : Nat} (h : l = (List.range n).map fun i => g (b + i)) {i : Nat} (hi : i < n) : l[i]? = some (g (b + i)) := by
  subst h
  rw [List.getElem?_map, List.getElem?_range hi]
  rfl
theorem rL0_eq : rL0 = (List.range 64).map fun i => gR (0 + i) := by kernel_rfl
theorem wL0_eq : wL0 = (List.range 64).map fun i => gW (0 + i) := by kernel_rfl
theorem rL1_eq : rL1 = (List.range 64).map fun i => gR (64 + i) := by kernel_rfl
theorem wL1_eq : wL1 = (List.range 64).map fun i => gW (64 + i) := by kernel_rfl
theorem rL2_eq : rL2 = (List.range 64).map fun i => gR (128 + i) := by kernel_rfl
theorem wL2_eq : wL2 = (List.range 64).map fun i => gW (128 + i) := by kernel_rfl
theorem rL3_eq : rL3 = (List.range 64).map fun i => gR (192 + i) := by kernel_rfl
theorem wL3_eq : wL3 = (List.range 64).map fun i => gW (192 + i) := by kernel_rfl
theorem rL4_eq : rL4 = (List.range 64).map fun i => gR (256 + i) := by kernel_rfl
theorem wL4_eq : wL4 = (List.range 64).map fun i => gW (256 + i) := by kernel_rfl
theorem rL5_eq : rL5 = (List.range 64).map fun i => gR (320 + i) := by kernel_rfl
theorem wL5_eq : wL5 = (List.range 64).map fun i => gW (320 + i) := by kernel_rfl
theorem rL6_eq : rL6 = (List.range 64).map fun i => gR (384 + i) := by kernel_rfl
theorem wL6_eq : wL6 = (List.range 64).map fun i => gW (384 + i) := by kernel_rfl
theorem rL7_eq : rL7 = (List.range 64).map fun i => gR (448 + i) := by kernel_rfl
theorem wL7_eq : wL7 = (List.range 64).map fun i => gW (448 + i) := by kernel_rfl
noncomputable def rT (d : D8) : List RdW := @D8.rec (fun _ => List RdW) rL0 rL1 rL2 rL3 rL4 rL5 rL6 rL7 d
noncomputable def wT (d : D8) : List WrW := @D8.rec (fun _ => List WrW) wL0 wL1 wL2 wL3 wL4 wL5 wL6 wL7 d

noncomputable def nth0 (α : Type) (_ : Nat) : Option α := none
noncomputable def nthC (α : Type) (a : α) (l : List α) (ih : Nat → Option α) (i : Nat) : Option α := @Nat.rec (fun _ => Option α) (some a) (fun p _ => ih p) i
noncomputable def nthX (α : Type) (l : List α) : Nat → Option α := @List.rec α (fun _ => Nat → Option α) (nth0 α) (nthC α) l
theorem nthX_eq {α : Type} : ∀ (l : List α) (i : Nat), nthX α l i = l[i]?
  | [], i => by simp [nthX, nth0]
  | a :: l, 0 => rfl
  | a :: l, i + 1 => by
    have := nthX_eq l i
    simp only [List.getElem?_cons_succ, ← this]
    rfl

noncomputable def rdU : RdW := ⟨fun _ => undef⟩
/-- The slot's reading and writing, once and for all. -/
noncomputable def accR (t : Nat) : RdW := @Bool.rec (fun _ => RdW) (@Option.rec RdW (fun _ => RdW) rdU (fun a => a) (nthX RdW (rT (dg (t / 64))) (t % 64))) rdU (Nat.ble 512 t)
noncomputable def accW (t : Nat) : Option WrW := @Bool.rec (fun _ => Option WrW) (nthX WrW (wT (dg (t / 64))) (t % 64)) none (Nat.ble 512 t)

theorem bleF {a b : Nat} (h : Nat.ble a b = false) : b < a := by
  apply Classical.byContradiction
  intro h'
  have e := Nat.ble_eq_true_of_le (show a ≤ b by omega)
  rw [h] at e; cases e

theorem accR_lo {t : Nat} (h : t < 512) : accR t = gR t := by
  have hb : Nat.ble 512 t = false := by
    cases hb : Nat.ble 512 t with
    | false => rfl
    | true => have := Nat.le_of_ble_eq_true hb; omega
  unfold accR
  rw [hb]
  have hm : t % 64 < 64 := Nat.mod_lt _ (by omega)
  have key : ∀ q, t / 64 = q → q < 8 → nthX RdW (rT (dg q)) (t % 64) = some (gR (q * 64 + t % 64)) := by
    intro q _ hq
    rw [nthX_eq]
    match q, hq with
    | 0, _ => exact lst_get rL0_eq hm
    | 1, _ => exact lst_get rL1_eq hm
    | 2, _ => exact lst_get rL2_eq hm
    | 3, _ => exact lst_get rL3_eq hm
    | 4, _ => exact lst_get rL4_eq hm
    | 5, _ => exact lst_get rL5_eq hm
    | 6, _ => exact lst_get rL6_eq hm
    | 7, _ => exact lst_get rL7_eq hm
  have := key (t / 64) rfl (by omega)
  rw [this, show t / 64 * 64 + t % 64 = t by omega]
theorem accW_lo {t : Nat} {w : WrW} (h : accW t = some w) : t < 512 ∧ w = gW t := by
  unfold accW at h
  cases hb : Nat.ble 512 t with
  | true => rw [hb] at h; cases h
  | false =>
    rw [hb] at h
    have ht := bleF hb
    have hm : t % 64 < 64 := Nat.mod_lt _ (by omega)
    have key : ∀ q, t / 64 = q → q < 8 → nthX WrW (wT (dg q)) (t % 64) = some (gW (q * 64 + t % 64)) := by
      intro q _ hq
      rw [nthX_eq]
      match q, hq with
      | 0, _ => exact lst_get wL0_eq hm
      | 1, _ => exact lst_get wL1_eq hm
      | 2, _ => exact lst_get wL2_eq hm
      | 3, _ => exact lst_get wL3_eq hm
      | 4, _ => exact lst_get wL4_eq hm
      | 5, _ => exact lst_get wL5_eq hm
      | 6, _ => exact lst_get wL6_eq hm
      | 7, _ => exact lst_get wL7_eq hm
    have h1 := key (t / 64) rfl (by omega)
    have h2 : nthX WrW (wT (dg (t / 64))) (t % 64) = some w := h
    rw [h1, show t / 64 * 64 + t % 64 = t by omega] at h2
    cases h2
    exact ⟨ht, rfl⟩
theorem accR_hi {t : Nat} (h : 512 ≤ t) : accR t = rdU := by
  unfold accR
  rw [Nat.ble_eq_true_of_le h]

noncomputable def tmX (fr : Fr) : Tm := fun t => (accR t).f fr
theorem tmX_wr {d : Nat} {w : WrW} (hd : accW d = some w) (fr : Fr) (v : Value) : tmX (w.f fr v) = (tmX fr).upd d v := by
  obtain ⟨hd', rfl⟩ := accW_lo hd
  funext t
  show (accR t).f ((gW d).f fr v) = if t = d then v else (accR t).f fr
  by_cases ht : t < 512
  · rw [accR_lo ht]
    simp only [gR, gW, sel_put]
    by_cases h1 : t = d
    · subst h1; simp [setV, sel_put]
    · rw [if_neg h1]
      by_cases h2 : dg (t / 64) = dg (d / 64)
      · have e2 := dg_inj _ (by omega) _ (by omega) h2
        rw [if_pos h2, sel_put]
        by_cases h3 : dg (t / 8 % 8) = dg (d / 8 % 8)
        · have e3 := dg_inj _ (by omega) _ (by omega) h3
          rw [if_pos h3, sel_put]
          have h4 : dg (t % 8) ≠ dg (d % 8) := fun h4 => by have e4 := dg_inj _ (by omega) _ (by omega) h4; omega
          rw [if_neg h4, h3, h2]
        · rw [if_neg h3, h2]
      · rw [if_neg h2]
  · rw [accR_hi (by omega), if_neg (by omega)]
    rfl

noncomputable def opdT (t : Nat) : RdW := accR t
noncomputable def opdK (v : Value) : RdW := ⟨fun _ => v⟩
noncomputable def opdF (f : Nat) : RdW := ⟨fun _ => .func (.func f) #[] #[]⟩
/-- An operand's reading, once and for all. -/
noncomputable def opdW (x : Opd) : RdW := @Opd.rec (fun _ => RdW) opdT opdK opdF x
theorem rdO_eq (x : Opd) (fr : Fr) : (opdW x).f fr = x.ev (tmX fr) := by cases x <;> rfl

noncomputable def ro1 : R1 := ⟨undef, undef, undef, undef, undef, undef, undef, undef⟩
noncomputable def ro2 : R2 := ⟨ro1, ro1, ro1, ro1, ro1, ro1, ro1, ro1⟩
noncomputable def fr0 : Fr := ⟨ro2, ro2, ro2, ro2, ro2, ro2, ro2, ro2⟩
theorem sel_ro1 (i : D8) : sel Value i ro1 = undef := by cases i <;> rfl
theorem sel_ro2 (i : D8) : sel R1 i ro2 = ro1 := by cases i <;> rfl
theorem sel_fr0 (i : D8) : sel R2 i fr0 = ro2 := by cases i <;> rfl
theorem tmX_fr0 (t : Nat) : tmX fr0 t = undef := by
  show (accR t).f fr0 = undef
  by_cases ht : t < 512
  · rw [accR_lo ht]
    simp only [gR, sel_fr0, sel_ro2, sel_ro1]
  · rw [accR_hi (by omega)]
    rfl

/-! ### memory -/
namespace Tr
variable {α : Type}
noncomputable def gxB (il ir : Nat → Option α) (p : Nat) (_ : Option α) : Option α := @Bool.rec (fun _ => Option α) (ir (Nat.div p 2)) (il (Nat.div p 2)) (Nat.beq (Nat.mod p 2) 0)
noncomputable def gxN (α : Type) (v : Option α) (l r : Tr α) (il ir : Nat → Option α) (n : Nat) : Option α := @Nat.rec (fun _ => Option α) v (gxB il ir) n
noncomputable def gx0 (α : Type) (n : Nat) : Option α := none
noncomputable def gx (α : Type) (t : Tr α) : Nat → Option α := @Tr.rec α (fun _ => Nat → Option α) (gx0 α) (gxN α) t
theorem gx_eq (t : Tr α) : ∀ n, gx α t n = t.get n := by
  induction t with
  | nil => intro n; rfl
  | node v l r ihl ihr =>
    intro n
    cases n with
    | zero => rfl
    | succ p =>
      show @Bool.rec (fun _ => Option α) (gx α r (p / 2)) (gx α l (p / 2)) (Nat.beq (p % 2) 0) = _
      have h0 : Nat.beq (p + 1) 0 = false := rfl
      simp only [get, h0]
      by_cases hp : p % 2 = 0
      · have e1 : Nat.beq (p % 2) 0 = true := by rw [hp]; rfl
        have e2 : Nat.beq ((p + 1) % 2) 1 = true := by rw [show (p + 1) % 2 = 1 by omega]; rfl
        simp only [e1, e2, ihl, show (p + 1) / 2 = p / 2 by omega]
      · have e1 : Nat.beq (p % 2) 0 = false := by rw [show p % 2 = 1 by omega]; rfl
        have e2 : Nat.beq ((p + 1) % 2) 1 = false := by rw [show (p + 1) % 2 = 0 by omega]; rfl
        simp only [e1, e2, ihr, show (p + 1) / 2 - 1 = p / 2 by omega]

abbrev ST (α : Type) := Tr α → Nat → Option α → Tr α
noncomputable def sxL (α : Type) (ih : ST α) (n : Nat) (x : Option α) : Tr α :=
  @Bool.rec (fun _ => Tr α) (@Bool.rec (fun _ => Tr α) (node none nil (ih nil (Nat.pred (Nat.div n 2)) x)) (node none (ih nil (Nat.div n 2) x) nil) (Nat.beq (Nat.mod n 2) 1)) (node x nil nil) (Nat.beq n 0)
noncomputable def sxN (α : Type) (v : Option α) (l r : Tr α) (_ _ : ST α → Nat → Option α → Tr α) (ih : ST α) (n : Nat) (x : Option α) : Tr α :=
  @Bool.rec (fun _ => Tr α) (@Bool.rec (fun _ => Tr α) (node v l (ih r (Nat.pred (Nat.div n 2)) x)) (node v (ih l (Nat.div n 2) x) r) (Nat.beq (Nat.mod n 2) 1)) (node x l r) (Nat.beq n 0)
noncomputable def sx0 (α : Type) (t : Tr α) (_ : Nat) (_ : Option α) : Tr α := t
noncomputable def sxS (α : Type) (_ : Nat) (ih : ST α) (t : Tr α) : Nat → Option α → Tr α := @Tr.rec α (fun _ => ST α → Nat → Option α → Tr α) (sxL α) (sxN α) t ih
noncomputable def sxF (α : Type) (k : Nat) : ST α := @Nat.rec (fun _ => ST α) (sx0 α) (sxS α) k
noncomputable def sx (α : Type) (t : Tr α) (n : Nat) (x : Option α) : Tr α := sxF α (Nat.add (Nat.log2 n) 2) t n x

theorem sxF_eq : ∀ (k : Nat) (t : Tr α) (n : Nat) (x : Option α), n + 1 < 2 ^ k → ∀ j, n < j → sxF α k t n x = setF j t n x := by
  intro k
  induction k with
  | zero => intro t n x h; simp at h
  | succ k ih =>
    intro t n x h j hj
    cases j with
    | zero => omega
    | succ j =>
      have e1 : Nat.div n 2 = n / 2 := rfl
      have e2 : Nat.mod n 2 = n % 2 := rfl
      have e3 : Nat.pred (n / 2) = n / 2 - 1 := rfl
      have hp : 2 ^ (k + 1) = 2 * 2 ^ k := by rw [Nat.pow_succ, Nat.mul_comm]
      cases t with
      | nil =>
        show sxL α (sxF α k) n x = _
        simp only [sxL, setF, e1, e2, e3]
        cases h0 : Nat.beq n 0 <;> simp only []
        have hn0 : n ≠ 0 := fun e => by rw [e] at h0; cases h0
        cases h1 : Nat.beq (n % 2) 1 <;> simp only []
        · have : n % 2 ≠ 1 := fun e => by rw [e] at h1; cases h1
          rw [ih nil (n / 2 - 1) x (by omega) j (by omega)]
        · have := Nat.eq_of_beq_eq_true h1
          rw [ih nil (n / 2) x (by omega) j (by omega)]
      | node v l r =>
        show (@Bool.rec (fun _ => Tr α) (@Bool.rec (fun _ => Tr α) (node v l (sxF α k r (Nat.pred (Nat.div n 2)) x)) (node v (sxF α k l (Nat.div n 2) x) r) (Nat.beq (Nat.mod n 2) 1)) (node x l r) (Nat.beq n 0)) = _
        simp only [setF, e1, e2, e3]
        cases h0 : Nat.beq n 0 <;> simp only []
        have hn0 : n ≠ 0 := fun e => by rw [e] at h0; cases h0
        cases h1 : Nat.beq (n % 2) 1 <;> simp only []
        · have : n % 2 ≠ 1 := fun e => by rw [e] at h1; cases h1
          rw [ih r (n / 2 - 1) x (by omega) j (by omega)]
        · have := Nat.eq_of_beq_eq_true h1
          rw [ih l (n / 2) x (by omega) j (by omega)]

theorem sx_eq (t : Tr α) (n : Nat) (x : Option α) : sx α t n x = t.set n x := by
  refine sxF_eq _ t n x ?_ (n + 1) (Nat.lt_succ_self n)
  have h : n < 2 ^ (n.log2 + 1) := Nat.lt_log2_self
  show n + 1 < 2 ^ (n.log2 + 1 + 1)
  rw [Nat.pow_succ]; omega
end Tr

/-! ### lists -/
noncomputable def lst0 (α : Type) (_ : Nat) (_ : α) : List α := []
noncomputable def lstC (α : Type) (a : α) (l : List α) (ih : Nat → α → List α) (i : Nat) (v : α) : List α := @Nat.rec (fun _ => List α) (v :: l) (fun p _ => a :: ih p v) i
noncomputable def lstX (α : Type) (l : List α) : Nat → α → List α := @List.rec α (fun _ => Nat → α → List α) (lst0 α) (lstC α) l
theorem lstX_eq {α : Type} : ∀ (l : List α) (i : Nat) (v : α), i < l.length → lstX α l i v = l.take i ++ [v] ++ l.drop (i + 1)
  | [], i, v, h => by simp at h
  | a :: l, 0, v, h => rfl
  | a :: l, i + 1, v, h => by
    have := lstX_eq l i v (by simpa using h)
    simp only [List.take_succ_cons, List.drop_succ_cons, List.cons_append, ← this]
    rfl

/-! ### numbers -/
noncomputable def iad1 (m n : Nat) : Int := .ofNat (Nat.add m n)
noncomputable def iad2 (m n : Nat) : Int := Int.subNatNat m (Nat.succ n)
noncomputable def iad3 (m n : Nat) : Int := Int.subNatNat n (Nat.succ m)
noncomputable def iad4 (m n : Nat) : Int := .negSucc (Nat.succ (Nat.add m n))
noncomputable def iadP (m : Nat) (b : Int) : Int := @Int.rec (fun _ => Int) (iad1 m) (iad2 m) b
noncomputable def iadN (m : Nat) (b : Int) : Int := @Int.rec (fun _ => Int) (iad3 m) (iad4 m) b
noncomputable def iaddX (a : Int) : Int → Int := @Int.rec (fun _ => Int → Int) iadP iadN a
theorem iaddX_eq (a b : Int) : iaddX a b = a + b := by cases a <;> cases b <;> rfl

noncomputable def isu1 (m n : Nat) : Int := Int.subNatNat m n
noncomputable def isu2 (m n : Nat) : Int := .ofNat (Nat.add m (Nat.succ n))
noncomputable def isuP (m : Nat) (b : Int) : Int := @Int.rec (fun _ => Int) (isu1 m) (isu2 m) b
noncomputable def isuN (m : Nat) (b : Int) : Int := .negSucc m - b
noncomputable def isubX (a : Int) : Int → Int := @Int.rec (fun _ => Int → Int) isuP isuN a
theorem isubX_eq (a b : Int) : isubX a b = a - b := by
  cases a with
  | ofNat m => cases b with
    | ofNat n => show Int.subNatNat m n = (m : Int) - (n : Int); rw [Int.subNatNat_eq_coe]
    | negSucc n => show ((m + (n + 1) : Nat) : Int) = (m : Int) - Int.negSucc n; omega
  | negSucc m => rfl

noncomputable def ileP (m : Nat) (b : Int) : Bool := @Int.rec (fun _ => Bool) (Nat.ble m) (fun _ => false) b
noncomputable def ileN (m : Nat) (b : Int) : Bool := @Int.rec (fun _ => Bool) (fun _ => true) (fun n => Nat.ble n m) b
noncomputable def ileX (a : Int) : Int → Bool := @Int.rec (fun _ => Int → Bool) ileP ileN a
theorem bleD (m n : Nat) : Nat.ble m n = decide (m ≤ n) := by
  cases h : Nat.ble m n with
  | true => rw [decide_eq_true (Nat.le_of_ble_eq_true h)]
  | false => rw [decide_eq_false (fun h' => by have := bleF h; omega)]
theorem ileX_eq (a b : Int) : ileX a b = decide (a ≤ b) := by
  cases a with
  | ofNat m => cases b with
    | ofNat n => show Nat.ble m n = _; rw [bleD]; exact decide_eq_decide.2 (by simp)
    | negSucc n => show false = _; exact (decide_eq_false (by have := Int.negSucc_lt_zero n; simp only [Int.ofNat_eq_natCast]; omega)).symm
  | negSucc m => cases b with
    | ofNat n => show true = _; exact (decide_eq_true (by have := Int.negSucc_lt_zero m; simp only [Int.ofNat_eq_natCast]; omega)).symm
    | negSucc n => show Nat.ble n m = _; rw [bleD]; exact decide_eq_decide.2 (by omega)

noncomputable def ieqP (m : Nat) (b : Int) : Bool := @Int.rec (fun _ => Bool) (Nat.beq m) (fun _ => false) b
noncomputable def ieqN (m : Nat) (b : Int) : Bool := @Int.rec (fun _ => Bool) (fun _ => false) (Nat.beq m) b
noncomputable def ieqX (a : Int) : Int → Bool := @Int.rec (fun _ => Int → Bool) ieqP ieqN a
theorem beqD (m n : Nat) : Nat.beq m n = decide (m = n) := by
  cases h : Nat.beq m n with
  | true => rw [decide_eq_true (Nat.eq_of_beq_eq_true h)]
  | false => rw [decide_eq_false (fun h' => by rw [h', Nat.beq_refl] at h; cases h)]
theorem ieqX_eq (a b : Int) : ieqX a b = (a == b) := by
  have e : (a == b) = decide (a = b) := rfl
  rw [e]
  cases a with
  | ofNat m => cases b with
    | ofNat n => show Nat.beq m n = _; rw [beqD]; exact decide_eq_decide.2 (by simp only [Int.ofNat_eq_natCast]; omega)
    | negSucc n => show false = _; exact (decide_eq_false (by have := Int.negSucc_lt_zero n; simp only [Int.ofNat_eq_natCast]; omega)).symm
  | negSucc m => cases b with
    | ofNat n => show false = _; exact (decide_eq_false (by have := Int.negSucc_lt_zero m; simp only [Int.ofNat_eq_natCast]; omega)).symm
    | negSucc n => show Nat.beq m n = _; rw [beqD]; exact decide_eq_decide.2 (by omega)

noncomputable def wr64P (m : Nat) : Int := @Bool.rec (fun _ => Int) (IntKind.i64.wrap (.ofNat m)) (.ofNat m) (Nat.ble m 9223372036854775807)
noncomputable def wr64N (m : Nat) : Int := @Bool.rec (fun _ => Int) (IntKind.i64.wrap (.negSucc m)) (.negSucc m) (Nat.ble m 9223372036854775807)
noncomputable def wr64 (n : Int) : Int := @Int.rec (fun _ => Int) wr64P wr64N n
theorem wrap64 {n : Int} (h1 : -9223372036854775808 ≤ n) (h2 : n ≤ 9223372036854775807) : IntKind.i64.wrap n = n := by
  show (if (true && decide (n % 18446744073709551616 ≥ 9223372036854775808)) = true then n % 18446744073709551616 - 18446744073709551616 else n % 18446744073709551616) = n
  split <;> rename_i h <;> simp at h <;> omega
theorem wr64_eq (n : Int) : wr64 n = IntKind.i64.wrap n := by
  cases n with
  | ofNat m =>
    show wr64P m = _
    unfold wr64P
    cases h : Nat.ble m 9223372036854775807 with
    | false => rfl
    | true => have := Nat.le_of_ble_eq_true h; exact (wrap64 (n := Int.ofNat m) (by simp only [Int.ofNat_eq_natCast]; omega) (by simp only [Int.ofNat_eq_natCast]; omega)).symm
  | negSucc m =>
    show wr64N m = _
    unfold wr64N
    cases h : Nat.ble m 9223372036854775807 with
    | false => rfl
    | true => have := Nat.le_of_ble_eq_true h; exact (wrap64 (n := Int.negSucc m) (by omega) (by omega)).symm
noncomputable def wrUP (k : IntKind) (mx m : Nat) : Int := @Bool.rec (fun _ => Int) (k.wrap (.ofNat m)) (.ofNat m) (Nat.ble m mx)
noncomputable def wrUN (k : IntKind) (m : Nat) : Int := k.wrap (.negSucc m)
noncomputable def wrU (k : IntKind) (mx : Nat) (n : Int) : Int := @Int.rec (fun _ => Int) (wrUP k mx) (wrUN k) n
theorem wrU_eq (k : IntKind) (mx : Nat) (hk : k.signed = false) (hm : (mx : Int) < 2 ^ k.bits) (n : Int) : wrU k mx n = k.wrap n := by
  cases n with
  | ofNat m =>
    show wrUP k mx m = _
    unfold wrUP
    cases h : Nat.ble m mx with
    | false => rfl
    | true =>
      have := Nat.le_of_ble_eq_true h
      simp only [IntKind.wrap, hk, Bool.false_and, Bool.false_eq_true, if_false]
      exact (Int.emod_eq_of_lt (by simp) (by simp; omega)).symm
  | negSucc m => rfl
structure WrapW where
  f : Int → Int
noncomputable def wrapW (k : IntKind) : WrapW := @IntKind.rec (fun _ => WrapW) ⟨IntKind.wrap .i8⟩ ⟨IntKind.wrap .i16⟩ ⟨IntKind.wrap .i32⟩ ⟨wr64⟩ ⟨wrU .u8 255⟩ ⟨wrU .u16 65535⟩ ⟨wrU .u32 4294967295⟩ ⟨wrU .u64 18446744073709551615⟩ k
noncomputable def wrapX (k : IntKind) (n : Int) : Int := (wrapW k).f n
theorem wrapX_eq (k : IntKind) (n : Int) : wrapX k n = k.wrap n := by
  cases k
  · rfl
  · rfl
  · rfl
  · exact wr64_eq n
  · exact wrU_eq .u8 255 rfl (by decide) n
  · exact wrU_eq .u16 65535 rfl (by decide) n
  · exact wrU_eq .u32 4294967295 rfl (by decide) n
  · exact wrU_eq .u64 18446744073709551615 rfl (by decide) n
end Go.Eng

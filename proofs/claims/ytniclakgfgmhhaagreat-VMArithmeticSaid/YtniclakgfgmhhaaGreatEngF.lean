/-
  THE ENGINE, part F: append, whatever capacity the tape draws.
-/
import Derived.Test.YtniclakgfgmhhaaGreatEngE
set_option linter.unusedVariables false
set_option linter.unusedSimpArgs false
namespace Go.Eng
section
variable {P : Program} {ρ : Ren} {H : Hp} {w : World} {T : Tm} {a : Act}

/-- What is appended, in a world: its length, its cells. -/
structure Src (P : Program) (ρ : Ren) (w : World) (sz : Nat) (m : Nat) (src : List Value) (x' : Value) (news : List Value) : Prop where
  len : ∀ w0 : World, (Builtin.lenOf x').run P w0 = .ok m w0
  run : ∀ w0 : World, w0.heap = w.heap → (Builtin.firstCells sz m x').run P w0 = .ok news.toArray w0
  size : news.length = m * sz
  size' : src.length = m * sz
  rel : ∀ (i : Nat) v, src[i]? = some v → v.oneCell' = true ∧ ∃ v', news[i]? = some v' ∧ VRel ρ v v'
  one : ∀ u ∈ news, u.oneCell' = true

theorem Src.zero {sz : Nat} {x' : Value} (h : x' = .slice none 0 0 ∨ ∃ ad c, x' = .slice (some ad) 0 c) : Src P ρ w sz 0 [] x' [] := by
  rcases h with rfl | ⟨ad, c, rfl⟩
  · exact ⟨fun _ => rfl, fun w0 _ => rfl, by simp, by simp, by simp, by simp⟩
  · exact ⟨fun _ => rfl, fun w0 _ => by simp [Builtin.firstCells, loadCells, loadCellsFrom], by simp, by simp, by simp, by simp⟩

theorem src_sound (hR : Rep ρ H w) {sz : Nat} {x x' : Value} (hx : VRel ρ x x') {m : Nat} {src : List Value} (h : srcOf H sz x = some (m, src)) : ∃ news, Src P ρ w sz m src x' news := by
  unfold srcOf at h
  split at h
  · cases h; cases hx
    exact ⟨[], Src.zero (.inl rfl)⟩
  · rename_i id o m' c
    split at h
    · cases h
      refine ⟨[], Src.zero (.inr ?_)⟩
      cases hx <;> exact ⟨_, _, rfl⟩
    · rename_i hm
      split at h
      · rename_i b hb
        split at h
        · rename_i hle
          rw [Nat.ble_eq] at hle
          cases h
          cases hx with
          | tail => exact absurd rfl hm
          | slc _ _ _ cap tg htg hc hmx hr =>
            obtain ⟨cc, e, fr, g1, g2, g3, g4, g5, g6⟩ := hR.look hb htg
            have hseg := g5.seg hle (by omega)
            refine ⟨(cc.toList.drop (tg.shift + o)).take (m * sz), fun _ => rfl, fun w0 h0 => ?_, by simp; omega, by simp; omega, fun i v hv => ?_, fun u hu => ?_⟩
            · have g1' : w0.heap[tg.block]? = some (.cells cc e fr) := by rw [h0]; exact g1
              exact run_loadCells_row g1' (by omega)
            · have hv0 : b.cells[o + i]? = some v := by
                rw [List.getElem?_take] at hv
                split at hv
                · rwa [List.getElem?_drop] at hv
                · cases hv
              refine ⟨(g5 _ v hv0).1, ?_⟩
              have hs : (((b.cells.drop o).take (m * sz)).toArray)[i]? = some v := by rw [List.getElem?_toArray]; exact hv
              obtain ⟨y, q1, q2⟩ := ARel.get hseg hs
              exact ⟨y, by rw [List.getElem?_toArray] at q1; exact q1, q2⟩
            · obtain ⟨j, hj, hju⟩ := List.getElem_of_mem hu
              have hj2 : j < m * sz := by simp at hj; omega
              have e1 : b.cells[o + j]? = some b.cells[o + j] := List.getElem?_eq_getElem (by omega)
              obtain ⟨q1, v', q2, q3⟩ := g5 _ _ e1
              have e2 : cc[tg.shift + (o + j)]? = some u := by
                rw [← hju]
                have hlt : tg.shift + (o + j) < cc.size := by omega
                simp only [List.getElem_take, List.getElem_drop, Array.getElem_toList]
                rw [← Nat.add_assoc, Array.getElem?_eq_getElem (by omega)]
              rw [e2] at q2; cases q2
              rw [q3.one]; exact q1
        · cases h
      · cases h
  · cases h

theorem str_src (s : ByteArray) : Src P ρ w 1 s.data.toList.length (bytesV s) (.string s) (bytesV s) := by
  have hone : ∀ u ∈ bytesV s, ∃ n, u = .int .u8 n := by
    intro u hu
    simp only [bytesV, List.mem_map] at hu
    obtain ⟨b, _, rfl⟩ := hu
    exact ⟨_, rfl⟩
  refine ⟨fun w0 => ?_, fun w0 _ => ?_, by simp [bytesV], by simp [bytesV], fun i v hv => ?_, fun u hu => ?_⟩
  · simp only [Builtin.lenOf, Sem.run_pure, Array.length_toList]; rfl
  · have he : (s.extract 0 s.data.toList.length) = s := by
      apply ByteArray.ext
      rw [ByteArray.data_extract, Array.length_toList, Array.extract_size]
    simp only [Builtin.firstCells, Sem.run_pure, he]
    congr 1
    apply Array.ext'
    simp [bytesV]
  · obtain ⟨n, rfl⟩ := hone v (List.mem_of_getElem? hv)
    exact ⟨rfl, _, hv, .int _ _⟩
  · obtain ⟨n, rfl⟩ := hone u hu
    rfl

theorem run_grow {t u ty e : TypeId} {i : TypeInfo} {z : Value} (ht : P.underlying t = some (.slice e)) {D : TypeDesc} (hu : P.underlying u = some D) (hD : (∃ e', D = .slice e') ∨ D = .string) (hi : P.info? e = some i) (hz : i.zero = some z)
    {base : Option Addr} {sLen sCap m : Nat} {x' : Value} {olds news : List Value} (hlen : ∀ w0 : World, (Builtin.lenOf x').run P w0 = .ok m w0)
    (hold : ∀ w0 : World, w0.heap = w.heap → (Builtin.firstCells i.size sLen (.slice base sLen sCap)).run P w0 = .ok olds.toArray w0)
    (hnew : ∀ w0 : World, w0.heap = w.heap → (Builtin.firstCells i.size m x').run P w0 = .ok news.toArray w0)
    (hg : sCap < sLen + m) (h63 : sLen + m ≤ maxLen) (hb : (sLen + m) * i.bytes ≤ 140737488355328) :
    (Builtin.append_ #[t, u] ty #[.slice base sLen sCap, x']).run P w =
      .ok (.slice (some ⟨w.heap.size, 0, none⟩) (sLen + m) (grownCap w (sLen + m) sCap e)) (w.drew.alloc (.cells (olds.toArray ++ news.toArray ++ Builtin.zeroCells z.cells (grownCap w (sLen + m) sCap e - (sLen + m))) e)) := by
  have hfit := growslice_fits hg hb
  have hn : ¬ (sLen + m ≤ sCap) := by omega
  simp only [maxLen] at h63
  have h63' : ¬ (9223372036854775807 < ((sLen : Int) + (m : Int))) := by omega
  have h48' : ¬ (281474976710656 < Builtin.nextslicecap (sLen + m) sCap * i.bytes) := by omega
  have hf := hnew w.drew rfl
  have hfo := hold w.drew rfl
  rcases hD with ⟨e', rfl⟩ | rfl <;> simp [Builtin.append_, run_underlying ht, run_underlying hu, sizeOf, typeInfo, zeroValue, hi, hz, hlen, hn, h63', h48', Question.forced, hf, hfo, newRow, grownCap]
  all_goals
    congr 2
    apply Array.ext'
    simp

theorem run_room {t u ty e : TypeId} {i : TypeInfo} (ht : P.underlying t = some (.slice e)) {D : TypeDesc} (hu : P.underlying u = some D) (hD : (∃ e', D = .slice e') ∨ D = .string) (hi : P.info? e = some i)
    {g sLen sCap m : Nat} {cur : Array Value} {e' : TypeId} (hg : w.heap[g]? = some (.cells cur e' (0, 0))) {x' : Value} {news : List Value}
    (hlen : ∀ w0 : World, (Builtin.lenOf x').run P w0 = .ok m w0) (hnew : ∀ w0 : World, w0.heap = w.heap → (Builtin.firstCells i.size m x').run P w0 = .ok news.toArray w0)
    (h1 : ∀ u ∈ news, u.oneCell' = true) (hroom : sLen + m ≤ sCap) (hfit : sLen * i.size + news.length ≤ cur.size) :
    (Builtin.append_ #[t, u] ty #[.slice (some ⟨g, 0, none⟩) sLen sCap, x']).run P w =
      .ok (.slice (some ⟨g, 0, none⟩) (sLen + m) sCap) (w.setRow g (cur.toList.take (sLen * i.size) ++ news ++ cur.toList.drop (sLen * i.size + news.length)).toArray) := by
  have hf := hnew w rfl
  have hst := run_storeCells_at P g (sLen * i.size) e' news 0 cur w hg (by simpa using hfit) h1
  simp only [Nat.add_zero] at hst
  rcases hD with ⟨e', rfl⟩ | rfl <;> simp [Builtin.append_, run_underlying ht, run_underlying hu, sizeOf, typeInfo, hi, hlen, hroom, hf, Addr.add_lit, hst]

theorem run_same {t u ty e : TypeId} {i : TypeInfo} (ht : P.underlying t = some (.slice e)) {D : TypeDesc} (hu : P.underlying u = some D) (hD : (∃ e', D = .slice e') ∨ D = .string) (hi : P.info? e = some i)
    {x' : Value} (hlen : ∀ w0 : World, (Builtin.lenOf x').run P w0 = .ok 0 w0) (hnew : ∀ w0 : World, w0.heap = w.heap → (Builtin.firstCells i.size 0 x').run P w0 = .ok #[] w0) :
    (Builtin.append_ #[t, u] ty #[.slice none 0 0, x']).run P w = .ok (.slice none 0 0) w := by
  have hf := hnew w rfl
  rcases hD with ⟨e', rfl⟩ | rfl <;> simp [Builtin.append_, run_underlying ht, run_underlying hu, sizeOf, typeInfo, hi, hlen, hf]

theorem app_sound (hR : Rep ρ H w) {c : Nat} (hf : ∀ id, c ≤ id → ρ id = none) {t u ty e : TypeId} {i : TypeInfo} {z : Value} (ht : P.underlying t = some (.slice e)) {D : TypeDesc} (hu : P.underlying u = some D)
    (hD : (∃ e', D = .slice e') ∨ D = .string) (hi : P.info? e = some i) (hz : i.zero = some z) (hzs : z.cells.size = i.size) (hsz : 0 < i.size)
    {s s' x' : Value} (hs : VRel ρ s s') {m : Nat} {src news : List Value} (hsrc : Src P ρ w i.size m src x' news) {v : Value} {H' : Hp} {c' : Nat} (h : appR H c i.size i.bytes s m src = some (v, H', c')) :
    ∃ v' w' ρ', (Builtin.append_ #[t, u] ty #[s', x']).run P w = .ok v' w' ∧ Did ρ H c w v' w' v H' c' ρ' := by
  unfold appR at h
  -- the grown case, told once
  have grown : ∀ (base : Option Addr) (sLen sCap : Nat) (olds known : List Value), (∀ w0 : World, w0.heap = w.heap → (Builtin.firstCells i.size sLen (.slice base sLen sCap)).run P w0 = .ok olds.toArray w0) →
      sCap < sLen + m → sLen + m ≤ maxLen → (sLen + m) * i.bytes ≤ 140737488355328 → olds.length = sLen * i.size → known.length = sLen * i.size →
      (∀ (j : Nat) v, known[j]? = some v → v.oneCell' = true ∧ ∃ v', olds[j]? = some v' ∧ VRel ρ v v') → ∀ H0 : Hp, (∀ j, H0 j = none ∨ H0 j = H j) →
      ∃ v' w' ρ', (Builtin.append_ #[t, u] ty #[.slice base sLen sCap, x']).run P w = .ok v' w' ∧ Did ρ H c w v' w' (.slice (some ⟨c, 0, none⟩) (sLen + m) 0) (H0.upd c ⟨i.size, true, known ++ src⟩) (c + 1) ρ' := by
    intro base sLen sCap olds known hold hg h63 hb hlo hlk hrel H0 hH0
    have hrun := run_grow (w := w) (ty := ty) ht hu hD hi hz hsrc.len hold hsrc.run hg h63 hb
    have hge := grownCap_ge w (sLen + m) sCap e
    have hcm := grownCap_le_maxLen w (sLen + m) sCap e h63
    have hR0 : Rep ρ H0 w := ⟨fun j bj hj => hR.blk j bj (by rcases hH0 j with h0 | h0 <;> rw [h0] at hj; exact absurd hj (by simp); exact hj), fun a b ba bb ta tb h1 h2 => by
      have g1 : H a = some ba := by rcases hH0 a with h0 | h0 <;> rw [h0] at h1; exact absurd h1 (by simp); exact h1
      have g2 : H b = some bb := by rcases hH0 b with h0 | h0 <;> rw [h0] at h2; exact absurd h2 (by simp); exact h2
      exact hR.sep a b ba bb ta tb g1 g2⟩
    have hid : ρ c = none := hf c (Nat.le_refl _)
    have hsz3 : (olds.toArray ++ news.toArray ++ Builtin.zeroCells z.cells (grownCap w (sLen + m) sCap e - (sLen + m))).size = grownCap w (sLen + m) sCap e * i.size := by
      simp only [Array.size_append, List.size_toArray, size_zeroCells, hzs, hlo, hsrc.size, ← Nat.add_mul]
      congr 1
      omega
    have hcr : CRel ρ (known ++ src) (olds.toArray ++ news.toArray ++ Builtin.zeroCells z.cells (grownCap w (sLen + m) sCap e - (sLen + m))) 0 := by
      intro j v hv
      rw [Nat.zero_add]
      have hL : (olds ++ news).length = (sLen + m) * i.size := by rw [List.length_append, hlo, hsrc.size, Nat.add_mul]
      have hjlt : j < (known ++ src).length := (List.getElem?_eq_some_iff.1 hv).1
      have hjlt2 : j < (olds ++ news).length := by rw [hL]; rw [List.length_append, hlk, hsrc.size', ← Nat.add_mul] at hjlt; exact hjlt
      have key : v.oneCell' = true ∧ ∃ v', (olds ++ news)[j]? = some v' ∧ VRel ρ v v' := by
        rw [List.getElem?_append] at hv ⊢
        rw [hlo]
        rw [hlk] at hv
        split at hv
        · rename_i hj; rw [if_pos hj]; exact hrel j v hv
        · rename_i hj; rw [if_neg hj]; exact hsrc.rel _ v hv
      obtain ⟨k1, v', k2, k3⟩ := key
      refine ⟨k1, v', ?_, k3⟩
      rw [show olds.toArray ++ news.toArray = (olds ++ news).toArray by simp, Array.getElem?_append_left (by simpa using hjlt2)]
      simpa using k2
    refine ⟨_, _, ρ.upd c ⟨w.heap.size, 0, (olds.toArray ++ news.toArray ++ Builtin.zeroCells z.cells (grownCap w (sLen + m) sCap e - (sLen + m))).size, i.size⟩, hrun, ?_, ?_, ?_, Nat.le_succ _, ?_, fun j hj => by simp only [Ren.upd, show j ≠ c by omega, if_false], ?_⟩
    · have := VRel.slc (ρ := ρ.upd c ⟨w.heap.size, 0, (olds.toArray ++ news.toArray ++ Builtin.zeroCells z.cells (grownCap w (sLen + m) sCap e - (sLen + m))).size, i.size⟩) c 0 (sLen + m) (grownCap w (sLen + m) sCap e) _ (Ren.upd_same _ _ _) hge hcm (.inr (by simp only [hsz3]; omega))
      simpa using this
    · exact hR0.alloc (b := ⟨i.size, true, known ++ src⟩) hid hcr (by rw [hsz3]; simp only [List.length_append, hlk, hsrc.size', ← Nat.add_mul]; exact Nat.mul_le_mul_right _ hge) rfl
    · intro j hj
      simp only [Ren.upd, show j ≠ c by omega, if_false]
      exact hf j (by omega)
    · intro j hj hne
      simp only [Hp.upd, show j ≠ c by omega, if_false] at hne
      rcases hH0 j with h0 | h0
      · exact absurd h0 hne
      · rwa [h0] at hne
    · have hx := Ext.alloc (b := ⟨i.size, true, known ++ src⟩) (c := (olds.toArray ++ news.toArray ++ Builtin.zeroCells z.cells (grownCap w (sLen + m) sCap e - (sLen + m)))) (e := e)
        (w' := w.drew.alloc (.cells (olds.toArray ++ news.toArray ++ Builtin.zeroCells z.cells (grownCap w (sLen + m) sCap e - (sLen + m))) e)) hR hid rfl rfl rfl rfl
      refine ⟨hx.le, hx.os, hx.tape, hx.output, hx.size, hx.keep, fun j bj tj g1 g3 => ?_⟩
      refine hx.mine j bj tj ?_ g3
      by_cases hjc : j = c
      · subst hjc; simpa [Hp.upd] using g1
      · simp only [Hp.upd, hjc, if_false] at g1 ⊢
        rcases hH0 j with h0 | h0 <;> rw [h0] at g1
        · cases g1
        · exact g1
  split at h
  · cases hs
    split at h
    · cases h
      have hn : news = [] := List.eq_nil_of_length_eq_zero (by simpa using hsrc.size)
      subst hn
      exact ⟨_, w, ρ, run_same ht hu hD hi hsrc.len hsrc.run, .snil, hR, hf, Nat.le_refl _, fun _ _ h => h, fun _ _ => rfl, Ext.refl _ _ _⟩
    · rename_i hm
      split at h
      · rename_i b1 b2
        rw [Nat.ble_eq] at b1 b2
        cases h
        have hpos : 0 < m := Nat.pos_of_ne_zero (fun e => hm (by simp [e]))
        have := grown none 0 0 [] [] (fun w0 _ => rfl) (by omega) (by omega) (by rw [Nat.zero_add]; exact b1) (by simp) (by simp) (by simp) H (fun j => .inr rfl)
        simpa using this
      · cases h
  · rename_i id n
    split at h
    · rename_i b hb
      split at h
      · rename_i hg
        obtain ⟨ho, hun, hle, hbb, hmx⟩ := hg
        cases h
        cases hs with
        | slc _ _ _ cap tg htg hc hm hr =>
          obtain ⟨cc, ee, fr, g1, g2, g3, g4, g5, g6⟩ := hR.look hb htg
          obtain ⟨rfl, g7⟩ := g6 ho
          simp only [g7, Nat.zero_add, Nat.add_zero] at *
          by_cases hroom : n + m ≤ cap
          · -- there is room: the old block, under the new name
            have hfit : (n + m) * i.size ≤ cc.size := by
              rcases hr with h0 | h0
              · omega
              · have := Nat.mul_le_mul_right i.size hroom
                rw [g4, hun] at h0
                omega
            have hnl : n * i.size + news.length ≤ cc.size := by rw [hsrc.size, ← Nat.add_mul]; exact hfit
            have hrun := run_room (w := w) (ty := ty) ht hu hD hi (sLen := n) (sCap := cap) g1 hsrc.len hsrc.run hsrc.one hroom hnl
            have hid : ρ c = none := hf c (Nat.le_refl _)
            have hne : id ≠ c := fun e => by rw [e] at htg; rw [hid] at htg; cases htg
            have hle' : ρ.le (ρ.upd c ⟨tg.block, 0, tg.room, i.size⟩) := Ren.le_upd hid
            have hlt : tg.block < w.heap.size := (Array.getElem?_eq_some_iff.1 g1).1
            refine ⟨_, _, ρ.upd c ⟨tg.block, 0, tg.room, i.size⟩, hrun, ?_, ?_, ?_, Nat.le_succ _, ?_, fun j hj => by simp only [Ren.upd, show j ≠ c by omega, if_false], ?_⟩
            · have := VRel.slc (ρ := ρ.upd c ⟨tg.block, 0, tg.room, i.size⟩) c 0 (n + m) cap _ (Ren.upd_same _ _ _) hroom hm (.inr (by
                simp only []
                rcases hr with h0 | h0
                · omega
                · rw [g4, hun] at h0; omega))
              simpa using this
            · have hcs : (cc.toList.take (n * i.size) ++ news ++ cc.toList.drop (n * i.size + news.length)).toArray.size = cc.size := by
                simp only [List.size_toArray, List.length_append, List.length_take, List.length_drop, Array.length_toList]
                omega
              have hcr : CRel ρ (b.cells.take (n * i.size) ++ src) (cc.toList.take (n * i.size) ++ news ++ cc.toList.drop (n * i.size + news.length)).toArray 0 := by
                intro j v hv
                simp only [Nat.zero_add, List.getElem?_toArray]
                rw [List.getElem?_append] at hv
                have hmin : (b.cells.take (n * i.size)).length = n * i.size := by rw [List.length_take]; omega
                have hmin' : (cc.toList.take (n * i.size)).length = n * i.size := by rw [List.length_take, Array.length_toList]; omega
                rw [hmin] at hv
                rw [List.append_assoc, List.getElem?_append, hmin']
                split at hv
                · rename_i hj
                  rw [if_pos hj]
                  rw [List.getElem?_take, if_pos hj] at hv
                  obtain ⟨q1, v', q2, q3⟩ := g5 j v hv
                  refine ⟨q1, v', ?_, q3⟩
                  rw [List.getElem?_take, if_pos hj]
                  simpa using q2
                · rename_i hj
                  rw [if_neg hj]
                  obtain ⟨q1, v', q2, q3⟩ := hsrc.rel _ v hv
                  refine ⟨q1, v', ?_, q3⟩
                  rw [List.getElem?_append_left (List.getElem?_eq_some_iff.1 q2).1]
                  exact q2
              have hwo : ∀ k, k ≠ tg.block → (w.setRow tg.block (cc.toList.take (n * i.size) ++ news ++ cc.toList.drop (n * i.size + news.length)).toArray).heap[k]? = w.heap[k]? := fun k hk => setRow_other w _ k _ hk
              constructor
              · intro j bj hj
                by_cases hjc : j = c
                · subst hjc
                  simp only [Hp.upd, if_true, Option.some.injEq] at hj
                  subst hj
                  refine ⟨_, Ren.upd_same _ _ _, _, ee, (0, 0), setRow_heap w _ cc _ ee _ g1, by simp only []; rw [hcs, Nat.zero_add]; exact g2, ?_, rfl, hcr.mono hle', fun _ => ⟨rfl, rfl⟩⟩
                  simp only [List.length_append, List.length_take, hsrc.size']
                  rw [g2]
                  have e1 : min (n * i.size) b.cells.length = n * i.size := by omega
                  rw [e1, ← Nat.add_mul]; exact hfit
                · simp only [Hp.upd, hjc, if_false, Hp.del] at hj
                  split at hj
                  · cases hj
                  · rename_i hji
                    obtain ⟨tj, q1, q2⟩ := hR.blk j bj hj
                    exact ⟨tj, hle' _ _ q1, (q2.mono hle').world (hwo _ (Ne.symm (hR.sep id j b bj tg tj hb hj (Ne.symm hji) htg q1 ho)))⟩
              · intro j k bj bk tj tk hj hk hjk h1 h2 ho'
                have back : ∀ l bl tl, ((H.del id).upd c ⟨i.size, true, b.cells.take (n * i.size) ++ src⟩) l = some bl → (ρ.upd c ⟨tg.block, 0, tg.room, i.size⟩) l = some tl →
                    ∃ l0 bl0 tl0, H l0 = some bl0 ∧ ρ l0 = some tl0 ∧ tl0.block = tl.block ∧ bl0.own = bl.own ∧ (l = c ∧ l0 = id ∨ l ≠ c ∧ l0 = l ∧ l ≠ id) := by
                  intro l bl tl hl hl2
                  by_cases hlc : l = c
                  · subst hlc
                    simp only [Hp.upd, if_true, Option.some.injEq] at hl
                    simp only [Ren.upd, if_true, Option.some.injEq] at hl2
                    subst hl hl2
                    exact ⟨id, b, tg, hb, htg, rfl, ho, .inl ⟨rfl, rfl⟩⟩
                  · simp only [Hp.upd, hlc, if_false, Hp.del] at hl
                    simp only [Ren.upd, hlc, if_false] at hl2
                    split at hl
                    · cases hl
                    · rename_i hli
                      exact ⟨l, bl, tl, hl, hl2, rfl, rfl, .inr ⟨hlc, rfl, hli⟩⟩
                obtain ⟨j0, bj0, tj0, a1, a2, a3, a4, a5⟩ := back j bj tj hj h1
                obtain ⟨k0, bk0, tk0, b1, b2, b3, b4, b5⟩ := back k bk tk hk h2
                rw [← a3, ← b3]
                refine hR.sep j0 k0 bj0 bk0 tj0 tk0 a1 b1 ?_ a2 b2 (a4.trans ho')
                rcases a5 with ⟨q1, q2⟩ | ⟨q1, q2, q3⟩ <;> rcases b5 with ⟨r1, r2⟩ | ⟨r1, r2, r3⟩ <;> omega
            · intro j hj
              simp only [Ren.upd, show j ≠ c by omega, if_false]
              exact hf j (by omega)
            · intro j hj hne'
              simp only [Hp.upd, show j ≠ c by omega, if_false, Hp.del] at hne'
              split at hne'
              · exact absurd rfl hne'
              · exact hne'
            · refine ⟨hle', rfl, rfl, rfl, by simp, fun k hk hno => setRow_other w _ k _ (fun e => hno id b tg hb ho htg e.symm), fun j bj tj q1 q3 => ?_⟩
              by_cases hjc : j = c
              · subst hjc
                simp only [Ren.upd, if_true, Option.some.injEq] at q3
                subst q3
                exact .inr ⟨id, b, tg, hb, fun _ => ho, htg, rfl⟩
              · simp only [Hp.upd, hjc, if_false, Hp.del] at q1
                simp only [Ren.upd, hjc, if_false] at q3
                split at q1
                · cases q1
                · exact .inr ⟨j, bj, tj, q1, fun h => h, q3, rfl⟩
          · -- it grows
            have hld : ∀ w0 : World, w0.heap = w.heap → (Builtin.firstCells i.size n (.slice (some ⟨tg.block, 0, none⟩) n cap)).run P w0 = .ok ((cc.toList.drop 0).take (n * i.size)).toArray w0 := by
              intro w0 h0
              have g1' : w0.heap[tg.block]? = some (.cells cc ee (0, 0)) := by rw [h0]; exact g1
              exact run_loadCells_row g1' (by omega)
            refine grown (some ⟨tg.block, 0, none⟩) n cap _ (b.cells.take (n * i.size)) hld (by omega) hmx hbb (by simp; omega) (by simp; omega) ?_ (H.del id) (fun j => by unfold Hp.del; split <;> simp)
            intro j v hv
            rw [List.getElem?_take] at hv
            split at hv
            · rename_i hj
              obtain ⟨q1, v', q2, q3⟩ := g5 j v hv
              refine ⟨q1, v', ?_, q3⟩
              rw [List.drop_zero, List.getElem?_take, if_pos hj]
              simpa using q2
            · cases hv
      · cases h
    · cases h
  · cases h
end
end Go.Eng

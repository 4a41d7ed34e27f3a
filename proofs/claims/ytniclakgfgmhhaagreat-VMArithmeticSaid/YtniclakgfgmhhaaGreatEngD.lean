/-
  THE ENGINE, part D: every operation that reads and reckons yields what 'fev' says.
-/
import Derived.Test.YtniclakgfgmhhaaGreatEngC
set_option linter.unusedVariables false
set_option linter.unusedSimpArgs false
namespace Go.Eng
section
variable {P : Program} {ρ : Ren} {H : Hp} {w : World} {T : Tm} {a : Act}

theorem boundOf_sound {d : Nat} {x : Option Value} {b : Nat} (h : boundOf d x = some b) : (x = none ∧ b = d) ∨ ∃ k n, x = some (.int k n) ∧ 0 ≤ n ∧ n.toNat = b := by
  unfold boundOf at h
  split at h
  · cases h; exact .inl ⟨rfl, rfl⟩
  · split at h
    · rename_i k n hn; cases h; exact .inr ⟨k, n, rfl, hn, rfl⟩
    · cases h
  · cases h

/-- The bounds of a slice expression. -/
theorem run_bounds {isSlice : Bool} {len cap : Nat} {lo hi lo' hi' : Option Value} {l h : Nat} (hlo : boundOf 0 lo = some l) (hhi : boundOf len hi = some h) (rlo : lo' = lo) (rhi : hi' = hi)
    (h1 : l ≤ h) (h2 : h ≤ len) (h3 : len ≤ cap) : (Instr.sliceBounds isSlice len cap lo' hi' none).run P w = .ok (l, h, cap) w := by
  subst rlo rhi
  rcases boundOf_sound hlo with ⟨rfl, rfl⟩ | ⟨k, n, rfl, hn, rfl⟩ <;> rcases boundOf_sound hhi with ⟨rfl, rfl⟩ | ⟨k', n', rfl, hn', rfl⟩
  · simp [Instr.sliceBounds]
  · simp [Instr.sliceBounds, Instr.sliceBound, asIntOf, hn', show n' ≤ (cap : Int) by omega]
  · simp [Instr.sliceBounds, Instr.sliceBound, asIntOf, hn, show n ≤ (h : Int) by omega]
  · simp [Instr.sliceBounds, Instr.sliceBound, asIntOf, hn, hn', show n' ≤ (cap : Int) by omega, show n ≤ max n' 0 by omega]

/-- An operand that may be missing, of a related frame: a bound is the same. -/
theorem bound_rel (hT : TRel ρ T a) {o : Option Operand} {x : Option Opd} (h : opdO o = some x) {d b : Nat} (hb : boundOf d (x.map (Opd.ev T)) = some b) : o.map a.eval = x.map (Opd.ev T) := by
  rcases opdO_sound hT h with ⟨rfl, rfl⟩ | ⟨y, z, rfl, rfl, hr⟩
  · rfl
  · rcases boundOf_sound hb with ⟨h1, _⟩ | ⟨k, n, h1, _⟩
    · simp at h1
    · simp only [Option.map_some, Option.some.injEq] at h1 ⊢
      rw [h1] at hr ⊢
      exact hr.int_inv

theorem slc_sound (hR : Rep ρ H w) {t e : TypeId} {i : TypeInfo} (ht : P.underlying t = some (.slice e)) (hi : P.info? e = some i) {x x' : Value} (hx : VRel ρ x x') {lo hi' : Option Value} {v : Value}
    (h : slcR H i.size x lo hi' = some v) : ∃ v', (Instr.sliceAt t x' lo hi' none).run P w = .ok v' w ∧ VRel ρ v v' := by
  have hs : (Instr.sliceAt t x' lo hi' none).run P w = (Instr.slice t x' lo hi' none).run P w := by simp [Instr.sliceAt, run_underlying ht]
  rw [hs]
  unfold slcR at h
  split at h
  · cases hx
    split at h
    · rename_i h1 h2
      cases h
      refine ⟨.slice none 0 0, ?_, .snil⟩
      simp [Instr.slice, run_underlying ht, run_bounds (P := P) (w := w) (isSlice := true) h2 h1 rfl rfl (Nat.le_refl 0) (Nat.le_refl 0) (Nat.le_refl 0), run_sizeOf hi]
    · cases h
  · rename_i id off n c
    split at h
    · rename_i hh ll h1 h2
      split at h
      · rename_i b1 b2
        rw [Nat.ble_eq] at b1 b2
        cases hx with
        | slc _ _ _ c' tg htg hc hm hr =>
          have hb := run_bounds (P := P) (w := w) (isSlice := true) (cap := c') h2 h1 rfl rfl b2 b1 hc
          have hrun : (Instr.slice t (.slice (some ⟨tg.block, tg.shift + off, none⟩) n c') lo hi' none).run P w =
              .ok (.slice (if c' = ll then some ⟨tg.block, tg.shift + off, none⟩ else some ⟨tg.block, tg.shift + off + ll * i.size, none⟩) (hh - ll) (c' - ll)) w := by
            simp [Instr.slice, run_underlying ht, hb, run_sizeOf hi, addr_add]
          refine ⟨_, hrun, ?_⟩
          simp only [] at h
          by_cases hl0 : ll = 0
          · rw [if_pos hl0] at h
            cases h
            subst hl0
            have : (if c' = 0 then some (⟨tg.block, tg.shift + off, none⟩ : Addr) else some ⟨tg.block, tg.shift + off + 0 * i.size, none⟩) = some ⟨tg.block, tg.shift + off, none⟩ := by simp
            rw [this]
            exact .slc id off hh c' tg htg (by omega) hm hr
          · rw [if_neg hl0] at h
            by_cases hlh : ll = hh
            · rw [if_pos hlh] at h
              cases h
              subst hlh
              rw [Nat.sub_self]
              split <;> exact .tail _ _ _ _
            · rw [if_neg hlh] at h
              have hne : ¬ c' = ll := by omega
              rw [if_neg hne]
              split at h
              · rename_i b hb'
                obtain ⟨cc, ee, fr, g1, g2, g3, g4, g5⟩ := hR.look hb' htg
                split at h
                · rename_i hu
                  cases h
                  have e1 : tg.shift + off + ll * i.size = tg.shift + (off + ll * i.size) := by omega
                  rw [e1]
                  refine .slc id _ _ _ tg htg (by omega) (by omega) ?_
                  rcases hu with hu | hu
                  · rcases hr with hr | hr
                    · exact .inl hr
                    · right
                      rw [g4, hu]
                      rw [g4, hu] at hr
                      have : ll * i.size + (c' - ll) * i.size = c' * i.size := by rw [← Nat.add_mul]; congr 1; omega
                      omega
                  · exact .inl (g4.trans hu)
                · cases h
              · cases h
        | tail _ _ c' ad =>
          have hb := run_bounds (P := P) (w := w) (isSlice := true) (cap := c') h2 h1 rfl rfl b2 b1 (Nat.zero_le _)
          have hrun : (Instr.slice t (.slice (some ad) 0 c') lo hi' none).run P w = .ok (.slice (if c' = ll then some ad else some (ad.add (ll * i.size))) (hh - ll) (c' - ll)) w := by
            simp [Instr.slice, run_underlying ht, hb, run_sizeOf hi]
          refine ⟨_, hrun, ?_⟩
          simp only [Option.some.injEq] at h
          subst h
          obtain rfl : hh = 0 := by omega
          rw [Nat.zero_sub]
          split <;> exact .tail _ _ _ _
      · cases h
    · cases h
  · cases h

theorem sls_sound {t : TypeId} (ht : P.underlying t = some .string) {s : ByteArray} {lo hi' : Option Value} {v : Value} (h : slsR s lo hi' = some v) :
    (Instr.sliceAt t (.string s) lo hi' none).run P w = .ok v w ∧ VRel ρ v v := by
  have hs : (Instr.sliceAt t (.string s) lo hi' none).run P w = (Instr.slice t (.string s) lo hi' none).run P w := by simp [Instr.sliceAt, run_underlying ht]
  rw [hs]
  unfold slsR at h
  split at h
  · rename_i hh ll h1 h2
    split at h
    · rename_i b1 b2
      rw [Nat.ble_eq] at b1 b2
      cases h
      refine ⟨?_, .str _⟩
      have hb := run_bounds (P := P) (w := w) (isSlice := false) (cap := s.size) h2 h1 rfl rfl b2 b1 (Nat.le_refl _)
      have he : s.extract ll hh = ⟨((s.data.toList.drop ll).take (hh - ll)).toArray⟩ := by
        apply ByteArray.ext
        rw [ByteArray.data_extract]
        apply Array.ext'
        simp only [Array.toList_extract]
      simp only [Instr.slice, Sem.run_bind, run_underlying ht, Result.andThen_ok]
      have hsz : s.data.size = s.size := rfl
      rw [hsz] at hb
      simp [hb, he]
    · cases h
  · cases h

theorem bytesOf_map : ∀ {l : List Value} {bs : List UInt8}, bytesOf l = some bs → ∃ ns : List Int, l = ns.map (Value.int .u8) ∧ bs = ns.map fun n => UInt8.ofNat n.toNat
  | [], bs, h => by simp only [bytesOf, Option.some.injEq] at h; subst h; exact ⟨[], rfl, rfl⟩
  | x :: r, bs, h => by
    unfold bytesOf at h
    split at h
    · rename_i heq; cases heq
    · rename_i n r' heq
      cases heq
      split at h
      · rename_i s hs
        cases h
        obtain ⟨ns, rfl, rfl⟩ := bytesOf_map hs
        exact ⟨n :: ns, rfl, rfl⟩
      · cases h
    · cases h

theorem foldl_push (l : List Int) : ∀ (s : ByteArray), l.foldl (fun (r : ByteArray) n => r.push (UInt8.ofNat n.toNat)) s = ⟨s.data ++ (l.map fun n => UInt8.ofNat n.toNat).toArray⟩ := by
  induction l with
  | nil => intro s; simp
  | cons n l ih =>
    intro s
    rw [List.foldl_cons, ih]
    apply ByteArray.ext
    apply Array.ext'
    simp [ByteArray.push]

theorem cvbs_sound (hR : Rep ρ H w) {s d e : TypeId} {i : TypeInfo} (hs : P.underlying s = some (.slice e)) (he : P.underlying e = some (.int .u8)) (hd : P.underlying d = some .string)
    {x x' : Value} (hx : VRel ρ x x') {id o n c : Nat} (hxe : x = .slice (some ⟨id, o, none⟩) (n + 1) c) {b : Blk} (hb : H id = some b) (hn : o + (n + 1) ≤ b.cells.length)
    {l : List UInt8} (hl : bytesOf ((b.cells.drop o).take (n + 1)) = some l) : (convert s d x').run P w = .ok (.string ⟨l.toArray⟩) w := by
  subst hxe
  cases hx with
  | slc _ _ _ c' tg htg hc hm hr =>
    obtain ⟨cc, ee, fr, g1, g2, g3, g4, g5, g6⟩ := hR.look hb htg
    obtain ⟨ns, h1, rfl⟩ := bytesOf_map hl
    have hseg := g5.seg (off := o) (n := n + 1) hn (by omega)
    have hld := run_loadCells_row (P := P) (w := w) (off := tg.shift + o) (n := n + 1) g1 (by omega)
    have hlist : ((cc.toList.drop (tg.shift + o)).take (n + 1)) = ns.map (Value.int .u8) := by
      rw [← h1]
      apply List.ext_getElem?
      intro j
      obtain ⟨hs1, hs2⟩ := hseg
      simp only [List.size_toArray] at hs1
      by_cases hj : j < ((b.cells.drop o).take (n + 1)).length
      · have e1 : ((b.cells.drop o).take (n + 1))[j]? = some (((b.cells.drop o).take (n + 1))[j]) := List.getElem?_eq_getElem hj
        have hj' : j < ((cc.toList.drop (tg.shift + o)).take (n + 1)).length := by rw [← hs1]; exact hj
        have e2 : ((cc.toList.drop (tg.shift + o)).take (n + 1))[j]? = some (((cc.toList.drop (tg.shift + o)).take (n + 1))[j]) := List.getElem?_eq_getElem hj'
        have hr := hs2 j _ _ (by rw [List.getElem?_toArray]; exact e1) (by rw [List.getElem?_toArray]; exact e2)
        rw [e1, e2]
        congr 1
        have hm : ((b.cells.drop o).take (n + 1))[j] ∈ ns.map (Value.int .u8) := by rw [← h1]; exact List.getElem_mem _
        obtain ⟨m, _, hm2⟩ := List.mem_map.1 hm
        rw [← hm2] at hr ⊢
        exact hr.int_inv
      · rw [List.getElem?_eq_none (by omega), List.getElem?_eq_none (by omega)]
    rw [run_convert_bytes_string w s d e (some ⟨tg.block, tg.shift + o, none⟩) (n + 1) c' hs he hd]
    rw [hlist] at hld
    rw [run_bytesToString w ⟨tg.block, tg.shift + o, none⟩ (n + 1) c' ns hld, foldl_push]
    simp

theorem cvbs_zero {s d e : TypeId} (hs : P.underlying s = some (.slice e)) (he : P.underlying e = some (.int .u8)) (hd : P.underlying d = some .string) (ad : Option Addr) (c : Nat) :
    (convert s d (.slice ad 0 c)).run P w = .ok (.string ⟨#[]⟩) w := by
  rw [run_convert_bytes_string w s d e ad 0 c hs he hd]
  cases ad with
  | none => simp [Conv.bytesToString]; rfl
  | some ad =>
    have hld : (loadCells ad 0).run P w = .ok (([] : List Int).map (Value.int .u8)).toArray w := by simp [loadCells, loadCellsFrom]
    rw [run_bytesToString w ad 0 c [] hld]
    rfl

theorem partsOf_sound (hT : TRel ρ T a) : ∀ {os : List (Nat × Operand)} {xs : List (Nat × Opd)}, partsOf os = some xs →
    (xs.map fun p => (p.1, p.2.ev T)).length = (os.map fun p => (p.1, a.eval p.2)).length ∧
    ∀ (i : Nat) p q, (xs.map fun p => (p.1, p.2.ev T))[i]? = some p → (os.map fun p => (p.1, a.eval p.2))[i]? = some q → p.1 = q.1 ∧ VRel ρ p.2 q.2
  | [], xs, h => by simp only [partsOf, Option.some.injEq] at h; subst h; exact ⟨rfl, by simp⟩
  | o :: os, xs, h => by
    simp only [partsOf] at h
    split at h
    · rename_i y s hy hs
      cases h
      obtain ⟨ih1, ih2⟩ := partsOf_sound hT hs
      refine ⟨by simpa using ih1, fun i p q hp hq => ?_⟩
      cases i with
      | zero => simp at hp hq; subst hp hq; exact ⟨rfl, opd_sound hT hy⟩
      | succ i => exact ih2 i p q (by simpa using hp) (by simpa using hq)
    · cases h

theorem placesOf_sound : ∀ {fs : List Field} {pl : List (Nat × Nat)}, placesOf P fs = some pl → ∀ (f : Field → Sem (Nat × Nat)), (f = fun f => do pure (f.offset, ← sizeOf f.type)) →
    (fs.mapM f).run P w = .ok pl w
  | [], pl, h, f, hf => by simp only [placesOf, Option.some.injEq] at h; subst h; simp
  | x :: fs, pl, h, f, hf => by
    simp only [placesOf] at h
    split at h
    · rename_i i s hi hs
      cases h
      have ih := placesOf_sound hs f hf
      subst hf
      simp only [List.mapM_cons, Sem.run_bind, run_sizeOf hi, Result.andThen_ok, Sem.run_pure, ih]
    · cases h

theorem bld_sound (hT : TRel ρ T a) {t : TypeId} {i : TypeInfo} (hi : P.info? t = some i) {fs : Array Field} (hu : P.underlying t = some (.struct fs)) {z : Value} (hz : i.zero = some z) (hsc : z.cells.all scal = true)
    {pl : List (Nat × Nat)} (hpl : placesOf P fs.toList = some pl) {ps : Array (Nat × Operand)} {qs : List (Nat × Opd)} (hq : partsOf ps.toList = some qs) {c : Array Value}
    (h : Instr.fill (fun i => pl[i]?) z.cells (qs.map fun p => (p.1, p.2.ev T)) = some c) :
    ∃ c', (Instr.build t (ps.map fun (i, x) => (i, a.eval x))).run P w = .ok (.agg c') w ∧ ARel ρ c c' := by
  obtain ⟨hl, hr⟩ := partsOf_sound hT hq
  obtain ⟨c', h1, h2⟩ := fill_sound (fun i => pl[i]?) _ _ z.cells z.cells c hl hr (arel_of_scal hsc) h
  refine ⟨c', ?_, h2⟩
  have hm := placesOf_sound (w := w) hpl _ rfl
  have hm' : (fs.mapM fun f => (do pure (f.offset, ← sizeOf f.type) : Sem (Nat × Nat))).run P w = .ok pl.toArray w := by
    rw [Array.mapM_eq_mapM_toList, Sem.run_map, hm, Result.andThen_ok]
  have hfun : (fun (i : Nat) => pl.toArray[i]?) = fun (i : Nat) => pl[i]? := by funext i; simp
  have hps : (ps.map fun (i, x) => (i, a.eval x)).toList = ps.toList.map fun p => (p.1, a.eval p.2) := by simp
  unfold Instr.build
  rw [Sem.run_bind, run_zeroValue hi hz, Result.andThen_ok, Sem.run_bind, run_underlying hu, Result.andThen_ok, Sem.run_bind]
  simp only []
  rw [hm', Result.andThen_ok]
  simp only [hfun, hps, h1, Sem.run_pure]

/-- **Every operation that reads and reckons**: the model's operation yields a related value, in the world that it got. -/
theorem fev_sound (hR : Rep ρ H w) (hT : TRel ρ T a) {o : Oper} {f : FOp} (htr : trF P o.op = some f) {v : Value} (h : fev H (Opd.ev T) f = some v) :
    ∃ v', (execOp a.eval o).run P w = .ok (.value v') w ∧ VRel ρ v v' := by
  obtain ⟨dst, op, ty, pos, aft, guard⟩ := o
  have wrapS : ∀ {s : Sem Value} {v' : Value}, s.run P w = .ok v' w → (do pure (Next.value (← s)) : Sem Next).run P w = .ok (.value v') w := fun hs => by
    rw [Sem.run_bind, hs]; rfl
  cases op <;> simp only [trF] at htr <;> (try (cases htr; done))
  case move x =>
    simp only [Option.map_eq_some_iff] at htr
    obtain ⟨y, hy, rfl⟩ := htr
    simp only [fev, Option.some.injEq] at h; subst h
    exact ⟨_, rfl, opd_sound hT hy⟩
  case assign x =>
    simp only [Option.map_eq_some_iff] at htr
    obtain ⟨y, hy, rfl⟩ := htr
    simp only [fev, Option.some.injEq] at h; subst h
    exact ⟨_, rfl, opd_sound hT hy⟩
  case pick c x y =>
    split at htr
    · rename_i c' x' y' hc hx hy
      cases htr
      have rc := opd_sound hT hc
      simp only [fev] at h
      split at h
      · rename_i hb; cases h; rw [hb] at rc
        exact ⟨_, by simp [execOp, rc.bool_inv, asBool], opd_sound hT hx⟩
      · rename_i hb; cases h; rw [hb] at rc
        exact ⟨_, by simp [execOp, rc.bool_inv, asBool], opd_sound hT hy⟩
      · cases h
    · cases htr
  case build t ps =>
    split at htr
    · rename_i i fs qs hi hu hq
      split at htr
      · rename_i z pl hz hpl
        split at htr
        · rename_i hsc
          cases htr
          simp only [fev] at h
          split at h
          · rename_i c hc
            cases h
            obtain ⟨c', h1, h2⟩ := bld_sound (w := w) hT hi hu hz hsc hpl hq hc
            exact ⟨_, wrapS h1, .mkAgg h2⟩
          · cases h
        · cases htr
      · cases htr
    · cases htr
  case load t x =>
    split at htr
    · rename_i y i u hy hi hu
      cases htr
      obtain ⟨v', h1, h2⟩ := ld_sound hR hi hu (opd_sound hT hy) h
      exact ⟨v', wrapS h1, h2⟩
    · cases htr
  case nilCheck x =>
    simp only [Option.map_eq_some_iff] at htr
    obtain ⟨y, hy, rfl⟩ := htr
    have rx := opd_sound hT hy
    simp only [fev] at h
    split at h
    · rename_i id off he
      cases h; rw [he] at rx
      have rx' := rx
      obtain ⟨-, tg, ht, hv⟩ := rx.ptr_inv
      exact ⟨a.eval x, by simp [execOp, hv], rx'⟩
    · rename_i g b c he
      cases h; rw [he] at rx
      have rx' := rx
      obtain ⟨b', c', hv, -, -⟩ := rx.func_inv
      exact ⟨a.eval x, by simp [execOp, hv], rx'⟩
    · cases h
  case binOp op t x y yt =>
    split at htr
    · rename_i x' y' hx hy
      have rx := opd_sound hT hx
      have ry := opd_sound hT hy
      unfold trBin at htr
      split at htr
      · rename_i hu
        split at htr
        · cases htr
          simp only [fev] at h
          split at h
          · rename_i b c e1 e2; cases h; rw [e1] at rx; rw [e2] at ry
            refine ⟨.bool (b == c), ?_, by simpa using VRel.bool _⟩
            have := (eqb_sound (w := w) (x := x) (y := y) hu b c).1
            simp only [execOp, rx.bool_inv, ry.bool_inv]
            exact wrapS this
          · cases h
        · cases htr
          simp only [fev] at h
          split at h
          · rename_i b c e1 e2; cases h; rw [e1] at rx; rw [e2] at ry
            refine ⟨.bool (!(b == c)), ?_, by cases b <;> cases c <;> exact VRel.bool _⟩
            have := (eqb_sound (w := w) (x := x) (y := y) hu b c).2
            simp only [execOp, rx.bool_inv, ry.bool_inv]
            exact wrapS this
          · cases h
        · cases htr
      · cases htr
        obtain ⟨h1, h2⟩ := bin_sound (P := P) (w := w) (t := t) (x := x) (y := y) rx ry h
        exact ⟨v, wrapS h1, h2⟩
      · cases htr
        obtain ⟨h1, h2⟩ := bin_sound (P := P) (w := w) (t := t) (x := x) (y := y) rx ry h
        exact ⟨v, wrapS h1, h2⟩
      · rename_i fs hu
        split at htr
        · rename_i ks hks
          split at htr
          · rename_i hg
            obtain ⟨g1, g2⟩ := hg
            split at htr
            · cases htr
              simp only [fev] at h
              split at h
              · rename_i b c e1 e2
                split at h
                · rename_i r hr
                  cases h; rw [e1] at rx; rw [e2] at ry
                  obtain ⟨b', hb, rb⟩ := rx.agg_inv
                  obtain ⟨c', hc, rc⟩ := ry.agg_inv
                  have := (eqa_sound (w := w) (x := x) (y := y) hu hks g1 g2 rb rc hr).1
                  refine ⟨.bool r, ?_, by simpa using VRel.bool _⟩
                  simp only [execOp, hb, hc]
                  exact wrapS this
                · cases h
              · cases h
            · cases htr
              simp only [fev] at h
              split at h
              · rename_i b c e1 e2
                split at h
                · rename_i r hr
                  cases h; rw [e1] at rx; rw [e2] at ry
                  obtain ⟨b', hb, rb⟩ := rx.agg_inv
                  obtain ⟨c', hc, rc⟩ := ry.agg_inv
                  have := (eqa_sound (w := w) (x := x) (y := y) hu hks g1 g2 rb rc hr).2
                  refine ⟨.bool (!r), ?_, by cases r <;> exact VRel.bool _⟩
                  simp only [execOp, hb, hc]
                  exact wrapS this
                · cases h
              · cases h
            · cases htr
          · cases htr
        · cases htr
      · rename_i D _ _ _ _ hu
        split at htr
        · rename_i kd hkd
          cases htr
          simp only [fev] at h
          split at h
          · rename_i r hr
            cases h
            have := (eqn_sound (w := w) (x := x) (y := y) hu hkd rx ry hr).1
            exact ⟨.bool r, wrapS this, by simpa using VRel.bool _⟩
          · cases h
        · rename_i kd hkd
          cases htr
          simp only [fev] at h
          split at h
          · rename_i r hr
            cases h
            have := (eqn_sound (w := w) (x := x) (y := y) hu hkd rx ry hr).2
            exact ⟨.bool (!r), wrapS this, by cases r <;> exact VRel.bool _⟩
          · cases h
        · cases htr
      · cases htr
    · cases htr
  case unOp op t x =>
    simp only [Option.map_eq_some_iff] at htr
    obtain ⟨y, hy, rfl⟩ := htr
    obtain ⟨h1, h2⟩ := un_sound (P := P) (w := w) (opd_sound hT hy) h
    exact ⟨v, wrapS h1, h2⟩
  case convert s d x =>
    split at htr
    · rename_i y hy
      have rx := opd_sound hT hy
      unfold trConv at htr
      split at htr
      · rename_i k1 k2 hs hd
        cases htr
        simp only [fev] at h
        split at h
        · rename_i k n he
          cases h; rw [he] at rx
          refine ⟨_, wrapS ?_, .int _ _⟩
          rw [rx.int_inv]
          simp [convert, run_underlying hs, run_underlying hd, Conv.intToInt]
        · cases h
      · rename_i hs hd
        cases htr
        simp only [fev] at h
        split at h
        · rename_i s' he
          cases h; rw [he] at rx
          refine ⟨_, wrapS ?_, .str _⟩
          rw [rx.str_inv]
          simp [convert, run_underlying hs, run_underlying hd]
        · cases h
      · rename_i e hs hd
        split at htr
        · rename_i he
          split at htr
          · rename_i i hi
            split at htr
            · rename_i hsz
              cases htr
              simp only [fev] at h
              split at h
              · rename_i hx
                cases h
                rw [hx] at rx
                cases hx' : a.eval x <;> rw [hx'] at rx <;> cases rx
                exact ⟨_, wrapS (by rw [hx']; exact cvbs_zero hs he hd _ _), .str _⟩
              · rename_i id o hx
                cases h
                rw [hx] at rx
                cases hx' : a.eval x <;> rw [hx'] at rx <;> cases rx
                exact ⟨_, wrapS (by rw [hx']; exact cvbs_zero hs he hd _ _), .str _⟩
              · rename_i id o n hx
                split at h
                · cases h
                  rw [hx] at rx
                  cases hx' : a.eval x <;> rw [hx'] at rx <;> cases rx
                  exact ⟨_, wrapS (by rw [hx']; exact cvbs_zero hs he hd _ _), .str _⟩
                · split at h
                  · rename_i b hb
                    rename_i hn _
                    split at h
                    · rename_i hle
                      rw [Nat.ble_eq] at hle
                      split at h
                      · rename_i l hl
                        cases h
                        obtain ⟨m, rfl⟩ : ∃ m, n = m + 1 := ⟨n - 1, by have : n ≠ 0 := fun e => hn (by simp [e]); omega⟩
                        exact ⟨_, wrapS (cvbs_sound hR (i := i) hs he hd rx hx hb hle hl), .str _⟩
                      · cases h
                    · cases h
                  · cases h
              · cases h
            · cases htr
          · cases htr
        · cases htr
      · cases htr
    · cases htr
  case makeFunc fn fs cs =>
    cases fn <;> simp only [] at htr <;> (try (cases htr; done))
    rename_i f'
    split at htr
    · rename_i a' c' ha hc
      cases htr
      simp only [fev, Option.some.injEq] at h
      subst h
      have r1 := opdL_sound hT ha
      have r2 := opdL_sound hT hc
      refine ⟨_, wrapS rfl, .func _ _ _ _ _ ?_ ?_ ?_ ?_⟩
      · simpa using r1.1
      · intro j x y hx hy; exact r1.2 j x y hx (by simpa using hy)
      · simpa using r2.1
      · intro j x y hx hy; exact r2.2 j x y hx (by simpa using hy)
    · cases htr
  case slice t x lo hi mx =>
    cases mx <;> simp only [] at htr <;> (try (cases htr; done))
    split at htr
    · rename_i x' lo' hi' e hx hlo hhi ht
      simp only [Option.map_eq_some_iff] at htr
      obtain ⟨inf, hinf, rfl⟩ := htr
      have rx := opd_sound hT hx
      simp only [fev] at h
      have hb : ∃ l h', boundOf 0 (lo'.map (Opd.ev T)) = some l ∧ (∃ d, boundOf d (hi'.map (Opd.ev T)) = some h') := by
        unfold slcR at h
        split at h
        · split at h
          · rename_i h1 h2; exact ⟨_, _, h2, _, h1⟩
          · cases h
        · split at h
          · rename_i h1 h2; exact ⟨_, _, h2, _, h1⟩
          · cases h
        · cases h
      obtain ⟨l, h', b1, d, b2⟩ := hb
      obtain ⟨v', h1, h2⟩ := slc_sound hR ht hinf rx h
      refine ⟨v', wrapS ?_, h2⟩
      rw [bound_rel hT hlo b1, bound_rel hT hhi b2]
      exact h1
    · rename_i x' lo' hi' hx hlo hhi ht
      cases htr
      have rx := opd_sound hT hx
      simp only [fev] at h
      split at h
      · rename_i s he
        rw [he] at rx
        have hb : ∃ l h', boundOf 0 (lo'.map (Opd.ev T)) = some l ∧ (∃ d, boundOf d (hi'.map (Opd.ev T)) = some h') := by
          unfold slsR at h
          split at h
          · rename_i h1 h2; exact ⟨_, _, h2, _, h1⟩
          · cases h
        obtain ⟨l, h', b1, d, b2⟩ := hb
        obtain ⟨h1, h2⟩ := sls_sound (w := w) ht h
        refine ⟨v, wrapS ?_, h2⟩
        rw [bound_rel hT hlo b1, bound_rel hT hhi b2, rx.str_inv]
        exact h1
      · cases h
    · cases htr
  case fieldAddr s x k =>
    split at htr
    · rename_i y fs hy hu
      split at htr
      · rename_i f hf
        split at htr
        · rename_i i hi
          split at htr
          · cases htr
          · rename_i hsz
            cases htr
            have rx := opd_sound hT hy
            simp only [fev] at h
            split at h
            · rename_i id off he
              cases h; rw [he] at rx
              obtain ⟨-, tg, ht, hv⟩ := rx.ptr_inv
              refine ⟨.pointer (some ⟨tg.block, tg.shift + off + f.offset, none⟩), wrapS ?_, ?_⟩
              · rw [hv]
                simp [Instr.fieldAt, run_underlying hu, hf, Instr.sureAddr, fieldPlace, run_sizeOf hi, hsz, addr_add]
              · rw [show tg.shift + off + f.offset = tg.shift + (off + f.offset) by omega]
                exact .ptr _ _ _ ht
            · cases h
        · cases htr
      · cases htr
    · cases htr
  case field t x k =>
    split at htr
    · rename_i y fs hy hu
      split at htr
      · rename_i f hf
        split at htr
        · rename_i i u hi hu'
          cases htr
          have rx := opd_sound hT hy
          simp only [fev] at h
          split at h
          · rename_i cs he
            rw [he] at rx
            obtain ⟨cs', hv, rc⟩ := rx.agg_inv
            obtain ⟨v', h1, h2⟩ := part_sound (w := w) hi hu' rc h
            refine ⟨v', wrapS ?_, h2⟩
            rw [hv]
            simp only [Instr.field, Sem.run_bind, run_underlying hu, Result.andThen_ok, hf, asAgg, Sem.run_pure, h1]
          · cases h
        · cases htr
      · cases htr
    · cases htr
  case indexAddr t x i =>
    split at htr
    · rename_i x' i' e hx hi ht
      simp only [Option.map_eq_some_iff] at htr
      obtain ⟨inf, hinf, rfl⟩ := htr
      have rx := opd_sound hT hx
      have ri := opd_sound hT hi
      simp only [fev] at h
      split at h
      · rename_i id off n c k j e1 e2
        split at h
        · rename_i hj
          cases h
          rw [e1] at rx; rw [e2] at ri
          have hi' := ri.int_inv
          cases hx' : a.eval x <;> rw [hx'] at rx <;> cases rx
          · rename_i cap tg htg hm hr hc
            refine ⟨.pointer (some ⟨tg.block, tg.shift + off + j.toNat * inf.size, none⟩), wrapS ?_, ?_⟩
            · rw [hx', hi']
              simp [Instr.indexAt, asIntOf, run_underlying ht, hj, run_sizeOf hinf, addr_add]
            · rw [show tg.shift + off + j.toNat * inf.size = tg.shift + (off + j.toNat * inf.size) by omega]
              exact .ptr _ _ _ htg
          · omega
        · cases h
      · cases h
    · rename_i x' i' n e hx hi ht
      simp only [Option.map_eq_some_iff] at htr
      obtain ⟨inf, hinf, rfl⟩ := htr
      have rx := opd_sound hT hx
      have ri := opd_sound hT hi
      simp only [fev] at h
      split at h
      · rename_i id off k j e1 e2
        split at h
        · rename_i hj
          cases h
          rw [e1] at rx; rw [e2] at ri
          have hi' := ri.int_inv
          obtain ⟨-, tg, htg, hv⟩ := rx.ptr_inv
          refine ⟨.pointer (some ⟨tg.block, tg.shift + off + j.toNat * inf.size, none⟩), wrapS ?_, ?_⟩
          · rw [hv, hi']
            simp [Instr.indexAt, asIntOf, run_underlying ht, hj, run_sizeOf hinf, addr_add, Instr.sureAddr]
          · rw [show tg.shift + off + j.toNat * inf.size = tg.shift + (off + j.toNat * inf.size) by omega]
            exact .ptr _ _ _ htg
        · cases h
      · cases h
    · cases htr
  case index t x i =>
    split at htr
    · rename_i x' i' hx hi ht
      cases htr
      have rx := opd_sound hT hx
      have ri := opd_sound hT hi
      simp only [fev] at h
      split at h
      · rename_i s k j e1 e2
        split at h
        · rename_i hj
          split at h
          · rename_i b hb
            cases h
            rw [e1] at rx; rw [e2] at ri
            refine ⟨.int .u8 b.toNat, wrapS ?_, .int _ _⟩
            rw [rx.str_inv, ri.int_inv]
            have hlt : j.toNat < s.data.size := by
              have := (List.getElem?_eq_some_iff.1 hb).1; simpa using this
            have hb' : s[j.toNat]? = some b := by
              rw [ByteArray.getElem?_lt' s j.toNat hlt]
              have : s.data[j.toNat]? = some b := by simpa using hb
              rw [Array.getElem?_eq_getElem hlt] at this
              exact this
            simp [Instr.index, asIntOf, run_underlying ht, hj, hb']
          · cases h
        · cases h
      · cases h
    · cases htr
  case extract x i =>
    simp only [Option.map_eq_some_iff] at htr
    obtain ⟨y, hy, rfl⟩ := htr
    have rx := opd_sound hT hy
    simp only [fev] at h
    split at h
    · rename_i vs he
      rw [he] at rx
      obtain ⟨vs', hv, rv⟩ := rx.tup_inv
      obtain ⟨u, hu, r⟩ := rv.get h
      exact ⟨u, wrapS (by rw [hv]; simp [Instr.extract, hu]), r⟩
    · cases h
  case call c =>
    obtain ⟨callee, args, ats⟩ := c
    cases callee with
    | value f => simp only [] at htr; cases htr
    | invoke r m => simp only [] at htr; cases htr
    | builtin b =>
      cases b <;> simp only [] at htr <;> (try (cases htr; done))
      case len =>
        split at htr
        · rename_i x t hargs hats
          obtain rfl : args = #[x] := by apply Array.ext'; simpa using hargs
          obtain rfl : ats = #[t] := by apply Array.ext'; simpa using hats
          split at htr
          · rename_i y e hy ht
            cases htr
            have rx := opd_sound hT hy
            simp only [fev] at h
            split at h
            · rename_i b n c he
              cases h; rw [he] at rx
              refine ⟨.int .i64 n, ?_, .int _ _⟩
              cases hx' : a.eval x <;> rw [hx'] at rx <;> cases rx <;>
                simp [execOp, resolve, invoke, builtin, Builtin.len_, hx', run_underlying ht, goInt]
            · cases h
          · rename_i y hy ht
            cases htr
            have rx := opd_sound hT hy
            simp only [fev] at h
            split at h
            · rename_i s he
              cases h; rw [he] at rx
              have hsz : (s.data.toList.length : Int) = (s.size : Int) := by rw [Array.length_toList]; rfl
              refine ⟨.int .i64 s.data.toList.length, ?_, .int _ _⟩
              simp only [execOp, resolve, invoke, builtin, List.map_toArray, List.map_cons, List.map_nil, rx.str_inv, Sem.run_bind, Sem.run_pure, Result.andThen_ok]
              simp [Builtin.len_, run_underlying ht, goInt, hsz]
            · cases h
          · cases htr
        · cases htr
      case max =>
        split at htr
        · rename_i x y hargs
          obtain rfl : args = #[x, y] := by apply Array.ext'; simpa using hargs
          split at htr
          · rename_i x' y' hx hy
            cases htr
            have rx := opd_sound hT hx
            have ry := opd_sound hT hy
            simp only [fev] at h
            split at h
            · rename_i k n k' m e1 e2
              cases h; rw [e1] at rx; rw [e2] at ry
              refine ⟨_, ?_, .int _ _⟩
              simp only [execOp, resolve, invoke, builtin, List.map_toArray, List.map_cons, List.map_nil, rx.int_inv, ry.int_inv, Sem.run_bind, Sem.run_pure, Result.andThen_ok, run_max_int2]
            · cases h
          · cases htr
        · cases htr
      case min =>
        split at htr
        · rename_i x y hargs
          obtain rfl : args = #[x, y] := by apply Array.ext'; simpa using hargs
          split at htr
          · rename_i x' y' hx hy
            cases htr
            have rx := opd_sound hT hx
            have ry := opd_sound hT hy
            simp only [fev] at h
            split at h
            · rename_i k n k' m e1 e2
              cases h; rw [e1] at rx; rw [e2] at ry
              refine ⟨_, ?_, .int _ _⟩
              simp only [execOp, resolve, invoke, builtin, List.map_toArray, List.map_cons, List.map_nil, rx.int_inv, ry.int_inv, Sem.run_bind, Sem.run_pure, Result.andThen_ok, run_min_int2]
            · cases h
          · cases htr
        · cases htr
end
end Go.Eng

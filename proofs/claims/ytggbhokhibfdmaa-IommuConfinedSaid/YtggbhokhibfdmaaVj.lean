/- Slices that are made and grow: append, make, copy, clear, literals, slices of slices, over owned blocks. Conditions: none. -/
import Derived.Test.YtggbhokhibfdmaaVi
import Derived.Deep.AppendSrc
import Derived.Laws.MakeOwn
import Derived.Laws.Append
set_option linter.unusedVariables false
set_option linter.unusedSimpArgs false
set_option linter.unusedSectionVars false
namespace Go.Proofs.Ytggbhokhibfdmaa
namespace Vc
/-- A slice type: its elements' type, cells, bytes, and their zero value. -/
structure SlI (P : Program) (t e n bytes : Nat) (zs : List Value) : Prop where
  el : P.underlying t = some (.slice e)
  info : ∃ i z, P.info? e = some i ∧ i.zero = some z ∧ i.size = n ∧ i.bytes = bytes ∧ z.cells.toList = zs
  len : zs.length = n
  one : ∀ v, v ∈ zs → v.oneCell' = true
  lt : isC e = true
theorem SlI.of {P : Program} {t e n bytes : Nat} {zs : List Value} (hu : P.underlying t = some (.slice e)) (hi : (P.info? e).map (fun i => (i.size, i.bytes)) = some (n, bytes))
    (hz : (P.info? e).bind (fun i => i.zero.map (fun v => v.cells.toList)) = some zs) (hl : zs.length = n) (h1 : zs.all (·.oneCell') = true) (hlt : isC e = true) : SlI P t e n bytes zs := by
  refine ⟨hu, ?_, hl, fun v hv => List.all_eq_true.1 h1 v hv, hlt⟩
  obtain ⟨i, h2, h3⟩ := Option.map_eq_some_iff.1 hi
  rw [h2] at hz
  obtain ⟨z, h4, h5⟩ := Option.map_eq_some_iff.1 hz
  simp only [Prod.mk.injEq] at h3
  exact ⟨i, z, h2, h4, h3.1, h3.2, h5⟩

/-- What a source of elements yields. -/
def Rdy (P : Program) (w0 : World) (I : List Nat) (L : Hs) (n : Nat) (tx : TypeId) (x : Value) (k : Nat) (news : List Value) : Prop := ∀ w, Hp w0 I w L → Src P n tx x k news w

theorem Hp.renew {w0 w : World} {I : List Nat} {L : Hs} (hw : Hp w0 I w L) {i : Nat} {e : Ent} (hi : L[i]? = some e) (t : TypeId) (cs : List Value) (ht : isC t = true) :
    Hp w0 I (w.alloc (.cells cs.toArray t)) (L.set i ⟨w.heap.size, t, cs⟩) := by
  have h1 : Own w [e] := ⟨by simp, by simpa using hw.cells e (List.mem_iff_getElem?.2 ⟨i, hi⟩)⟩
  have h2 := (h1.hp.alloc t cs ht).subs (L1 := [⟨w.heap.size, t, cs⟩]) ⟨[1], rfl, rfl⟩
  have h3 := hw.mrgR (is := [i]) (Lc := [e]) (by simp [sel, hi]) h2 (by simp)
  simpa [Vc.mrg] using h3
theorem Hp.drew {w0 w : World} {I : List Nat} {L : Hs} (h : Hp w0 I w L) : Hp w0 I w.drew L := h.drawn _

/-- n elements of zeros. -/
def zeros (n : Nat) (zs : List Value) : List Value := (List.replicate n zs).flatten
theorem zeros_length {n k : Nat} {zs : List Value} (h : zs.length = k) : (zeros n zs).length = n * k := by simp [zeros, h]
theorem zeros_one (n : Nat) (z : Value) : zeros n [z] = List.replicate n z := by
  induction n with
  | zero => rfl
  | succ n ih => rw [List.replicate_succ, ← ih]; rfl
theorem zeros_all {n : Nat} {zs : List Value} (h : ∀ v, v ∈ zs → v.oneCell' = true) : ∀ v, v ∈ zeros n zs → v.oneCell' = true := by
  intro v hv
  simp only [zeros, List.mem_flatten, List.mem_replicate] at hv
  obtain ⟨l, ⟨_, rfl⟩, hl⟩ := hv
  exact h v hl
theorem cyc_eq (z : Array Value) (n : Nat) : ((Array.range (n * z.size)).map (fun i => z[i % z.size]!)).toList = zeros n z.toList := by
  induction n with
  | zero => simp [zeros]
  | succ n ih =>
    have e : zeros (n + 1) z.toList = zeros n z.toList ++ z.toList := by
      simp only [zeros]
      rw [List.replicate_succ', List.flatten_append]
      simp
    rw [e, ← ih, Nat.succ_mul]
    apply List.ext_getElem?
    intro i
    simp only [Array.toList_map, Array.toList_range, List.getElem?_map]
    rcases Nat.lt_or_ge i (n * z.size) with h | h
    · rw [List.getElem?_append_left (by simp; exact h), List.getElem?_map, List.getElem?_range (by omega), List.getElem?_range h]
    · rw [List.getElem?_append_right (by simp; exact h)]
      simp only [List.length_map, List.length_range]
      rcases Nat.lt_or_ge i (n * z.size + z.size) with h2 | h2
      · rw [List.getElem?_range h2]
        simp only [Option.map_some]
        have h3 : i % z.size = i - n * z.size := by
          have : i = z.size * n + (i - n * z.size) := by rw [Nat.mul_comm z.size]; omega
          rw [this, Nat.mul_add_mod, Nat.mod_eq_of_lt (by rw [← Nat.mul_comm n] at *; omega), ← this]
        rw [h3]
        have h4 : i - n * z.size < z.size := by omega
        rw [Array.getElem?_toList, Array.getElem?_eq_getElem h4, getElem!_pos z _ h4]
      · rw [List.getElem?_eq_none (by simp; omega), List.getElem?_eq_none (by simp; omega)]
        rfl

section
variable {P : Program} {w0 : World} {I : List Nat} {L : Hs}

/-- append onto an owned block: in place, or anew; the block's name may change. -/
theorem YW.append {t tx e n bytes b len cap k : Nat} {zs olds sl news : List Value} {x : Value} {K : Value → Hs → Prop} (hT : SlI P t e n bytes zs) (i : Nat) (hi : cAt L i = some ⟨b, e, olds ++ sl⟩)
    (ho : olds.length = len * n) (hc : olds.length + sl.length = cap * n) (hle : len ≤ cap) (hs : Rdy P w0 I L n tx x k news) (hb : (len + k) * bytes ≤ 140737488355328 ∧ len + k ≤ 140737488355328)
    (kk : ∀ b' cap' sl', len + k ≤ cap' → olds.length + news.length + sl'.length = cap' * n → K (.slice (some ⟨b', 0, none⟩) (len + k) cap') (L.set i ⟨b', e, (olds ++ news) ++ sl'⟩)) :
    YW P w0 I L (.append #[t, tx] [.slice (some ⟨b, 0, none⟩) len cap, x]) K := by
  obtain ⟨hu, ⟨ti, z, hti, hz, hsz, hby, hzc⟩, hzl, hz1, hlt⟩ := hT
  subst hsz hby
  refine ⟨fun w hw => ?_⟩
  have hsw := hs w hw
  obtain ⟨hi, hisc⟩ := cAt_spec hi
  have hmem : (⟨b, e, olds ++ sl⟩ : Ent) ∈ L := List.mem_iff_getElem?.2 ⟨i, hi⟩
  have hg := hw.cells _ hmem
  rw [Ent.obj_c hisc] at hg
  by_cases hroom : len + k ≤ cap
  · have hfit : len * ti.size + news.length ≤ (olds ++ sl).toArray.size := by
      rw [hsw.newsLen, ← Nat.add_mul]
      simp only [List.size_toArray, List.length_append, hc]
      exact Nat.mul_le_mul_right _ hroom
    have hst := run_storeCells_at P b (len * ti.size) e news 0 (olds ++ sl).toArray w hg (by simpa using hfit) hsw.one
    simp only [Nat.add_zero] at hst
    have hr : (Builtin.append_ #[t, tx] 0 #[.slice (some ⟨b, 0, none⟩) len cap, x]).run P w = .ok (.slice (some ⟨b, 0, none⟩) (len + k) cap)
        (w.setRow b ((olds ++ sl).take (len * ti.size) ++ news ++ (olds ++ sl).drop (len * ti.size + news.length)).toArray) := by
      rcases hsw.kind with ⟨e', hk⟩ | hk <;> simp [Builtin.append_, run_underlying hu, run_underlying hk, sizeOf, typeInfo, hti, hsw.len, hroom, hsw.cells, Addr.add_lit, hst]
    have e1 : (olds ++ sl).take (len * ti.size) ++ news ++ (olds ++ sl).drop (len * ti.size + news.length) = (olds ++ news) ++ sl.drop news.length := by
      rw [← ho, List.take_left, ← List.drop_drop, List.drop_left]
    rw [e1] at hr
    refine ⟨_, _, _, hr, hw.setRow hi hisc _, kk b cap (sl.drop news.length) hroom ?_⟩
    rw [List.length_drop]
    simp only [List.size_toArray, List.length_append, ← ho] at hfit
    omega
  · have hcells : (olds.length ≤ (olds ++ sl).length) := by simp
    have hold : (Builtin.firstCells ti.size len (.slice (some ⟨b, 0, none⟩) len cap)).run P w.drew = .ok olds.toArray w.drew := by
      refine run_firstCells_some w.drew ti.size len _ len cap olds ho (fun j v hj => ?_)
      rw [Addr.add_lit, Nat.zero_add]
      refine hw.drew.cell hmem hisc ?_
      rw [List.getElem?_append_left (List.getElem?_eq_some_iff.1 hj).1]
      exact hj
    have hr := run_append_grow_src (P := P) w t tx 0 e ti z hu hti hz (some ⟨b, 0, none⟩) len cap olds hold x k news hsw (by omega) (by omega) (growslice_fits (by omega) hb.1)
    have hge := grownCap_ge w (len + k) cap e
    have e1 : ((olds ++ news).toArray ++ Builtin.zeroCells z.cells (grownCap w (len + k) cap e - (len + k))) = ((olds ++ news) ++ (Builtin.zeroCells z.cells (grownCap w (len + k) cap e - (len + k))).toList).toArray := by
      apply Array.ext'; simp
    rw [e1] at hr
    refine ⟨_, _, _, hr, hw.drew.renew hi e _ hlt, kk _ _ _ hge ?_⟩
    have hz2 : z.cells.size = ti.size := by rw [← hzl, ← hzc]; simp
    have hz3 : (Builtin.zeroCells z.cells (grownCap w (len + k) cap e - (len + k))).toList.length = (grownCap w (len + k) cap e - (len + k)) * ti.size := by rw [Array.length_toList, size_zeroCells, hz2]
    rw [hz3, hsw.newsLen, ho, ← Nat.add_mul, ← Nat.add_mul]
    congr 1
    omega

/-- append onto an owned block that is empty. -/
theorem YW.appendE {t tx e n bytes b k : Nat} {zs news : List Value} {x : Value} {K : Value → Hs → Prop} (hT : SlI P t e n bytes zs) (i : Nat) (hi : cAt L i = some ⟨b, e, []⟩)
    (hs : Rdy P w0 I L n tx x k news) (hb : k * bytes ≤ 140737488355328 ∧ k ≤ 140737488355328)
    (kk : ∀ b' cap' sl', k ≤ cap' → news.length + sl'.length = cap' * n → K (.slice (some ⟨b', 0, none⟩) k cap') (L.set i ⟨b', e, news ++ sl'⟩)) :
    YW P w0 I L (.append #[t, tx] [.slice (some ⟨b, 0, none⟩) 0 0, x]) K :=
  YW.append (olds := []) (sl := []) hT i hi (by simp) (by simp) (Nat.le_refl _) hs (by rw [Nat.zero_add]; exact hb) (fun b' cap' sl' h1 h2 => by
    rw [Nat.zero_add] at h1 ⊢
    rw [List.nil_append]
    exact kk b' cap' sl' h1 (by simpa using h2))
/-- append onto nothing: a new block. -/
theorem YW.append0 {t tx e n bytes k : Nat} {zs news : List Value} {x : Value} {K : Value → Hs → Prop} (hT : SlI P t e n bytes zs) (hs : Rdy P w0 I L n tx x k news) (h0 : 0 < k) (hb : k * bytes ≤ 140737488355328 ∧ k ≤ 140737488355328)
    (kk : ∀ b' cap' sl', k ≤ cap' → news.length + sl'.length = cap' * n → K (.slice (some ⟨b', 0, none⟩) k cap') (L ++ [⟨b', e, news ++ sl'⟩])) :
    YW P w0 I L (.append #[t, tx] [.slice none 0 0, x]) K := by
  obtain ⟨hu, ⟨ti, z, hti, hz, hsz, hby, hzc⟩, hzl, hz1, hlt⟩ := hT
  subst hsz hby
  refine ⟨fun w hw => ?_⟩
  have hsw := hs w hw
  have hr := run_append_grow_src (P := P) w t tx 0 e ti z hu hti hz none 0 0 [] (run_firstCells_none w.drew ti.size 0 0 0) x k news hsw (by omega) (by omega) (growslice_fits (by omega) (by simpa using hb.1))
  simp only [Nat.zero_add, List.nil_append] at hr
  have hge := grownCap_ge w k 0 e
  have e1 : (news.toArray ++ Builtin.zeroCells z.cells (grownCap w k 0 e - k)) = (news ++ (Builtin.zeroCells z.cells (grownCap w k 0 e - k)).toList).toArray := by
    apply Array.ext'; simp
  rw [e1] at hr
  refine ⟨_, _, _, hr, hw.drew.alloc e _ hlt, kk _ _ _ hge ?_⟩
  have hz2 : z.cells.size = ti.size := by rw [← hzl, ← hzc]; simp
  have hz3 : (Builtin.zeroCells z.cells (grownCap w k 0 e - k)).toList.length = (grownCap w k 0 e - k) * ti.size := by rw [Array.length_toList, size_zeroCells, hz2]
  rw [hz3, hsw.newsLen, ← Nat.add_mul]
  congr 1
  omega
/-- append of nothing onto nothing. -/
theorem YW.append00 {t tx e n bytes : Nat} {zs news : List Value} {x : Value} {K : Value → Hs → Prop} (hT : SlI P t e n bytes zs) (hs : Rdy P w0 I L n tx x 0 news) (kk : K (.slice none 0 0) L) :
    YW P w0 I L (.append #[t, tx] [.slice none 0 0, x]) K := by
  obtain ⟨hu, ⟨ti, z, hti, hz, hsz, hby, hzc⟩, hzl, hz1, hlt⟩ := hT
  subst hsz hby
  refine ⟨fun w hw => ?_⟩
  have hsw := hs w hw
  refine ⟨.slice none 0 0, w, L, ?_, hw, kk⟩
  show (Builtin.append_ #[t, tx] 0 #[.slice none 0 0, x]).run P w = _
  rcases hsw.kind with ⟨e', hk⟩ | hk <;> simp [Builtin.append_, run_underlying hu, run_underlying hk, sizeOf, typeInfo, hti, hsw.len, hsw.cells]

/-! ### Sources -/
theorem Rdy.own {n tx e' b o k c : Nat} {ty : Nat} {cs news : List Value} (hk : P.underlying tx = some (.slice e')) (i : Nat) (hi : cAt L i = some ⟨b, ty, cs⟩) (hn : (cs.drop o).take (k * n) = news) (hl : news.length = k * n)
    (h1 : ∀ v, v ∈ news → v.oneCell' = true) : Rdy P w0 I L n tx (.slice (some ⟨b, o, none⟩) k c) k news := by
  intro w hw
  refine Src.ofSlice w hk ⟨b, o, none⟩ k c news hl (fun j v hj => ?_) h1
  rw [add_plain]
  refine hw.cell (e := ⟨b, ty, cs⟩) (List.mem_iff_getElem?.2 ⟨i, (cAt_spec hi).1⟩) (cAt_spec hi).2 ?_
  subst hn
  rw [List.getElem?_take] at hj
  split at hj
  · rw [List.getElem?_drop] at hj; exact hj
  · simp at hj
theorem Rdy.nil {n tx e' c : Nat} (hk : P.underlying tx = some (.slice e')) : Rdy P w0 I L n tx (.slice none 0 c) 0 [] := fun w hw => Src.ofNil w hk c
theorem Rdy.str {tx : Nat} (hk : P.underlying tx = some .string) (s : ByteArray) : Rdy P w0 I L 1 tx (.string s) s.size (byteCells s) := fun w hw => Src.ofString w hk s
theorem arr_cells {α : Type} {w : World} {n : Nat} {g : α → List Value} {a : Addr} {ls : List α} (hg : ∀ x, (g x).length = n) (h : Arr w n g (some a) ls) : At w a (rows g ls) := by
  intro c u hc
  have hlt := (List.getElem?_eq_some_iff.1 hc).1
  rw [rows_length hg] at hlt
  have hn : 0 < n := by
    rcases Nat.eq_zero_or_pos n with h0 | h0
    · subst h0; simp at hlt
    · exact h0
  have hq : c / n < ls.length := Nat.div_lt_of_lt_mul (by rw [Nat.mul_comm]; exact hlt)
  obtain ⟨ad, had, hA⟩ := h (c / n) ls[c / n] (List.getElem?_eq_getElem hq)
  simp at had
  subst had
  have hmod : c / n * n + c % n = c := Nat.div_add_mod' c n
  have hcell : (g ls[c / n])[c % n]? = some u := by
    have h2 := rows_cell (tl := []) hg (List.getElem?_eq_getElem hq) (c := c % n) (v := (g ls[c / n])[c % n]'(by rw [hg]; exact Nat.mod_lt _ hn)) (by rw [List.getElem?_eq_getElem])
    rw [List.append_nil, hmod, hc] at h2
    rw [List.getElem?_eq_getElem (by rw [hg]; exact Nat.mod_lt _ hn)]
    exact h2.symm
  have h3 := hA (c % n) u hcell
  rw [Deep.add_add, hmod] at h3
  exact h3
theorem Rdy.arr {α : Type} {n tx e' k c : Nat} {g : α → List Value} {a : Option Addr} {ls : List α} (hk : P.underlying tx = some (.slice e')) (hg : ∀ x, (g x).length = n) (h1 : ∀ x, (g x).all (·.oneCell') = true) (ha : Arr w0 n g a ls) (hl : ls.length = k) :
    Rdy P w0 [] L n tx (.slice a k c) k (rows g ls) := by
  intro w hw
  cases a with
  | none =>
    cases ls with
    | nil => subst hl; exact Src.ofNil w hk c
    | cons x r => obtain ⟨ad, h2, _⟩ := ha 0 x rfl; cases h2
  | some ad =>
    refine Src.ofSlice w hk ad k c _ (by rw [rows_length hg, hl]) (fun j u hj => hw.far (arr_cells hg ha j u hj)) ?_
    intro u hu
    simp only [rows, List.mem_flatten, List.mem_map] at hu
    obtain ⟨l, ⟨x, _, rfl⟩, hl2⟩ := hu
    exact List.all_eq_true.1 (h1 x) u hl2

/-! ### make, clear, copy -/
theorem YW.make {t e n bytes m : Nat} {zs : List Value} {kl kc : IntKind} {l c : Int} {K : Value → Hs → Prop} (hT : SlI P t e n bytes zs) (hm : l = m ∧ c = m) (hb : bytes * m ≤ 281474976710656 ∧ m ≤ 281474976710656)
    (kk : ∀ b, K (.slice (some ⟨b, 0, none⟩) m m) (L ++ [⟨b, e, zeros m zs⟩])) : YW P w0 I L (.mslice t (.int kl l) (.int kc c)) K := by
  obtain ⟨hu, ⟨ti, z, hti, hz, hsz, hby, hzc⟩, hzl, hz1, hlt⟩ := hT
  obtain ⟨rfl, rfl⟩ := hm
  subst hsz hby
  refine ⟨fun w hw => ?_⟩
  have hb' : (ti.bytes : Int) * (m : Int) ≤ 281474976710656 := by
    have h : ((ti.bytes * m : Nat) : Int) ≤ 281474976710656 := by omega
    rwa [Int.natCast_mul] at h
  have hr := run_make (P := P) w t e ti z hu hti hz kl kc m m (by omega) (Int.le_refl _) hb' (by omega)
  have hz2 : z.cells.size = ti.size := by rw [← hzl, ← hzc]; simp
  have e1 : madeCells z.cells ((m : Int).toNat * ti.size) = (zeros m zs).toArray := by
    apply Array.ext'
    rw [Int.toNat_natCast, ← hz2, ← hzc]
    exact cyc_eq z.cells m
  rw [e1] at hr
  exact ⟨_, _, _, hr, hw.alloc e _ hlt, kk _⟩
theorem YW.clear {t e n bytes b o len cap ty : Nat} {zs cs : List Value} {K : Value → Hs → Prop} (hT : SlI P t e n bytes zs) (i : Nat) (hi : cAt L i = some ⟨b, ty, cs⟩) (ho : o + len * n ≤ cs.length)
    (kk : K (.tuple #[]) (L.set i ⟨b, ty, cs.take o ++ zeros len zs ++ cs.drop (o + len * n)⟩)) : YW P w0 I L (.clear #[t] [.slice (some ⟨b, o, none⟩) len cap]) K := by
  obtain ⟨hu, ⟨ti, z, hti, hz, hsz, hby, hzc⟩, hzl, hz1, hlt⟩ := hT
  subst hsz hby
  refine ⟨fun w hw => ?_⟩
  obtain ⟨hi, hisc⟩ := cAt_spec hi
  have hmem : (⟨b, ty, cs⟩ : Ent) ∈ L := List.mem_iff_getElem?.2 ⟨i, hi⟩
  have hg := hw.cells _ hmem
  rw [Ent.obj_c hisc] at hg
  have hz2 : z.cells.size = ti.size := by rw [← hzl, ← hzc]; simp
  cases len with
  | zero =>
    refine ⟨.tuple #[], w, L, ?_, hw, ?_⟩
    · show (Builtin.clear_ #[t] 0 #[.slice (some ⟨b, o, none⟩) 0 cap]).run P w = _
      simp [Builtin.clear_, run_underlying hu]
    · have e1 : L.set i ⟨b, ty, cs.take o ++ zeros 0 zs ++ cs.drop (o + 0 * ti.size)⟩ = L := by
        have : cs.take o ++ zeros 0 zs ++ cs.drop (o + 0 * ti.size) = cs := by simp [zeros]
        rw [this]
        apply List.ext_getElem?
        intro j
        by_cases hj : i = j
        · subst hj
          rw [List.getElem?_set_self', hi]
          rfl
        · rw [List.getElem?_set_ne hj]
      rwa [e1] at kk
  | succ len =>
    have hzz : (Builtin.zeroCells z.cells (len + 1)).toList = zeros (len + 1) zs := by
      rw [← hzc, ← cyc_eq z.cells (len + 1)]
      rfl
    have hlz : (zeros (len + 1) zs).length = (len + 1) * ti.size := zeros_length hzl
    have hst := run_storeCells_at P b o ty (zeros (len + 1) zs) 0 cs.toArray w hg (by rw [hlz]; simpa using ho) (zeros_all hz1)
    simp only [Nat.add_zero, hlz] at hst
    refine ⟨.tuple #[], _, _, ?_, hw.setRow hi hisc _, kk⟩
    show (Builtin.clear_ #[t] 0 #[.slice (some ⟨b, o, none⟩) (len + 1) cap]).run P w = _
    simp [Builtin.clear_, run_underlying hu, zeroValue, typeInfo, hti, hz, hzz, hst]
/-- copy into an owned block: all is read before anything is written. -/
theorem YW.copy {t tx e n bytes b o dLen dCap k m ty : Nat} {zs cs news : List Value} {x : Value} {K : Value → Hs → Prop} (hT : SlI P t e n bytes zs) (i : Nat) (hi : cAt L i = some ⟨b, ty, cs⟩) (hs : Rdy P w0 I L n tx x k news)
    (hf : ∀ w, Hp w0 I w L → (Builtin.firstCells n m x).run P w = .ok (news.take (m * n)).toArray w) (hm : Nat.min k dLen = m) (ho : o + m * n ≤ cs.length)
    (kk : K (.int .i64 m) (L.set i ⟨b, ty, cs.take o ++ news.take (m * n) ++ cs.drop (o + m * n)⟩)) : YW P w0 I L (.copy #[t, tx] [.slice (some ⟨b, o, none⟩) dLen dCap, x]) K := by
  obtain ⟨hu, ⟨ti, z, hti, hz, hsz, hby, hzc⟩, hzl, hz1, hlt⟩ := hT
  subst hsz hby
  refine ⟨fun w hw => ?_⟩
  have hsw := hs w hw
  obtain ⟨hi, hisc⟩ := cAt_spec hi
  have hmem : (⟨b, ty, cs⟩ : Ent) ∈ L := List.mem_iff_getElem?.2 ⟨i, hi⟩
  have hg := hw.cells _ hmem
  rw [Ent.obj_c hisc] at hg
  have hmk : m ≤ k := by rw [← hm]; exact Nat.min_le_left _ _
  have hnl : (news.take (m * ti.size)).length = m * ti.size := by
    rw [List.length_take, hsw.newsLen]
    exact Nat.min_eq_left (Nat.mul_le_mul_right _ hmk)
  have hst := run_storeCells_at P b o ty (news.take (m * ti.size)) 0 cs.toArray w hg (by rw [hnl]; simpa using ho) (fun u hu => hsw.one u (List.mem_of_mem_take hu))
  simp only [Nat.add_zero, hnl] at hst
  refine ⟨.int .i64 m, _, _, ?_, hw.setRow hi hisc _, kk⟩
  show (Builtin.copy_ #[t, tx] 0 #[.slice (some ⟨b, o, none⟩) dLen dCap, x]).run P w = _
  simp [Builtin.copy_, run_underlying hu, hsw.len, hm, sizeOf, typeInfo, hti, hf w hw, hst, goInt]
theorem fst_own {n b o k c m : Nat} {ty : Nat} {cs news : List Value} (i : Nat) (hi : cAt L i = some ⟨b, ty, cs⟩) (hn : (cs.drop o).take (k * n) = news) (hl : news.length = k * n) (hm : m ≤ k) :
    ∀ w, Hp w0 I w L → (Builtin.firstCells n m (.slice (some ⟨b, o, none⟩) k c)).run P w = .ok (news.take (m * n)).toArray w := by
  intro w hw
  refine run_firstCells_some w n m _ k c _ ?_ (fun j v hj => ?_)
  · rw [List.length_take, hl]; exact Nat.min_eq_left (Nat.mul_le_mul_right _ hm)
  · rw [add_plain]
    refine hw.cell (e := ⟨b, ty, cs⟩) (List.mem_iff_getElem?.2 ⟨i, (cAt_spec hi).1⟩) (cAt_spec hi).2 ?_
    rw [List.getElem?_take] at hj
    split at hj
    · subst hn
      rw [List.getElem?_take] at hj
      split at hj
      · rw [List.getElem?_drop] at hj; exact hj
      · simp at hj
    · simp at hj

/-! ### Literals -/
def bldS (n : Nat) : List (Nat × Value) → List Value → Option (List Value)
  | [], cs => some cs
  | (i, v) :: r, cs => match Nat.beq v.cells.toList.length n && Nat.ble (i * n + n) cs.length with
    | true => bldS n r (splice cs (i * n) v.cells.toList)
    | false => none
theorem fill_bldS {n : Nat} : ∀ {parts : List (Nat × Value)} {cs : Array Value} {out : List Value}, bldS n parts cs.toList = some out → Instr.fill (fun i => some (i * n, n)) cs parts = some out.toArray
  | [], cs, out, h => by simp [bldS] at h; simp [Instr.fill, ← h]
  | (i, v) :: r, cs, out, h => by
    simp only [bldS] at h
    split at h
    · rename_i hb
      simp only [Bool.and_eq_true] at hb
      have hb1 : v.cells.toList.length = n := by simpa using hb.1
      have hb2 : i * n + n ≤ cs.toList.length := by simpa using hb.2
      simp only [Instr.fill]
      have e1 : v.cells.size = n := by simpa using hb1
      rw [if_neg (by simp at hb2 ⊢; omega)]
      have hsp := foldl_splice (i * n) v.cells.toList 0 cs (by simp at hb1 hb2 ⊢; omega)
      have : (v.cells.zipIdx.foldl (fun (cs : Array Value) (x : Value × Nat) => cs.setIfInBounds (i * n + x.2) x.1) cs).toList = splice cs.toList (i * n) v.cells.toList := by
        rw [← Array.foldl_toList, Array.toList_zipIdx, hsp]
        simp [splice]
      refine fill_bldS (parts := r) ?_
      rw [this]
      exact h
    · simp at h
theorem YW.lit {t e n bytes len : Nat} {zs cs : List Value} {parts : List (Nat × Value)} {K : Value → Hs → Prop} (hT : SlI P t e n bytes zs) (hb : bldS n parts (zeros len zs) = some cs) (hs : len * n ≤ 16777216)
    (kk : ∀ b, K (.slice (some ⟨b, 0, none⟩) len len) (L ++ [⟨b, e, cs⟩])) : YW P w0 I L (.bslice t len parts) K := by
  obtain ⟨hu, ⟨ti, z, hti, hz, hsz, hby, hzc⟩, hzl, hz1, hlt⟩ := hT
  subst hsz hby
  refine ⟨fun w hw => ?_⟩
  have hz2 : z.cells.size = ti.size := by rw [← hzl, ← hzc]; simp
  have hcy : ((Array.range (len * ti.size)).map (fun i => z.cells[i % z.cells.size]!)).toList = zeros len zs := by
    rw [← hz2, ← hzc]; exact cyc_eq z.cells len
  refine ⟨_, _, _, ?_, hw.alloc e cs hlt, kk _⟩
  show (Instr.buildSlice t len parts.toArray).run P w = _
  have hn : ¬ 16777216 < len * ti.size := by omega
  by_cases h0 : len * ti.size = 0
  · have hfill := fill_bldS (n := ti.size) (parts := parts) (cs := #[]) (out := cs) (by
      have : zeros len zs = [] := by rw [← hcy, h0]; simp
      rw [this] at hb; exact hb)
    have e0 : ((Array.range 0).map (fun _ => (default : Value))) = #[] := by simp
    unfold Instr.buildSlice
    simp only [Sem.run_bind, run_underlying hu, Result.andThen_ok, sizeOf, typeInfo, program]
    simp [Sem.run, hti, h0, e0, hfill, newRow, newObj, Sem.run_bind]
    try rfl
  · have hfill := fill_bldS (n := ti.size) (parts := parts) (cs := (Array.range (len * ti.size)).map (fun i => z.cells[i % z.cells.size]!)) (out := cs) (by rw [hcy]; exact hb)
    unfold Instr.buildSlice
    simp only [Sem.run_bind, run_underlying hu, Result.andThen_ok, sizeOf, typeInfo, program]
    simp [Sem.run, hti, h0, hn, hfill, newRow, newObj, Sem.run_bind, zeroValue, typeInfo, program, hz]
    try rfl

/-! ### Slices of slices -/
theorem YQ.resl {t e n b o len cap : Nat} {kl kh : IntKind} {l h : Int} {bytes : Nat} {zs : List Value} {K : Value → Prop} (hT : SlI P t e n bytes zs) (hl : 0 ≤ l ∧ l ≤ h) (hh : h ≤ cap)
    (k : K (.slice (some ⟨b, if cap = l.toNat then o else o + l.toNat * n, none⟩) (h.toNat - l.toNat) (cap - l.toNat))) :
    YQ P w0 I L (.slice t (.slice (some ⟨b, o, none⟩) len cap) (some (.int kl l)) (some (.int kh h))) K := by
  obtain ⟨hu, ⟨ti, z, hti, hz, hsz, hby, hzc⟩, hzl, hz1, hlt⟩ := hT
  subst hsz hby
  refine YQ.val _ (fun w => ?_) k
  obtain ⟨l', rfl⟩ := Int.eq_ofNat_of_zero_le hl.1
  obtain ⟨h', rfl⟩ := Int.eq_ofNat_of_zero_le (show (0 : Int) ≤ h by omega)
  have hh' : h' ≤ cap := by omega
  have hl' : l' ≤ h' := by omega
  simp only [Rq.sem, Instr.sliceAt, Sem.run_bind, Sem.run_pure, Result.andThen_ok, run_underlying hu]
  simp [Instr.slice, Instr.sliceBounds, Instr.sliceBound, asIntOf, hh', hl', sizeOf, typeInfo, hti, run_underlying hu, add_plain, Sem.run, Sem.run_bind]
  by_cases hc : cap = l' <;> simp [hc]
/-- .. in a given form. -/
theorem YQ.reslE {t e n b o len cap : Nat} {kl kh : IntKind} {l h : Int} {bytes : Nat} {zs : List Value} {K : Value → Prop} (hT : SlI P t e n bytes zs) (o' m' c' : Nat)
    (hh : 0 ≤ l ∧ l ≤ h ∧ h ≤ cap ∧ l < cap ∧ o' = o + l.toNat * n ∧ m' = h.toNat - l.toNat ∧ c' = cap - l.toNat) (k : K (.slice (some ⟨b, o', none⟩) m' c')) :
    YQ P w0 I L (.slice t (.slice (some ⟨b, o, none⟩) len cap) (some (.int kl l)) (some (.int kh h))) K := by
  obtain ⟨h1, h2, h3, h4, rfl, rfl, rfl⟩ := hh
  refine YQ.resl hT ⟨h1, h2⟩ h3 ?_
  rw [if_neg (by omega)]
  exact k
theorem YQ.reslL {t e n b o len cap : Nat} {kl : IntKind} {l : Int} {bytes : Nat} {zs : List Value} {K : Value → Prop} (hT : SlI P t e n bytes zs) (hl : 0 ≤ l ∧ l ≤ len) (hh : len ≤ cap)
    (k : K (.slice (some ⟨b, if cap = l.toNat then o else o + l.toNat * n, none⟩) (len - l.toNat) (cap - l.toNat))) :
    YQ P w0 I L (.slice t (.slice (some ⟨b, o, none⟩) len cap) (some (.int kl l)) none) K := by
  obtain ⟨hu, ⟨ti, z, hti, hz, hsz, hby, hzc⟩, hzl, hz1, hlt⟩ := hT
  subst hsz hby
  refine YQ.val _ (fun w => ?_) k
  obtain ⟨l', rfl⟩ := Int.eq_ofNat_of_zero_le hl.1
  have hl' : l' ≤ len := by omega
  simp only [Rq.sem, Instr.sliceAt, Sem.run_bind, Sem.run_pure, Result.andThen_ok, run_underlying hu]
  simp [Instr.slice, Instr.sliceBounds, Instr.sliceBound, asIntOf, hh, hl', sizeOf, typeInfo, hti, run_underlying hu, add_plain, Sem.run, Sem.run_bind]
  by_cases hc : cap = l' <;> simp [hc]
theorem YQ.reslH {t e n b o len cap : Nat} {kh : IntKind} {h : Int} {bytes : Nat} {zs : List Value} {K : Value → Prop} (hT : SlI P t e n bytes zs) (hh : 0 ≤ h ∧ h ≤ cap)
    (k : K (.slice (some ⟨b, o, none⟩) h.toNat cap)) :
    YQ P w0 I L (.slice t (.slice (some ⟨b, o, none⟩) len cap) none (some (.int kh h))) K := by
  obtain ⟨hu, ⟨ti, z, hti, hz, hsz, hby, hzc⟩, hzl, hz1, hlt⟩ := hT
  subst hsz hby
  refine YQ.val _ (fun w => ?_) k
  obtain ⟨h', rfl⟩ := Int.eq_ofNat_of_zero_le hh.1
  have hh' : h' ≤ cap := by omega
  simp only [Rq.sem, Instr.sliceAt, Sem.run_bind, Sem.run_pure, Result.andThen_ok, run_underlying hu]
  simp [Instr.slice, Instr.sliceBounds, Instr.sliceBound, asIntOf, hh', sizeOf, typeInfo, hti, run_underlying hu, add_plain, Sem.run, Sem.run_bind]
end
/-! ### What stands in memory that is not owned here -/
def ArrF {α : Type} (w : World) (I : List Nat) (n : Nat) (g : α → List Value) (a : Option Addr) (ls : List α) : Prop := ∀ (j : Nat) x, ls[j]? = some x → ∃ ad, a = some ad ∧ ad.block ∉ I ∧ At w (ad.add (j * n)) (g x)
theorem Hp.farI {w0 w : World} {I : List Nat} {L : Hs} (hw : Hp w0 I w L) {a : Addr} {v : Value} (hI : a.block ∉ I) (h : w0.cell? a = some v) : w.cell? a = some v := by
  have hb : a.block < w0.heap.size := by
    rcases Nat.lt_or_ge a.block w0.heap.size with h1 | h1
    · exact h1
    · rw [World.cell?, Array.getElem?_eq_none h1] at h
      simp at h
  rw [cell_block (hw.rest a.block hb hI)]
  exact h
theorem Hp.notin {w0 w : World} {I : List Nat} {L Lc : Hs} {is : List Nat} {i : Nat} {e : Ent} (hw : Hp w0 I w L) (hs : sel L is = some Lc) (hi : L[i]? = some e) (hm : memB i is = false) : e.b ∉ Lc.map Ent.b := by
  intro h
  obtain ⟨x, hx, hxb⟩ := List.mem_map.1 h
  obtain ⟨j, hj, hjx⟩ := sel_get hs x hx
  exact nodup_ne hw.nodup hjx hi (by rintro rfl; exact memB_spec hm hj) hxb
theorem Arr.later {α : Type} {w0 w : World} {L : Hs} {n : Nat} {g : α → List Value} {a : Option Addr} {ls : List α} (hw : Hp w0 [] w L) (h : Arr w0 n g a ls) : Arr w n g a ls := by
  intro j x hj
  obtain ⟨ad, h1, h2⟩ := h j x hj
  exact ⟨ad, h1, fun c u hc => hw.far (h2 c u hc)⟩
theorem ArrF.later {α : Type} {w0 w : World} {I : List Nat} {L : Hs} {n : Nat} {g : α → List Value} {a : Option Addr} {ls : List α} (hw : Hp w0 I w L) (h : ArrF w0 I n g a ls) : Arr w n g a ls := by
  intro j x hj
  obtain ⟨ad, h1, h0, h2⟩ := h j x hj
  exact ⟨ad, h1, fun c u hc => hw.farI (by rw [add_block, add_block]; exact h0) (h2 c u hc)⟩
theorem ArrF.sub {α : Type} {w0 w : World} {I I' : List Nat} {L : Hs} {n : Nat} {g : α → List Value} {a : Option Addr} {ls : List α} (hw : Hp w0 I w L) (h : ArrF w0 I n g a ls) (hs : ∀ b, b ∈ I' → b ∈ I) : ArrF w I' n g a ls := by
  intro j x hj
  obtain ⟨ad, h1, h0, h2⟩ := h j x hj
  exact ⟨ad, h1, fun h => h0 (hs _ h), fun c u hc => hw.farI (by rw [add_block, add_block]; exact h0) (h2 c u hc)⟩
/-- What was there at a law's begin is apart from all that is owned since. -/
theorem Arr.apart {α : Type} {w0 w : World} {L Lc : Hs} {n : Nat} {g : α → List Value} {a : Option Addr} {ls : List α} {is : List Nat} (hg : ∀ x, (g x).length = n) (hn : 0 < n) (hw : Hp w0 [] w L) (hs : sel L is = some Lc) (h : Arr w0 n g a ls) :
    ArrF w (Lc.map Ent.b) n g a ls := by
  intro j x hj
  obtain ⟨ad, h1, h2⟩ := h j x hj
  refine ⟨ad, h1, ?_, fun c u hc => hw.far (h2 c u hc)⟩
  have h3 := h2 0 ((g x)[0]'(by rw [hg]; exact hn)) (List.getElem?_eq_getElem _)
  have hb : ad.block < w0.heap.size := by
    rcases Nat.lt_or_ge ad.block w0.heap.size with h4 | h4
    · exact h4
    · rw [World.cell?, add_block, add_block, Array.getElem?_eq_none h4] at h3
      simp at h3
  intro hm
  obtain ⟨e, he, heb⟩ := List.mem_map.1 hm
  obtain ⟨k, _, hk⟩ := sel_get hs e he
  rcases hw.own e (List.mem_iff_getElem?.2 ⟨k, hk⟩) with h5 | h5
  · simp at h5
  · omega
theorem Hp.arr {α : Type} {w0 w : World} {I : List Nat} {L : Hs} {n : Nat} {g : α → List Value} {ls : List α} {tl : List Value} {b ty : Nat} (hg : ∀ x, (g x).length = n) (hw : Hp w0 I w L) (i : Nat) (hi : cAt L i = some ⟨b, ty, rows g ls ++ tl⟩) : Arr w n g (some ⟨b, 0, none⟩) ls := by
  intro j x hj
  refine ⟨_, rfl, fun c u hc => ?_⟩
  rw [add_plain, add_plain, Nat.zero_add]
  exact hw.cell (e := ⟨b, ty, rows g ls ++ tl⟩) (List.mem_iff_getElem?.2 ⟨i, (cAt_spec hi).1⟩) (cAt_spec hi).2 (rows_cell hg hj hc)
theorem Arr.apartO {α : Type} {w0 w : World} {I : List Nat} {L Lc : Hs} {n : Nat} {g : α → List Value} {b o : Nat} {ls : List α} {is : List Nat} {e : Ent} (hw : Hp w0 I w L) (hs : sel L is = some Lc) (i : Nat) (hi : L[i]? = some e) (he : e.b = b) (hm : memB i is = false)
    (h : Arr w n g (some ⟨b, o, none⟩) ls) : ArrF w (Lc.map Ent.b) n g (some ⟨b, o, none⟩) ls := by
  intro j x hj
  obtain ⟨ad, h1, h2⟩ := h j x hj
  refine ⟨ad, h1, ?_, h2⟩
  cases h1
  subst he
  exact hw.notin hs hi hm
theorem rdy_cells {α : Type} {P : Program} {w : World} {n tx e' k c : Nat} {g : α → List Value} {a : Option Addr} {ls : List α} (hk : P.underlying tx = some (.slice e')) (hg : ∀ x, (g x).length = n) (h1 : ∀ x, (g x).all (·.oneCell') = true) (ha : Arr w n g a ls) (hl : ls.length = k) :
    Src P n tx (.slice a k c) k (rows g ls) w := by
  cases a with
  | none =>
    cases ls with
    | nil => subst hl; exact Src.ofNil w hk c
    | cons x r => obtain ⟨ad, h2, _⟩ := ha 0 x rfl; cases h2
  | some ad =>
    refine Src.ofSlice w hk ad k c _ (by rw [rows_length hg, hl]) (fun j u hj => arr_cells hg ha j u hj) ?_
    intro u hu
    simp only [rows, List.mem_flatten, List.mem_map] at hu
    obtain ⟨l, ⟨x, _, rfl⟩, hl2⟩ := hu
    exact List.all_eq_true.1 (h1 x) u hl2
theorem Rdy.arrF {α : Type} {P : Program} {w0 : World} {I : List Nat} {L : Hs} {n tx e' k c : Nat} {g : α → List Value} {a : Option Addr} {ls : List α} (hk : P.underlying tx = some (.slice e')) (hg : ∀ x, (g x).length = n) (h1 : ∀ x, (g x).all (·.oneCell') = true) (ha : ArrF w0 I n g a ls) (hl : ls.length = k) :
    Rdy P w0 I L n tx (.slice a k c) k (rows g ls) := fun w hw => rdy_cells hk hg h1 (ha.later hw) hl
theorem fst_arrF {α : Type} {P : Program} {w0 : World} {I : List Nat} {L : Hs} {n k c m : Nat} {g : α → List Value} {a : Option Addr} {ls : List α} (hg : ∀ x, (g x).length = n) (ha : ArrF w0 I n g a ls) (hl : ls.length = k) (hm : m ≤ k) :
    ∀ w, Hp w0 I w L → (Builtin.firstCells n m (.slice a k c)).run P w = .ok ((rows g ls).take (m * n)).toArray w := by
  intro w hw
  cases a with
  | none =>
    cases ls with
    | nil => simp [Builtin.firstCells, rows]
    | cons x r => obtain ⟨ad, h2, _⟩ := ha 0 x rfl; cases h2
  | some ad =>
    refine run_firstCells_some w n m _ k c _ ?_ (fun j v hj => ?_)
    · rw [List.length_take, rows_length hg, hl]; exact Nat.min_eq_left (Nat.mul_le_mul_right _ hm)
    · rw [List.getElem?_take] at hj
      split at hj
      · exact arr_cells hg (ha.later hw) j v hj
      · simp at hj
section
variable {P : Program} {w0 : World} {I : List Nat} {T : Tab} {L : Hs} {α : Type} {g : α → List Value} {n : Nat}
theorem YQ.idxF (TO : TabOk P T) {t len cap : Nat} {a : Option Addr} {ls : List α} {x : α} {kd : IntKind} {i : Int} {K : Value → Prop} (hs : natAt T.el t = some n) (ha : ArrF w0 I n g a ls) (j : Nat) (hj : ls[j]? = some x)
    (hi : i = j ∧ j < len) (k : ∀ ad, ad.block ∉ I → At w0 ad (g x) → K (.pointer (some ad))) : YQ P w0 I L (.indexAddr t (.slice a len cap) (.int kd i)) K := by
  obtain ⟨ad, rfl, hI, hd⟩ := ha j x hj
  obtain ⟨e, hu, hz⟩ := el_spec TO hs
  obtain ⟨rfl, hl⟩ := hi
  refine YQ.val (.pointer (some (ad.add (j * n)))) (fun w => ?_) (k _ (by rw [add_block]; exact hI) hd)
  have h1 : (0 : Int) ≤ j ∧ (j : Int) < len := by omega
  simp only [Rq.sem, Instr.indexAt, asIntOf, Sem.run_bind, Sem.run_pure, Result.andThen_ok, run_underlying hu, h1, and_self, if_true, hz, Int.toNat_natCast]
theorem YQ.loadF1 (TO : TabOk P T) {t : Nat} {ad : Addr} {v : Value} {K : Value → Prop} (hI : ad.block ∉ I) (hd : At w0 ad [v]) (hs : memB t T.sc = true) (k : K v) : YQ P w0 I L (.load t (.pointer (some ad))) K := by
  refine ⟨v, fun w hw => ?_, k⟩
  have h1 := (sc_spec TO hs).1 w
  have h2 := hd 0 v rfl
  rw [add_zero] at h2
  have h3 := hw.farI hI h2
  simp only [Rq.sem, Instr.loadAt, Instr.sureAddr, Sem.run_bind, Sem.run_pure, Result.andThen_ok, loadVar, h1, Bool.false_eq_true, if_false]
  simp [load, Sem.run, h3]
theorem YQ.loadFA (TO : TabOk P T) {t m : Nat} {ad : Addr} {vs : List Value} {K : Value → Prop} (hI : ad.block ∉ I) (hd : At w0 ad vs) (hs : natAt T.ag t = some m) (hl : vs.length = m) (k : K (.agg vs.toArray)) :
    YQ P w0 I L (.load t (.pointer (some ad))) K := by
  refine ⟨.agg vs.toArray, fun w hw => ?_, k⟩
  have h1 := (ag_spec TO hs).1 w
  have h2 := (ag_spec TO hs).2 w
  have h3 := run_loadCells_list (P := P) w ad vs (fun j v hj => hw.farI (by rw [add_block]; exact hI) (hd j v hj))
  rw [hl] at h3
  simp only [Rq.sem, Instr.loadAt, Instr.sureAddr, Sem.run_bind, Sem.run_pure, Result.andThen_ok, loadVar, h1, if_true, h2, h3]
end
def u8V (x : Int) : List Value := [.int .u8 x]
theorem rows_u8 (xs : List Int) : rows u8V xs = ints .u8 xs := by
  induction xs with
  | nil => rfl
  | cons x r ih => rw [rows_cons, ih]; rfl
theorem Hp.bytes {w0 w : World} {I : List Nat} {L : Hs} {xs : List Int} {b ty : Nat} (hw : Hp w0 I w L) (i : Nat) (hi : cAt L i = some ⟨b, ty, ints .u8 xs⟩) : Arr w 1 u8V (some ⟨b, 0, none⟩) xs :=
  hw.arr (tl := []) (fun _ => rfl) i (by rw [List.append_nil, rows_u8]; exact hi)
end Vc
end Go.Proofs.Ytggbhokhibfdmaa

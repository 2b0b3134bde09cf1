/- Maps with integer keys: made, looked up, updated, deleted from, ranged over, as owned blocks. Conditions: none. -/
import Derived.Test.YtggbhokhibfdmaaVk
import Derived.Maps.RangeRun
set_option linter.unusedVariables false
set_option linter.unusedSimpArgs false
set_option linter.unusedSectionVars false
namespace Go.Proofs.Ytggbhokhibfdmaa
namespace Vc
/-- An entry: its key, what it holds, its stamp. -/
structure Me (V : Type) where
  k : Int
  v : V
  n : Nat
def meV {V : Type} (enc : V → Value) (x : Me V) : Value := .tuple #[.int .i64 x.k, enc x.v, .int .i64 x.n]
def meO {V : Type} (enc : V → Value) (x : Me V) : MapEntry := ⟨.int .i64 x.k, enc x.v, x.n⟩
/-- A map's block: its clock, its entries. -/
def mapE {V : Type} (enc : V → Value) (b c : Nat) (l : List (Me V)) : Ent := ⟨b, mapT, .int .i64 c :: l.map (meV enc)⟩
def iterE (b m s q : Nat) (seen : List Nat) : Ent := ⟨b, itT, .int .i64 m :: .int .i64 s :: .int .i64 q :: seen.map (fun n : Nat => Value.int .i64 n)⟩
theorem mapE_obj {V : Type} (enc : V → Value) (b c : Nat) (l : List (Me V)) : (mapE enc b c l).obj = .map (l.map (meO enc)).toArray c := by
  have h : (l.map (meV enc)).map mEnt = l.map (meO enc) := by
    rw [List.map_map]
    exact List.map_congr_left (fun x _ => by simp [mEnt, meV, meO])
  unfold Ent.obj mapE
  simp only [show isC mapT = false from rfl, show Nat.beq mapT mapT = true from rfl, h]
  simp
theorem iterE_obj (b m s q : Nat) (seen : List Nat) : (iterE b m s q seen).obj = .mapIter (some m) s seen.toArray q := by
  unfold Ent.obj iterE
  simp only [show isC itT = false from rfl, show Nat.beq itT mapT = false from rfl, List.map_map]
  simp [Function.comp_def]
section
variable {V : Type}
def mget : List (Me V) → Int → Option V
  | [], _ => none
  | x :: r, k => if x.k = k then some x.v else mget r k
def mset : List (Me V) → Int → V → Nat → List (Me V)
  | [], k, v, c => [⟨k, v, c⟩]
  | x :: r, k, v, c => if x.k = k then ⟨k, v, x.n⟩ :: r else x :: mset r k v c
def mdel : List (Me V) → Int → List (Me V)
  | [], _ => []
  | x :: r, k => if x.k = k then r else x :: mdel r k
def mclk (l : List (Me V)) (k : Int) (c : Nat) : Nat := match mget l k with | some _ => c | none => c + 1
theorem find_spec (enc : V → Value) (k : Int) : ∀ (l : List (Me V)),
    (∃ j x, l[j]? = some x ∧ x.k = k ∧ (∀ i, Instr.findNow (.int .i64) (.int .i64 k) (l.map (meO enc)) i = some (some (i + j, enc x.v))) ∧ mget l k = some x.v ∧ (∀ v c, mset l k v c = l.set j ⟨k, v, x.n⟩) ∧ mdel l k = l.eraseIdx j) ∨
    ((∀ i, Instr.findNow (.int .i64) (.int .i64 k) (l.map (meO enc)) i = some none) ∧ mget l k = none ∧ (∀ v c, mset l k v c = l ++ [⟨k, v, c⟩]) ∧ mdel l k = l)
  | [] => .inr ⟨fun i => rfl, rfl, fun _ _ => rfl, rfl⟩
  | x :: r => by
    by_cases hx : x.k = k
    · refine .inl ⟨0, x, rfl, hx, fun i => ?_, ?_, fun v c => ?_, ?_⟩
      · simp [Instr.findNow, Instr.sameNow, meO, hx]
      · simp [mget, hx]
      · simp [mset, hx]
      · simp [mdel, hx]
    · have hf : ∀ i, Instr.findNow (.int .i64) (.int .i64 k) ((x :: r).map (meO enc)) i = Instr.findNow (.int .i64) (.int .i64 k) (r.map (meO enc)) (i + 1) := by
        intro i
        have : (k == x.k) = false := by simpa using fun h : k = x.k => hx h.symm
        simp [Instr.findNow, Instr.sameNow, meO, this]
      rcases find_spec enc k r with ⟨j, y, h1, h2, h3, h4, h5, h6⟩ | ⟨h1, h2, h3, h4⟩
      · refine .inl ⟨j + 1, y, by simpa using h1, h2, fun i => ?_, by simp [mget, hx, h4], fun v c => by simp [mset, hx, h5], by simp [mdel, hx, h6]⟩
        rw [hf, h3]
        congr 3
        omega
      · exact .inr ⟨fun i => by rw [hf, h1], by simp [mget, hx, h2], fun v c => by simp [mset, hx, h3], by simp [mdel, hx, h4]⟩
end
section
variable {P : Program} {w0 : World} {I : List Nat} {T : Tab} {L : Hs} {V : Type} {enc : V → Value}
theorem Hp.blk {w : World} (hw : Hp w0 I w L) {i : Nat} {e : Ent} (hi : L[i]? = some e) : w.heap[e.b]? = some e.obj := hw.cells e (List.mem_iff_getElem?.2 ⟨i, hi⟩)
theorem Hp.mapB {w : World} (hw : Hp w0 I w L) {i b c : Nat} {l : List (Me V)} (hi : L[i]? = some (mapE enc b c l)) : w.heap[b]? = some (.map (l.map (meO enc)).toArray c) := by
  have := hw.blk hi
  rw [mapE_obj] at this
  exact this
theorem Hp.setM {w : World} (hw : Hp w0 I w L) {i : Nat} {e e' : Ent} (hi : L[i]? = some e) (hb : e'.b = e.b) {o : Obj} (ho : e'.obj = o) : Hp w0 I { w with heap := w.heap.setIfInBounds e.b o } (L.set i e') := by
  subst ho
  have h := MapKept.heap_set (o' := e'.obj) (hw.blk hi)
  exact hw.setO hi e' hb (by simp) rfl rfl rfl h.1 h.2
theorem YW.mmap {t : TypeId} {K : Value → Hs → Prop} (k : ∀ b, K (.map (some b)) (L ++ [mapE enc b 0 []])) : YW P w0 I L (.mmap t) K := by
  refine ⟨fun w hw => ⟨.map (some w.heap.size), w.alloc (.map #[] 0), _, ?_, hw.allocO mapT [.int .i64 0] _ (mapE_obj enc w.heap.size 0 []), k w.heap.size⟩⟩
  simp [Wq.sem, Instr.makeMap, newObj, Sem.run]
theorem YQ.look (TO : TabOk P T) {t kt et b c : Nat} {l : List (Me V)} {x : Int} {z : Value} {K : Value → Prop} (hm : natAt T.mp t = some (kt, et)) (hz : natAt T.zv et = some z) (i : Nat) (hi : L[i]? = some (mapE enc b c l))
    (h1 : ∀ v, mget l x = some v → K (.tuple #[enc v, .bool true])) (h0 : mget l x = none → K (.tuple #[z, .bool false])) : YQ P w0 I L (.lookup t (.map (some b)) (.int .i64 x) true) K := by
  obtain ⟨hu, hk⟩ := mp_spec TO.mp hm
  have hzr := zv_spec TO.zv hz
  rcases find_spec enc x l with ⟨j, y, g1, g2, g3, g4, g5, g6⟩ | ⟨g1, g2, g3, g4⟩
  · refine ⟨.tuple #[enc y.v, .bool true], fun w hw => ?_, h1 _ g4⟩
    have hb := hw.mapB hi
    have hc : ∀ e, (Instr.checkKey e 10000 kt (.int .i64 x)).run P w = .ok () w := fun e => MapKept.run_checkKey (n := 9999) hk (show MapKept.IsKey (.int .i64) (.int .i64 x) from rfl) e
    have hf := MapKept.run_findKey (w := w) hk (g3 0)
    simp [Rq.sem, Instr.lookup, run_underlying hu, MapKept.run_getObj_map hb, hc, hf, Result.andThen]
  · refine ⟨.tuple #[z, .bool false], fun w hw => ?_, h0 g2⟩
    have hb := hw.mapB hi
    have hc : ∀ e, (Instr.checkKey e 10000 kt (.int .i64 x)).run P w = .ok () w := fun e => MapKept.run_checkKey (n := 9999) hk (show MapKept.IsKey (.int .i64) (.int .i64 x) from rfl) e
    have hf := MapKept.run_findKey (w := w) hk (g1 0)
    simp [Rq.sem, Instr.lookup, run_underlying hu, MapKept.run_getObj_map hb, hc, hf, hzr w, Result.andThen]
theorem YQ.look1 (TO : TabOk P T) {t kt et b c : Nat} {l : List (Me V)} {x : Int} {z : Value} {K : Value → Prop} (hm : natAt T.mp t = some (kt, et)) (hz : natAt T.zv et = some z) (i : Nat) (hi : L[i]? = some (mapE enc b c l))
    (h1 : ∀ v, mget l x = some v → K (enc v)) (h0 : mget l x = none → K z) : YQ P w0 I L (.lookup t (.map (some b)) (.int .i64 x) false) K := by
  obtain ⟨hu, hk⟩ := mp_spec TO.mp hm
  have hzr := zv_spec TO.zv hz
  rcases find_spec enc x l with ⟨j, y, g1, g2, g3, g4, g5, g6⟩ | ⟨g1, g2, g3, g4⟩
  · refine ⟨enc y.v, fun w hw => ?_, h1 _ g4⟩
    have hb := hw.mapB hi
    have hc : ∀ e, (Instr.checkKey e 10000 kt (.int .i64 x)).run P w = .ok () w := fun e => MapKept.run_checkKey (n := 9999) hk (show MapKept.IsKey (.int .i64) (.int .i64 x) from rfl) e
    have hf := MapKept.run_findKey (w := w) hk (g3 0)
    simp [Rq.sem, Instr.lookup, run_underlying hu, MapKept.run_getObj_map hb, hc, hf, Result.andThen]
  · refine ⟨z, fun w hw => ?_, h0 g2⟩
    have hb := hw.mapB hi
    have hc : ∀ e, (Instr.checkKey e 10000 kt (.int .i64 x)).run P w = .ok () w := fun e => MapKept.run_checkKey (n := 9999) hk (show MapKept.IsKey (.int .i64) (.int .i64 x) from rfl) e
    have hf := MapKept.run_findKey (w := w) hk (g1 0)
    simp [Rq.sem, Instr.lookup, run_underlying hu, MapKept.run_getObj_map hb, hc, hf, hzr w, Result.andThen]
theorem arr_modify {α : Type} (l : List α) (j : Nat) (f : α → α) (x : α) (h : l[j]? = some x) : l.toArray.modify j f = (l.set j (f x)).toArray := by
  apply Array.ext'
  rw [Array.toList_modify]
  apply List.ext_getElem?
  intro i
  simp only [List.getElem?_modify, List.getElem?_set]
  by_cases hij : j = i
  · subst hij
    have := (List.getElem?_eq_some_iff.1 h).1
    rw [List.getElem?_eq_getElem this] at h
    simp only [Option.some.injEq] at h
    simp [h, this]
  · simp [hij]
theorem YW.mupd (TO : TabOk P T) {t kt et b c : Nat} {l : List (Me V)} {x : Int} {vv : Value} {v : V} {K : Value → Hs → Prop} (hm : natAt T.mp t = some (kt, et)) (i : Nat) (hi : L[i]? = some (mapE enc b c l)) (hv : vv = enc v)
    (k : K undef (L.set i (mapE enc b (mclk l x c) (mset l x v c)))) : YW P w0 I L (.mupd t (.map (some b)) (.int .i64 x) vv) K := by
  subst hv
  obtain ⟨hu, hk⟩ := mp_spec TO.mp hm
  refine ⟨fun w hw => ?_⟩
  have hb := hw.mapB hi
  have hc : ∀ e, (Instr.checkKey e 10000 kt (.int .i64 x)).run P w = .ok () w := fun e => MapKept.run_checkKey (n := 9999) hk (show MapKept.IsKey (.int .i64) (.int .i64 x) from rfl) e
  refine ⟨undef, _, _, ?_, hw.setM hi (e' := mapE enc b (mclk l x c) (mset l x v c)) rfl (mapE_obj _ _ _ _), k⟩
  rcases find_spec enc x l with ⟨j, y, g1, g2, g3, g4, g5, g6⟩ | ⟨g1, g2, g3, g4⟩
  · have hf := MapKept.run_findKey (w := w) hk (g3 0)
    have hj : (l.map (meO enc))[j]? = some (meO enc y) := by simp [g1]
    have hkey : (meO enc y).key = .int .i64 x := by simp [meO, g2]
    have hs : (Instr.keyThatStays (.int .i64 x) (.int .i64 x)).run P w = .ok (.int .i64 x) w := MapKept.run_keyThatStays (show MapKept.IsKey (.int .i64) (.int .i64 x) from rfl)
    have hmc : mclk l x c = c := by simp [mclk, g4]
    have hset : (l.map (meO enc)).toArray.modify j (fun e => { e with key := .int .i64 x, val := enc v }) = ((mset l x v c).map (meO enc)).toArray := by
      rw [arr_modify _ _ _ _ hj, g5, List.map_set]
      simp [meO]
    simp only [Nat.zero_add] at hf
    simp [Wq.sem, Instr.mapUpdate, run_underlying hu, MapKept.run_getObj_map hb, hc, hf, Result.andThen, hj, hkey, hs, g1, meO, g2, MapKept.run_setObj_map _ hb, hmc] 
    rw [← hset, ← show ∀ (A : List MapEntry) f, (A.modify j f).toArray = A.toArray.modify j f from fun A f => by simp]
    rfl
  · have hf := MapKept.run_findKey (w := w) hk (g1 0)
    have hmc : mclk l x c = c + 1 := by simp [mclk, g2]
    simp [Wq.sem, Instr.mapUpdate, run_underlying hu, MapKept.run_getObj_map hb, hc, hf, Result.andThen, MapKept.run_setObj_map _ hb, hmc, g3, mapE, meO]
theorem YW.del (TO : TabOk P T) {t kt et b c : Nat} {l : List (Me V)} {x : Int} {K : Value → Hs → Prop} (hm : natAt T.mp t = some (kt, et)) (i : Nat) (hi : L[i]? = some (mapE enc b c l))
    (k : K (.tuple #[]) (L.set i (mapE enc b c (mdel l x)))) : YW P w0 I L (.delete #[t, kt] [.map (some b), .int .i64 x]) K := by
  obtain ⟨hu, hk⟩ := mp_spec TO.mp hm
  refine ⟨fun w hw => ?_⟩
  have hb := hw.mapB hi
  have hc : ∀ e, (Instr.checkKey e 10000 kt (.int .i64 x)).run P w = .ok () w := fun e => MapKept.run_checkKey (n := 9999) hk (show MapKept.IsKey (.int .i64) (.int .i64 x) from rfl) e
  refine ⟨.tuple #[], _, _, ?_, hw.setM hi (e' := mapE enc b c (mdel l x)) rfl (mapE_obj _ _ _ _), k⟩
  rcases find_spec enc x l with ⟨j, y, g1, g2, g3, g4, g5, g6⟩ | ⟨g1, g2, g3, g4⟩
  · have hf := MapKept.run_findKey (w := w) hk (g3 0)
    have hset : (l.map (meO enc)).eraseIdx j = (mdel l x).map (meO enc) := by rw [g6, ChangeMaps.map_eraseIdx]
    simp only [Nat.zero_add] at hf
    simp [Wq.sem, Builtin.delete_, run_underlying hu, MapKept.run_getObj_map hb, hc, hf, Result.andThen, MapKept.run_setObj_map _ hb, hset, mapE]
  · have hf := MapKept.run_findKey (w := w) hk (g1 0)
    simp [Wq.sem, Builtin.delete_, run_underlying hu, MapKept.run_getObj_map hb, hc, hf, Result.andThen, MapKept.run_setObj_map _ hb, mapE, g4]
theorem YW.range (TO : TabOk P T) {t kt et b c : Nat} {l : List (Me V)} {K : Value → Hs → Prop} (hm : natAt T.mp t = some (kt, et)) (i : Nat) (hi : L[i]? = some (mapE enc b c l))
    (k : ∀ r, K (.pointer (some ⟨r, 0, none⟩)) (L ++ [iterE r b c c []])) : YW P w0 I L (.range t (.map (some b))) K := by
  obtain ⟨hu, hk⟩ := mp_spec TO.mp hm
  exact ⟨fun w hw => ⟨_, _, _, run_range_map w t kt et b _ c hu (hw.mapB hi), hw.allocO itT _ _ (iterE_obj w.heap.size b c c []), k w.heap.size⟩⟩
theorem YW.next {b c r s q : Nat} {seen : List Nat} {l : List (Me V)} {K : Value → Hs → Prop} (i j : Nat) (hi : L[i]? = some (mapE enc b c l)) (hj : L[j]? = some (iterE r b s q seen)) (hl : ∀ x, x ∈ l → x.n < s) (hs : s ≤ q)
    (h0 : (∀ x, x ∈ l → x.n ∈ seen) → K (.tuple #[.bool false]) L)
    (h1 : ∀ x, x ∈ l → x.n ∉ seen → K (.tuple #[.bool true, .int .i64 x.k, enc x.v]) (L.set j (iterE r b s c (seen ++ [x.n])))) : YW P w0 I L (.next (.pointer (some ⟨r, 0, none⟩)) false) K := by
  refine ⟨fun w hw => ?_⟩
  have hb := hw.mapB hi
  have hr : w.heap[r]? = some (.mapIter (some b) s seen.toArray q) := by
    have := hw.blk hj
    rwa [iterE_obj] at this
  have hold : ∀ x ∈ (l.map (meO enc)).toArray.toList, x.born < s := by
    intro x hx
    obtain ⟨y, hy, rfl⟩ := List.mem_map.1 (by simpa using hx)
    exact hl y hy
  rcases run_next_at (P := P) w 0 r b s q seen.toArray _ c hr hb hold hs with ⟨g0, hrun⟩ | ⟨e, he, w1, hal, hrun⟩
  · refine ⟨_, w, L, hrun, hw, h0 (fun x hx => ?_)⟩
    have := all_seen _ _ g0 (meO enc x) (by simpa using ⟨x, hx, rfl⟩)
    simpa [meO] using this
  · obtain ⟨hem, hes⟩ := mem_left he
    obtain ⟨y, hy, rfl⟩ := List.mem_map.1 (by simpa using hem)
    have hw1 : Hp w0 I w1 L := by
      rcases hal with rfl | rfl
      · exact hw
      · exact hw.drew
    refine ⟨_, _, _, hrun, hw1.setM hj (e' := iterE r b s c (seen ++ [y.n])) rfl ?_, h1 y hy (by simpa [meO] using hes)⟩
    rw [iterE_obj]
    simp [meO]
theorem YQ.entry {b c r s : Nat} {seen : List Nat} {l : List (Me V)} {x : Me V} {K : Value → Prop} (i j : Nat) (hi : L[i]? = some (mapE enc b c l)) (hj : L[j]? = some (iterE r b s c (seen ++ [x.n]))) (hx : x ∈ l) (hn : (l.map (·.n)).Nodup)
    (k : K (.tuple #[.int .i64 x.k, enc x.v])) : YQ P w0 I L (.entry (.pointer (some ⟨r, 0, none⟩))) K := by
  refine ⟨_, fun w hw => ?_, k⟩
  have hr : w.heap[r]? = some (.mapIter (some b) s (seen.toArray.push x.n) c) := by
    have := hw.blk hj
    rw [iterE_obj] at this
    rw [show seen.toArray.push x.n = (seen ++ [x.n]).toArray from by simp]
    exact this
  have hn' : (((l.map (meO enc)).toArray.toList).map (·.born)).Nodup := by
    have : ((l.map (meO enc)).toArray.toList).map (·.born) = l.map (·.n) := by simp [meO, Function.comp_def]
    rw [this]
    exact hn
  exact run_entry_at w r b s seen.toArray _ c (meO enc x) hr (hw.mapB hi) (by simpa using ⟨x, hx, rfl⟩) hn'
/-- append onto a part of an owned block: in place, or anew. -/
theorem YW.appendO {t tx e n bytes b o len cap k : Nat} {zs pre olds sl news : List Value} {x : Value} {K : Value → Hs → Prop} (hT : SlI P t e n bytes zs) (i : Nat) (hi : cAt L i = some ⟨b, e, pre ++ (olds ++ sl)⟩)
    (hp : o = pre.length) (ho : olds.length = len * n) (hc : cap * n ≤ olds.length + sl.length) (hle : len ≤ cap) (hs : Rdy P w0 I L n tx x k news) (hb : (len + k) * bytes ≤ 140737488355328 ∧ len + k ≤ 140737488355328)
    (kk : ∀ b' pre' cap' sl', len + k ≤ cap' → cap' * n ≤ olds.length + news.length + sl'.length → K (.slice (some ⟨b', pre'.length, none⟩) (len + k) cap') (L.set i ⟨b', e, pre' ++ ((olds ++ news) ++ sl')⟩)) :
    YW P w0 I L (.append #[t, tx] [.slice (some ⟨b, o, none⟩) len cap, x]) K := by
  subst hp
  obtain ⟨hu, ⟨ti, z, hti, hz, hsz, hby, hzc⟩, hzl, hz1, hlt⟩ := hT
  subst hsz hby
  refine ⟨fun w hw => ?_⟩
  have hsw := hs w hw
  obtain ⟨hi, hisc⟩ := cAt_spec hi
  have hmem : (⟨b, e, pre ++ (olds ++ sl)⟩ : Ent) ∈ L := List.mem_iff_getElem?.2 ⟨i, hi⟩
  have hg := hw.cells _ hmem
  rw [Ent.obj_c hisc] at hg
  by_cases hroom : len + k ≤ cap
  · have hfit0 : len * ti.size + news.length ≤ olds.length + sl.length := by
      rw [hsw.newsLen, ← Nat.add_mul]
      exact Nat.le_trans (Nat.mul_le_mul_right _ hroom) hc
    have hfit : pre.length + len * ti.size + news.length ≤ (pre ++ (olds ++ sl)).toArray.size := by
      simp only [List.size_toArray, List.length_append]
      omega
    have hst := run_storeCells_at P b (pre.length + len * ti.size) e news 0 (pre ++ (olds ++ sl)).toArray w hg (by simpa using hfit) hsw.one
    simp only [Nat.add_zero] at hst
    have hr : (Builtin.append_ #[t, tx] 0 #[.slice (some ⟨b, pre.length, none⟩) len cap, x]).run P w = .ok (.slice (some ⟨b, pre.length, none⟩) (len + k) cap)
        (w.setRow b ((pre ++ (olds ++ sl)).take (pre.length + len * ti.size) ++ news ++ (pre ++ (olds ++ sl)).drop (pre.length + len * ti.size + news.length)).toArray) := by
      rcases hsw.kind with ⟨e', hk⟩ | hk <;> simp [Builtin.append_, run_underlying hu, run_underlying hk, sizeOf, typeInfo, hti, hsw.len, hroom, hsw.cells, Addr.add_lit, hst]
    have e1 : (pre ++ (olds ++ sl)).take (pre.length + len * ti.size) ++ news ++ (pre ++ (olds ++ sl)).drop (pre.length + len * ti.size + news.length) = pre ++ ((olds ++ news) ++ sl.drop news.length) := by
      rw [← ho, List.take_length_add_append, List.take_left, ← List.drop_drop, ← List.drop_drop, List.drop_left, List.drop_left]
      simp
    rw [e1] at hr
    refine ⟨_, _, _, hr, hw.setRow hi hisc _, kk b pre cap (sl.drop news.length) hroom ?_⟩
    rw [List.length_drop]
    omega
  · have hold : (Builtin.firstCells ti.size len (.slice (some ⟨b, pre.length, none⟩) len cap)).run P w.drew = .ok olds.toArray w.drew := by
      refine run_firstCells_some w.drew ti.size len _ len cap olds ho (fun j v hj => ?_)
      rw [Addr.add_lit]
      refine hw.drew.cell hmem hisc ?_
      rw [List.getElem?_append_right (by omega), Nat.add_sub_cancel_left, List.getElem?_append_left (List.getElem?_eq_some_iff.1 hj).1]
      exact hj
    have hr := run_append_grow_src (P := P) w t tx 0 e ti z hu hti hz (some ⟨b, pre.length, none⟩) len cap olds hold x k news hsw (by omega) (by omega) (growslice_fits (by omega) hb.1)
    have hge := grownCap_ge w (len + k) cap e
    have e1 : ((olds ++ news).toArray ++ Builtin.zeroCells z.cells (grownCap w (len + k) cap e - (len + k))) = ([] ++ ((olds ++ news) ++ (Builtin.zeroCells z.cells (grownCap w (len + k) cap e - (len + k))).toList)).toArray := by
      apply Array.ext'; simp
    rw [e1] at hr
    refine ⟨_, _, _, hr, hw.drew.renew hi e _ hlt, kk _ [] _ _ hge ?_⟩
    have hz2 : z.cells.size = ti.size := by rw [← hzl, ← hzc]; simp
    have hz3 : (Builtin.zeroCells z.cells (grownCap w (len + k) cap e - (len + k))).toList.length = (grownCap w (len + k) cap e - (len + k)) * ti.size := by rw [Array.length_toList, size_zeroCells, hz2]
    rw [hz3, hsw.newsLen, ho, ← Nat.add_mul, ← Nat.add_mul]
    refine Nat.le_of_eq ?_
    congr 1
    omega
end
end Vc
end Go.Proofs.Ytggbhokhibfdmaa

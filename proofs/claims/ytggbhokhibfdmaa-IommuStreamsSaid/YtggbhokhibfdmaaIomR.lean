/- The document's controller of devices' addresses. Conditions: none. -/
import Derived.Test.YtggbhokhibfdmaaIom2
set_option linter.unusedVariables false
set_option linter.unusedSimpArgs false
set_option linter.unusedSectionVars false
set_option maxRecDepth 10000
set_option maxHeartbeats 8000000
namespace Go.Proofs.Ytggbhokhibfdmaa
open Vc Mem
/-- What an entry of the document's buffer has. -/
structure Fo where
  on : Bool
  d : Fd
def foV (x : Fo) : List Value := [.bool x.on, .int .i64 x.d.s, .int .i64 x.d.p, .int .i64 x.d.f, .int .i64 x.d.r]
theorem foV_len (x : Fo) : (foV x).length = 5 := rfl
def fo0 : Fo := ⟨false, fd0⟩
def foO : Option Fd → Fo
  | some f => ⟨true, f⟩
  | none => fo0
def rtV (x : Int) : List Value := [.int .i64 x]
theorem rtV_len (x : Int) : (rtV x).length = 1 := rfl
def rtO : Option Int → Int
  | some r => r + 1
  | none => 0
abbrev iomR (j : Nat) (Ro : List Int) (Bo : List Fo) (lv : Value) (lost : Int) : Ent := ⟨j, 108, rows rtV Ro ++ (rows foV Bo ++ [lv, .int .i64 lost])⟩
theorem Wr.i64e {x : Int} {K : Value → Prop} (y : Int) (e : x = y) (h : -9223372036854775808 ≤ y ∧ y ≤ 9223372036854775807) (k : K (.int .i64 y)) : Wr .i64 x K := by
  subst e
  exact Wr.i64 h k
theorem YQ.loadRowPE {P : Program} {w0 : World} {I : List Nat} {T : Tab} {L : Hs} {α : Type} {g : α → List Value} {n : Nat} (TO : TabOk P T) {t b o : Nat} {pre tl : List Value} {ls : List α} {x : α} {ty : Nat} {K : Value → Prop} (us : List Value) (hu : g x = us) (hs : natAt T.ag t = some n) (i j : Nat) (hi : cAt L i = some ⟨b, ty, pre ++ (rows g ls ++ tl)⟩)
    (hg : ∀ x, (g x).length = n) (hj : ls[j]? = some x) (ho : o = pre.length + j * n) (k : K (.agg us.toArray)) : YQ P w0 I L (.load t (.pointer (some ⟨b, o, none⟩))) K := by
  subst hu
  exact YQ.loadRowP TO hs i j hi hg hj ho k
def foL : Option Fd → List Value
  | some f => [.bool true, .int .i64 f.s, .int .i64 f.p, .int .i64 f.f, .int .i64 f.r]
  | none => [.bool false, .int .i64 0, .int .i64 0, .int .i64 0, .int .i64 0]
theorem foL_eq (o : Option Fd) : foV (foO o) = foL o := by cases o <;> rfl
def clr (c : Fo → Bool) (ls : List Fo) : List Fo := ls.map (fun l => if c l = true then fo0 else l)
def cnt (c : Fo → Bool) (ls : List Fo) : Nat := ls.countP c
theorem clr_length (c : Fo → Bool) (ls : List Fo) (i : Nat) (h : i ≤ ls.length) : (clr c (ls.take i) ++ ls.drop i).length = ls.length := by simp [clr]; omega
theorem clr_at (c : Fo → Bool) (ls : List Fo) (i : Nat) (h : i < ls.length) : (clr c (ls.take i) ++ ls.drop i)[i]? = some ls[i] := by
  rw [List.getElem?_append_right (by simp [clr]; omega)]
  simp [clr, Nat.min_eq_left (Nat.le_of_lt h), List.getElem?_eq_getElem h]
theorem clr_t (c : Fo → Bool) (ls : List Fo) (i : Nat) (h : i < ls.length) (h1 : c ls[i] = true) : (clr c (ls.take i) ++ ls.drop i).set i fo0 = clr c (ls.take (i + 1)) ++ ls.drop (i + 1) := by
  simp only [clr]
  rw [List.take_succ_eq_append_getElem h, List.map_append, List.map_cons, List.map_nil, if_pos h1, List.drop_eq_getElem_cons h]
  rw [List.set_append_right _ _ (by simp; omega)]
  rw [List.length_map, List.length_take, Nat.min_eq_left (Nat.le_of_lt h), Nat.sub_self, List.set_cons_zero, List.append_assoc]
  rfl
theorem clr_f (c : Fo → Bool) (ls : List Fo) (i : Nat) (h : i < ls.length) (h1 : ¬ c ls[i] = true) : clr c (ls.take i) ++ ls.drop i = clr c (ls.take (i + 1)) ++ ls.drop (i + 1) := by
  simp only [clr]
  rw [List.take_succ_eq_append_getElem h, List.map_append, List.map_cons, List.map_nil, if_neg h1, List.drop_eq_getElem_cons h]
  simp
theorem cnt_t (c : Fo → Bool) (ls : List Fo) (i : Nat) (h : i < ls.length) (h1 : c ls[i] = true) : cnt c (ls.take (i + 1)) = cnt c (ls.take i) + 1 := by
  rw [List.take_succ_eq_append_getElem h, cnt, List.countP_append, List.countP_singleton, if_pos h1]; rfl
theorem cnt_f (c : Fo → Bool) (ls : List Fo) (i : Nat) (h : i < ls.length) (h1 : ¬ c ls[i] = true) : cnt c (ls.take (i + 1)) = cnt c (ls.take i) := by
  rw [List.take_succ_eq_append_getElem h, cnt, List.countP_append, List.countP_singleton, if_neg h1]; rfl
theorem cnt_le (c : Fo → Bool) (ls : List Fo) : cnt c ls ≤ ls.length := List.countP_le_length
/-- What a flush takes. -/
def prF (st pg : Int) (all : Bool) (f : Fo) : Bool := decide (f.on = true ∧ f.d.s = st ∧ (all = true ∨ f.d.p = pg))
theorem ris_con (st : Int) (w : World) : Con Try.prog 95 [.int .i64 st] w [] (fun y L' => y = .bool (decide (0 ≤ st ∧ st < 16)) ∧ L' = []) := by
  refine Con.of_vc tabOk 9 [.tmp 2] Try.func95 rfl Try.ntmps95 Try.results95 rfl (Own.nil' w) ?_
  repeat' ((conv => whnf); first
    | (show _ ∧ _; first | (obtain ⟨rfl, rfl⟩ := hx; refine ⟨rfl, ?_⟩) | (obtain ⟨b, rfl, rfl⟩ := hx; refine ⟨rfl, ?_⟩) | (obtain ⟨b, c, rfl, rfl⟩ := hx; refine ⟨rfl, ?_⟩))
    | (show gsplit _ _ _; first | refine gsplit.tt ?_ | refine gsplit.ff ?_ | refine gsplit.dpos (by omega) ?_ | refine gsplit.dneg (by omega) ?_ | refine gsplit.npos (by omega) ?_ | refine gsplit.nneg (by omega) ?_ | refine gsplit.dec (fun hc => ?_) (fun hc => ?_) | refine gsplit.ndec (fun hc => ?_) (fun hc => ?_) | refine gsplit.eq (fun hc => ?_) (fun hc => ?_) | refine gsplit.neq (fun hc => ?_) (fun hc => ?_) | refine gsplit.mk (fun hb => ?_) (fun hb => ?_))
    | (show YQ _ _ _ _ _ _; first | refine YQ.remN (by omega) ?_ | refine YQ.quoN (by omega) ?_ | refine YQ.len tabOk rfl ?_ | refine YQ.idx tabOk rfl (by omega) ?_ | refine YQ.idxA tabOk rfl (by omega) ?_ | refine YQ.sliceA tabOk rfl (by omega) (by omega) ?_ | refine YQ.sliceAll tabOk rfl ?_ | refine YQ.load1 tabOk rfl 0 rfl rfl ?_ | refine YQ.load1 tabOk rfl 1 rfl rfl ?_ | refine YQ.load1 tabOk rfl 2 rfl rfl ?_ | refine YQ.load1 tabOk rfl 3 rfl rfl ?_ | refine YQ.load1 tabOk rfl 4 rfl rfl ?_ | refine YQ.load1 tabOk rfl 5 rfl rfl ?_ | refine YQ.load1 tabOk rfl 6 rfl rfl ?_ | refine YQ.load1 tabOk rfl 7 rfl rfl ?_ | refine YQ.loadF tabOk rfl 0 rfl rfl ?_ | refine YQ.loadF tabOk rfl 1 rfl rfl ?_ | refine YQ.loadF tabOk rfl 2 rfl rfl ?_ | refine YQ.loadF tabOk rfl 3 rfl rfl ?_ | refine YQ.loadF tabOk rfl 4 rfl rfl ?_ | refine YQ.loadF tabOk rfl 5 rfl rfl ?_ | refine YQ.loadF tabOk rfl 6 rfl rfl ?_ | refine YQ.loadF tabOk rfl 7 rfl rfl ?_ | refine YQ.loadA tabOk rfl 0 rfl rfl rfl ?_ | refine YQ.loadA tabOk rfl 1 rfl rfl rfl ?_ | refine YQ.loadA tabOk rfl 2 rfl rfl rfl ?_ | refine YQ.loadA tabOk rfl 3 rfl rfl rfl ?_ | refine YQ.loadA tabOk rfl 4 rfl rfl rfl ?_ | refine YQ.build tabOk rfl rfl rfl ?_ | refine YQ.eqF tabOk rfl rfl rfl ?_ | refine YQ.neF tabOk rfl rfl rfl ?_)
    | (show YU _ _ _ _ _ _ _ _; first | refine YU.store1L tabOk rfl rfl 0 rfl rfl ?_ | refine YU.store1L tabOk rfl rfl 1 rfl rfl ?_ | refine YU.store1L tabOk rfl rfl 2 rfl rfl ?_ | refine YU.store1L tabOk rfl rfl 3 rfl rfl ?_ | refine YU.store1L tabOk rfl rfl 4 rfl rfl ?_ | refine YU.store1L tabOk rfl rfl 5 rfl rfl ?_ | refine YU.store1L tabOk rfl rfl 6 rfl rfl ?_ | refine YU.store1L tabOk rfl rfl 7 rfl rfl ?_ | refine YU.storeF tabOk rfl rfl rfl 0 rfl rfl ?_ | refine YU.storeF tabOk rfl rfl rfl 1 rfl rfl ?_ | refine YU.storeF tabOk rfl rfl rfl 2 rfl rfl ?_ | refine YU.storeF tabOk rfl rfl rfl 3 rfl rfl ?_ | refine YU.storeF tabOk rfl rfl rfl 4 rfl rfl ?_ | refine YU.storeF tabOk rfl rfl rfl 5 rfl rfl ?_ | refine YU.storeF tabOk rfl rfl rfl 6 rfl rfl ?_ | refine YU.storeF tabOk rfl rfl rfl 7 rfl rfl ?_ | refine YU.storeAL tabOk rfl rfl rfl 0 rfl rfl ?_ | refine YU.storeAL tabOk rfl rfl rfl 1 rfl rfl ?_ | refine YU.storeAL tabOk rfl rfl rfl 2 rfl rfl ?_ | refine YU.storeAL tabOk rfl rfl rfl 3 rfl rfl ?_ | refine YU.storeAL tabOk rfl rfl rfl 4 rfl rfl ?_)
    | (show Wr _ _ _; first | refine Wr.i64 (by omega) ?_ | refine Wr.u8 (by omega) ?_ | refine Wr.u16 (by omega) ?_ | refine Wr.u32 (by omega) ?_)
    | (show BIf _ _ _; first | refine BIf.pos rfl ?_ | refine BIf.neg rfl ?_)
    | (show Dr _ _ _ _ _ _ _ _ _; first | refine Dr.all (by kernel_rfl) ?_)
    | (show Fork _ _; first | refine Fork.mk ?_ ?_)
    | (show Vc.Fin _ _ _; first | refine Fin.take 0 (And.intro ?_ rfl))
    | intro b)
  all_goals
    show Value.bool _ = Value.bool _
    congr 1
    rw [Bool.eq_iff_iff]
    simp
    try omega
section
variable (j : Nat) (Ro : List Int) (Bo : List Fo) (hR : Ro.length = 16) (hB : Bo.length = 8) (lv : Value) (lost : Int)
include hR hB
theorem rflush_con (st pg : Int) (all : Bool) (w : World) (hw : Own w [iomR j Ro Bo lv lost]) : Con Try.prog 61 [.pointer (some ⟨j, 0, none⟩), .int .i64 st, .int .i64 pg, .bool all] w [iomR j Ro Bo lv lost]
    (fun y L' => y = .int .i64 (cnt (prF st pg all) Bo) ∧ L' = [iomR j Ro (clr (prF st pg all) Bo) lv lost]) := by
  have hN := cnt_le (prF st pg all)
  refine Con.of_vc tabOk 48 [.tmp 8] Try.func61 rfl Try.ntmps61 Try.results61 rfl hw ?_
  repeat' ((conv => whnf); first
    | (show _ ∧ _; first | (obtain ⟨rfl, rfl⟩ := hx; refine ⟨rfl, ?_⟩) | (obtain ⟨b, rfl, rfl⟩ := hx; refine ⟨rfl, ?_⟩) | (obtain ⟨b, c, rfl, rfl⟩ := hx; refine ⟨rfl, ?_⟩))
    | (show gsplit _ _ _; first | refine gsplit.tt ?_ | refine gsplit.ff ?_ | refine gsplit.dpos (by omega) ?_ | refine gsplit.dneg (by omega) ?_ | refine gsplit.npos (by omega) ?_ | refine gsplit.nneg (by omega) ?_ | refine gsplit.dec (fun hc => ?_) (fun hc => ?_) | refine gsplit.ndec (fun hc => ?_) (fun hc => ?_) | refine gsplit.eq (fun hc => ?_) (fun hc => ?_) | refine gsplit.neq (fun hc => ?_) (fun hc => ?_) | refine gsplit.mk (fun hb => ?_) (fun hb => ?_))
    | (show YQ _ _ _ _ _ _; first | refine YQ.loadRowP tabOk rfl 0 i rfl foV_len (clr_at _ _ i (by omega)) (by rw [rows_length rtV_len]; omega) ?_ | refine YQ.remN (by omega) ?_ | refine YQ.quoN (by omega) ?_ | refine YQ.len tabOk rfl ?_ | refine YQ.idx tabOk rfl (by omega) ?_ | refine YQ.idxA tabOk rfl (by omega) ?_ | refine YQ.sliceA tabOk rfl (by omega) (by omega) ?_ | refine YQ.sliceAll tabOk rfl ?_ | refine YQ.load1 tabOk rfl 0 rfl rfl ?_ | refine YQ.load1 tabOk rfl 1 rfl rfl ?_ | refine YQ.load1 tabOk rfl 2 rfl rfl ?_ | refine YQ.load1 tabOk rfl 3 rfl rfl ?_ | refine YQ.load1 tabOk rfl 4 rfl rfl ?_ | refine YQ.load1 tabOk rfl 5 rfl rfl ?_ | refine YQ.load1 tabOk rfl 6 rfl rfl ?_ | refine YQ.load1 tabOk rfl 7 rfl rfl ?_ | refine YQ.loadF tabOk rfl 0 rfl rfl ?_ | refine YQ.loadF tabOk rfl 1 rfl rfl ?_ | refine YQ.loadF tabOk rfl 2 rfl rfl ?_ | refine YQ.loadF tabOk rfl 3 rfl rfl ?_ | refine YQ.loadF tabOk rfl 4 rfl rfl ?_ | refine YQ.loadF tabOk rfl 5 rfl rfl ?_ | refine YQ.loadF tabOk rfl 6 rfl rfl ?_ | refine YQ.loadF tabOk rfl 7 rfl rfl ?_ | refine YQ.loadA tabOk rfl 0 rfl rfl rfl ?_ | refine YQ.loadA tabOk rfl 1 rfl rfl rfl ?_ | refine YQ.loadA tabOk rfl 2 rfl rfl rfl ?_ | refine YQ.loadA tabOk rfl 3 rfl rfl rfl ?_ | refine YQ.loadA tabOk rfl 4 rfl rfl rfl ?_ | refine YQ.build tabOk rfl rfl rfl ?_ | refine YQ.eqF tabOk rfl rfl rfl ?_ | refine YQ.neF tabOk rfl rfl rfl ?_)
    | (show YU _ _ _ _ _ _ _ _; first | refine YU.storeRowP tabOk rfl 0 i rfl foV_len (by rw [clr_length] <;> omega) (by rw [rows_length rtV_len]; omega) fo0 rfl rfl ?_ | refine YU.store1L tabOk rfl rfl 0 rfl rfl ?_ | refine YU.store1L tabOk rfl rfl 1 rfl rfl ?_ | refine YU.store1L tabOk rfl rfl 2 rfl rfl ?_ | refine YU.store1L tabOk rfl rfl 3 rfl rfl ?_ | refine YU.store1L tabOk rfl rfl 4 rfl rfl ?_ | refine YU.store1L tabOk rfl rfl 5 rfl rfl ?_ | refine YU.store1L tabOk rfl rfl 6 rfl rfl ?_ | refine YU.store1L tabOk rfl rfl 7 rfl rfl ?_ | refine YU.storeF tabOk rfl rfl rfl 0 rfl rfl ?_ | refine YU.storeF tabOk rfl rfl rfl 1 rfl rfl ?_ | refine YU.storeF tabOk rfl rfl rfl 2 rfl rfl ?_ | refine YU.storeF tabOk rfl rfl rfl 3 rfl rfl ?_ | refine YU.storeF tabOk rfl rfl rfl 4 rfl rfl ?_ | refine YU.storeF tabOk rfl rfl rfl 5 rfl rfl ?_ | refine YU.storeF tabOk rfl rfl rfl 6 rfl rfl ?_ | refine YU.storeF tabOk rfl rfl rfl 7 rfl rfl ?_ | refine YU.storeAL tabOk rfl rfl rfl 0 rfl rfl ?_ | refine YU.storeAL tabOk rfl rfl rfl 1 rfl rfl ?_ | refine YU.storeAL tabOk rfl rfl rfl 2 rfl rfl ?_ | refine YU.storeAL tabOk rfl rfl rfl 3 rfl rfl ?_ | refine YU.storeAL tabOk rfl rfl rfl 4 rfl rfl ?_)
    | (show Wr _ _ _; first | refine Wr.i64 (by have := hN (Bo.take i); rw [List.length_take] at this; omega) ?_ | refine Wr.i64 (by omega) ?_ | refine Wr.u8 (by omega) ?_ | refine Wr.u16 (by omega) ?_ | refine Wr.u32 (by omega) ?_)
    | (show BIf _ _ _; first | refine BIf.pos rfl ?_ | refine BIf.neg rfl ?_)
    | (show Lp _ _ _ _ _; first | refine Lp.mk (α := Nat) [10, 9] [0, 1, 2, 3] _ (fun i => [.int .i64 i, .int .i64 (cnt (prF st pg all) (Bo.take i))]) (fun i => [iomR j Ro (clr (prF st pg all) (Bo.take i) ++ Bo.drop i) lv lost]) (fun i => i ≤ 8) (fun i => 8 - i) rfl rfl 0 (by omega) rfl ⟨_, rfl⟩ (fun i hi => ?_))
    | (show Dr _ _ _ _ _ _ _ _ _; first | refine Dr.all (by kernel_rfl) ?_)
    | (show Fork _ _; first | refine Fork.mk ?_ ?_)
    | (show Vc.Fin _ _ _; first | (refine Fin.take 1 (And.intro ?_ ?_)))
    | refine ⟨i + 1, by omega, by omega, ?_, ?_⟩
    | intro b)
  all_goals first
    | (rw [cnt_t _ _ i (by omega) (by simp_all [prF])]; rfl)
    | (rw [cnt_f _ _ i (by omega) (by simp_all [prF])]; rfl)
    | (rw [← clr_t _ _ i (by omega) (by simp_all [prF])]; exact ⟨_, rfl⟩)
    | (rw [← clr_f _ _ i (by omega) (by simp_all [prF])]; exact ⟨_, rfl⟩)
    | (rw [show Bo.take i = Bo from List.take_of_length_le (by omega)]; rfl)
    | (rw [show Bo.take i = Bo from List.take_of_length_le (by omega), List.drop_eq_nil_of_le (by omega), List.append_nil]; rfl)
def attRo (st root : Int) (Ro : List Int) : List Int := if isS st ∧ 0 ≤ root ∧ root ≤ 1023 then Ro.set st.toNat (root + 1) else Ro
def attBo (st root : Int) (Bo : List Fo) : List Fo := if isS st ∧ 0 ≤ root ∧ root ≤ 1023 then clr (prF st 0 true) Bo else Bo
def detRo (st : Int) (Ro : List Int) : List Int := if isS st then Ro.set st.toNat 0 else Ro
def detBo (st : Int) (Bo : List Fo) : List Fo := if isS st then clr (prF st 0 true) Bo else Bo
def eviBo (a : Int) (Bo : List Fo) : List Fo := if 0 ≤ a ∧ a ≤ 7 then Bo.set a.toNat fo0 else Bo
theorem rattach_con (st root : Int) (w : World) (hw : Own w [iomR j Ro Bo lv lost]) : Con Try.prog 56 [.pointer (some ⟨j, 0, none⟩), .int .i64 st, .int .i64 root] w [iomR j Ro Bo lv lost]
    (fun y L' => y = .int .i64 (attE st root) ∧ L' = [iomR j (attRo st root Ro) (attBo st root Bo) lv lost]) := by
  refine Con.of_vc tabOk 28 [.tmp 6] Try.func56 rfl Try.ntmps56 Try.results56 rfl hw ?_
  repeat' ((conv => whnf); first
    | (show _ ∧ _; first | (obtain ⟨rfl, rfl⟩ := hx; refine ⟨rfl, ?_⟩) | (obtain ⟨b, rfl, rfl⟩ := hx; refine ⟨rfl, ?_⟩) | (obtain ⟨b, c, rfl, rfl⟩ := hx; refine ⟨rfl, ?_⟩))
    | (show gsplit _ _ _; first | refine gsplit.tt ?_ | refine gsplit.ff ?_ | refine gsplit.dpos (by omega) ?_ | refine gsplit.dneg (by omega) ?_ | refine gsplit.npos (by omega) ?_ | refine gsplit.nneg (by omega) ?_ | refine gsplit.dec (fun hc => ?_) (fun hc => ?_) | refine gsplit.ndec (fun hc => ?_) (fun hc => ?_) | refine gsplit.eq (fun hc => ?_) (fun hc => ?_) | refine gsplit.neq (fun hc => ?_) (fun hc => ?_) | refine gsplit.mk (fun hb => ?_) (fun hb => ?_))
    | (show YQ _ _ _ _ _ _; first | refine YQ.remN (by omega) ?_ | refine YQ.quoN (by omega) ?_ | refine YQ.len tabOk rfl ?_ | refine YQ.idx tabOk rfl (by omega) ?_ | refine YQ.idxA tabOk rfl (by omega) ?_ | refine YQ.sliceA tabOk rfl (by omega) (by omega) ?_ | refine YQ.sliceAll tabOk rfl ?_ | refine YQ.load1 tabOk rfl 0 rfl rfl ?_ | refine YQ.load1 tabOk rfl 1 rfl rfl ?_ | refine YQ.load1 tabOk rfl 2 rfl rfl ?_ | refine YQ.load1 tabOk rfl 3 rfl rfl ?_ | refine YQ.load1 tabOk rfl 4 rfl rfl ?_ | refine YQ.load1 tabOk rfl 5 rfl rfl ?_ | refine YQ.load1 tabOk rfl 6 rfl rfl ?_ | refine YQ.load1 tabOk rfl 7 rfl rfl ?_ | refine YQ.loadF tabOk rfl 0 rfl rfl ?_ | refine YQ.loadF tabOk rfl 1 rfl rfl ?_ | refine YQ.loadF tabOk rfl 2 rfl rfl ?_ | refine YQ.loadF tabOk rfl 3 rfl rfl ?_ | refine YQ.loadF tabOk rfl 4 rfl rfl ?_ | refine YQ.loadF tabOk rfl 5 rfl rfl ?_ | refine YQ.loadF tabOk rfl 6 rfl rfl ?_ | refine YQ.loadF tabOk rfl 7 rfl rfl ?_ | refine YQ.loadA tabOk rfl 0 rfl rfl rfl ?_ | refine YQ.loadA tabOk rfl 1 rfl rfl rfl ?_ | refine YQ.loadA tabOk rfl 2 rfl rfl rfl ?_ | refine YQ.loadA tabOk rfl 3 rfl rfl rfl ?_ | refine YQ.loadA tabOk rfl 4 rfl rfl rfl ?_ | refine YQ.build tabOk rfl rfl rfl ?_ | refine YQ.eqF tabOk rfl rfl rfl ?_ | refine YQ.neF tabOk rfl rfl rfl ?_)
    | (show YC _ _ _ _ _ _ _; first | refine YC.conR [] [] rfl rfl (fun w _ _ => ris_con st w) (fun x L' hx => ?_) | refine YC.conR [0] _ rfl rfl (fun w hw0 hw => rflush_con j _ Bo (by rw [List.length_set]; exact hR) hB lv lost st 0 true w hw) (fun x L' hx => ?_))
    | (show YU _ _ _ _ _ _ _ _; first | refine YU.storeRc tabOk rfl rfl 0 st.toNat rfl rtV_len (List.getElem?_eq_getElem (by omega)) 0 (by omega) (by omega) (root + 1) rfl ?_ | refine YU.store1L tabOk rfl rfl 0 rfl rfl ?_ | refine YU.store1L tabOk rfl rfl 1 rfl rfl ?_ | refine YU.store1L tabOk rfl rfl 2 rfl rfl ?_ | refine YU.store1L tabOk rfl rfl 3 rfl rfl ?_ | refine YU.store1L tabOk rfl rfl 4 rfl rfl ?_ | refine YU.store1L tabOk rfl rfl 5 rfl rfl ?_ | refine YU.store1L tabOk rfl rfl 6 rfl rfl ?_ | refine YU.store1L tabOk rfl rfl 7 rfl rfl ?_ | refine YU.storeF tabOk rfl rfl rfl 0 rfl rfl ?_ | refine YU.storeF tabOk rfl rfl rfl 1 rfl rfl ?_ | refine YU.storeF tabOk rfl rfl rfl 2 rfl rfl ?_ | refine YU.storeF tabOk rfl rfl rfl 3 rfl rfl ?_ | refine YU.storeF tabOk rfl rfl rfl 4 rfl rfl ?_ | refine YU.storeF tabOk rfl rfl rfl 5 rfl rfl ?_ | refine YU.storeF tabOk rfl rfl rfl 6 rfl rfl ?_ | refine YU.storeF tabOk rfl rfl rfl 7 rfl rfl ?_ | refine YU.storeAL tabOk rfl rfl rfl 0 rfl rfl ?_ | refine YU.storeAL tabOk rfl rfl rfl 1 rfl rfl ?_ | refine YU.storeAL tabOk rfl rfl rfl 2 rfl rfl ?_ | refine YU.storeAL tabOk rfl rfl rfl 3 rfl rfl ?_ | refine YU.storeAL tabOk rfl rfl rfl 4 rfl rfl ?_)
    | (show Wr _ _ _; first | refine Wr.i64 (by omega) ?_ | refine Wr.u8 (by omega) ?_ | refine Wr.u16 (by omega) ?_ | refine Wr.u32 (by omega) ?_)
    | (show BIf _ _ _; first | refine BIf.pos rfl ?_ | refine BIf.neg rfl ?_)
    | (show Dr _ _ _ _ _ _ _ _ _; first | refine Dr.all (by kernel_rfl) ?_)
    | (show Fork _ _; first | refine Fork.mk ?_ ?_)
    | (show Vc.Fin _ _ _; first | refine Fin.take 1 (And.intro ?_ ?_))
    | intro b)
  all_goals first
    | (unfold attE; (repeat' split) <;> first | rfl | contradiction | (exfalso; omega))
    | (unfold attRo attBo; (repeat' split) <;> first | rfl | contradiction | (exfalso; omega))
theorem rdetach_con (st : Int) (w : World) (hw : Own w [iomR j Ro Bo lv lost]) : Con Try.prog 58 [.pointer (some ⟨j, 0, none⟩), .int .i64 st] w [iomR j Ro Bo lv lost]
    (fun y L' => y = .int .i64 (detE st) ∧ L' = [iomR j (detRo st Ro) (detBo st Bo) lv lost]) := by
  refine Con.of_vc tabOk 18 [.tmp 4] Try.func58 rfl Try.ntmps58 Try.results58 rfl hw ?_
  repeat' ((conv => whnf); first
    | (show _ ∧ _; first | (obtain ⟨rfl, rfl⟩ := hx; refine ⟨rfl, ?_⟩) | (obtain ⟨b, rfl, rfl⟩ := hx; refine ⟨rfl, ?_⟩) | (obtain ⟨b, c, rfl, rfl⟩ := hx; refine ⟨rfl, ?_⟩))
    | (show gsplit _ _ _; first | refine gsplit.tt ?_ | refine gsplit.ff ?_ | refine gsplit.dpos (by omega) ?_ | refine gsplit.dneg (by omega) ?_ | refine gsplit.npos (by omega) ?_ | refine gsplit.nneg (by omega) ?_ | refine gsplit.dec (fun hc => ?_) (fun hc => ?_) | refine gsplit.ndec (fun hc => ?_) (fun hc => ?_) | refine gsplit.eq (fun hc => ?_) (fun hc => ?_) | refine gsplit.neq (fun hc => ?_) (fun hc => ?_) | refine gsplit.mk (fun hb => ?_) (fun hb => ?_))
    | (show YQ _ _ _ _ _ _; first | refine YQ.remN (by omega) ?_ | refine YQ.quoN (by omega) ?_ | refine YQ.len tabOk rfl ?_ | refine YQ.idx tabOk rfl (by omega) ?_ | refine YQ.idxA tabOk rfl (by omega) ?_ | refine YQ.sliceA tabOk rfl (by omega) (by omega) ?_ | refine YQ.sliceAll tabOk rfl ?_ | refine YQ.load1 tabOk rfl 0 rfl rfl ?_ | refine YQ.load1 tabOk rfl 1 rfl rfl ?_ | refine YQ.load1 tabOk rfl 2 rfl rfl ?_ | refine YQ.load1 tabOk rfl 3 rfl rfl ?_ | refine YQ.load1 tabOk rfl 4 rfl rfl ?_ | refine YQ.load1 tabOk rfl 5 rfl rfl ?_ | refine YQ.load1 tabOk rfl 6 rfl rfl ?_ | refine YQ.load1 tabOk rfl 7 rfl rfl ?_ | refine YQ.loadF tabOk rfl 0 rfl rfl ?_ | refine YQ.loadF tabOk rfl 1 rfl rfl ?_ | refine YQ.loadF tabOk rfl 2 rfl rfl ?_ | refine YQ.loadF tabOk rfl 3 rfl rfl ?_ | refine YQ.loadF tabOk rfl 4 rfl rfl ?_ | refine YQ.loadF tabOk rfl 5 rfl rfl ?_ | refine YQ.loadF tabOk rfl 6 rfl rfl ?_ | refine YQ.loadF tabOk rfl 7 rfl rfl ?_ | refine YQ.loadA tabOk rfl 0 rfl rfl rfl ?_ | refine YQ.loadA tabOk rfl 1 rfl rfl rfl ?_ | refine YQ.loadA tabOk rfl 2 rfl rfl rfl ?_ | refine YQ.loadA tabOk rfl 3 rfl rfl rfl ?_ | refine YQ.loadA tabOk rfl 4 rfl rfl rfl ?_ | refine YQ.build tabOk rfl rfl rfl ?_ | refine YQ.eqF tabOk rfl rfl rfl ?_ | refine YQ.neF tabOk rfl rfl rfl ?_)
    | (show YC _ _ _ _ _ _ _; first | refine YC.conR [] [] rfl rfl (fun w _ _ => ris_con st w) (fun x L' hx => ?_) | refine YC.conR [0] _ rfl rfl (fun w hw0 hw => rflush_con j _ Bo (by rw [List.length_set]; exact hR) hB lv lost st 0 true w hw) (fun x L' hx => ?_))
    | (show YU _ _ _ _ _ _ _ _; first | refine YU.storeRc tabOk rfl rfl 0 st.toNat rfl rtV_len (List.getElem?_eq_getElem (by omega)) 0 (by omega) (by omega) 0 rfl ?_ | refine YU.store1L tabOk rfl rfl 0 rfl rfl ?_ | refine YU.store1L tabOk rfl rfl 1 rfl rfl ?_ | refine YU.store1L tabOk rfl rfl 2 rfl rfl ?_ | refine YU.store1L tabOk rfl rfl 3 rfl rfl ?_ | refine YU.store1L tabOk rfl rfl 4 rfl rfl ?_ | refine YU.store1L tabOk rfl rfl 5 rfl rfl ?_ | refine YU.store1L tabOk rfl rfl 6 rfl rfl ?_ | refine YU.store1L tabOk rfl rfl 7 rfl rfl ?_ | refine YU.storeF tabOk rfl rfl rfl 0 rfl rfl ?_ | refine YU.storeF tabOk rfl rfl rfl 1 rfl rfl ?_ | refine YU.storeF tabOk rfl rfl rfl 2 rfl rfl ?_ | refine YU.storeF tabOk rfl rfl rfl 3 rfl rfl ?_ | refine YU.storeF tabOk rfl rfl rfl 4 rfl rfl ?_ | refine YU.storeF tabOk rfl rfl rfl 5 rfl rfl ?_ | refine YU.storeF tabOk rfl rfl rfl 6 rfl rfl ?_ | refine YU.storeF tabOk rfl rfl rfl 7 rfl rfl ?_ | refine YU.storeAL tabOk rfl rfl rfl 0 rfl rfl ?_ | refine YU.storeAL tabOk rfl rfl rfl 1 rfl rfl ?_ | refine YU.storeAL tabOk rfl rfl rfl 2 rfl rfl ?_ | refine YU.storeAL tabOk rfl rfl rfl 3 rfl rfl ?_ | refine YU.storeAL tabOk rfl rfl rfl 4 rfl rfl ?_)
    | (show Wr _ _ _; first | refine Wr.i64 (by omega) ?_ | refine Wr.u8 (by omega) ?_ | refine Wr.u16 (by omega) ?_ | refine Wr.u32 (by omega) ?_)
    | (show BIf _ _ _; first | refine BIf.pos rfl ?_ | refine BIf.neg rfl ?_)
    | (show Dr _ _ _ _ _ _ _ _ _; first | refine Dr.all (by kernel_rfl) ?_)
    | (show Fork _ _; first | refine Fork.mk ?_ ?_)
    | (show Vc.Fin _ _ _; first | refine Fin.take 1 (And.intro ?_ ?_))
    | intro b)
  all_goals first
    | (unfold detE; (repeat' split) <;> first | rfl | contradiction | (exfalso; omega))
    | (unfold detRo detBo; (repeat' split) <;> first | rfl | contradiction | (exfalso; omega))
theorem revict_con (a : Int) (w : World) (hw : Own w [iomR j Ro Bo lv lost]) : Con Try.prog 63 [.pointer (some ⟨j, 0, none⟩), .int .i64 a] w [iomR j Ro Bo lv lost]
    (fun y L' => y = .int .i64 (eviE a) ∧ L' = [iomR j Ro (eviBo a Bo) lv lost]) := by
  refine Con.of_vc tabOk 17 [.tmp 4] Try.func63 rfl Try.ntmps63 Try.results63 rfl hw ?_
  repeat' ((conv => whnf); first
    | (show _ ∧ _; first | (obtain ⟨rfl, rfl⟩ := hx; refine ⟨rfl, ?_⟩) | (obtain ⟨b, rfl, rfl⟩ := hx; refine ⟨rfl, ?_⟩) | (obtain ⟨b, c, rfl, rfl⟩ := hx; refine ⟨rfl, ?_⟩))
    | (show gsplit _ _ _; first | refine gsplit.tt ?_ | refine gsplit.ff ?_ | refine gsplit.dpos (by omega) ?_ | refine gsplit.dneg (by omega) ?_ | refine gsplit.npos (by omega) ?_ | refine gsplit.nneg (by omega) ?_ | refine gsplit.dec (fun hc => ?_) (fun hc => ?_) | refine gsplit.ndec (fun hc => ?_) (fun hc => ?_) | refine gsplit.eq (fun hc => ?_) (fun hc => ?_) | refine gsplit.neq (fun hc => ?_) (fun hc => ?_) | refine gsplit.mk (fun hb => ?_) (fun hb => ?_))
    | (show YQ _ _ _ _ _ _; first | refine YQ.remN (by omega) ?_ | refine YQ.quoN (by omega) ?_ | refine YQ.len tabOk rfl ?_ | refine YQ.idx tabOk rfl (by omega) ?_ | refine YQ.idxA tabOk rfl (by omega) ?_ | refine YQ.sliceA tabOk rfl (by omega) (by omega) ?_ | refine YQ.sliceAll tabOk rfl ?_ | refine YQ.load1 tabOk rfl 0 rfl rfl ?_ | refine YQ.load1 tabOk rfl 1 rfl rfl ?_ | refine YQ.load1 tabOk rfl 2 rfl rfl ?_ | refine YQ.load1 tabOk rfl 3 rfl rfl ?_ | refine YQ.load1 tabOk rfl 4 rfl rfl ?_ | refine YQ.load1 tabOk rfl 5 rfl rfl ?_ | refine YQ.load1 tabOk rfl 6 rfl rfl ?_ | refine YQ.load1 tabOk rfl 7 rfl rfl ?_ | refine YQ.loadF tabOk rfl 0 rfl rfl ?_ | refine YQ.loadF tabOk rfl 1 rfl rfl ?_ | refine YQ.loadF tabOk rfl 2 rfl rfl ?_ | refine YQ.loadF tabOk rfl 3 rfl rfl ?_ | refine YQ.loadF tabOk rfl 4 rfl rfl ?_ | refine YQ.loadF tabOk rfl 5 rfl rfl ?_ | refine YQ.loadF tabOk rfl 6 rfl rfl ?_ | refine YQ.loadF tabOk rfl 7 rfl rfl ?_ | refine YQ.loadA tabOk rfl 0 rfl rfl rfl ?_ | refine YQ.loadA tabOk rfl 1 rfl rfl rfl ?_ | refine YQ.loadA tabOk rfl 2 rfl rfl rfl ?_ | refine YQ.loadA tabOk rfl 3 rfl rfl rfl ?_ | refine YQ.loadA tabOk rfl 4 rfl rfl rfl ?_ | refine YQ.build tabOk rfl rfl rfl ?_ | refine YQ.eqF tabOk rfl rfl rfl ?_ | refine YQ.neF tabOk rfl rfl rfl ?_)
    | (show YU _ _ _ _ _ _ _ _; first | refine YU.storeRowP tabOk rfl 0 a.toNat rfl foV_len (by omega) (by rw [rows_length rtV_len]; omega) fo0 rfl rfl ?_ | refine YU.store1L tabOk rfl rfl 0 rfl rfl ?_ | refine YU.store1L tabOk rfl rfl 1 rfl rfl ?_ | refine YU.store1L tabOk rfl rfl 2 rfl rfl ?_ | refine YU.store1L tabOk rfl rfl 3 rfl rfl ?_ | refine YU.store1L tabOk rfl rfl 4 rfl rfl ?_ | refine YU.store1L tabOk rfl rfl 5 rfl rfl ?_ | refine YU.store1L tabOk rfl rfl 6 rfl rfl ?_ | refine YU.store1L tabOk rfl rfl 7 rfl rfl ?_ | refine YU.storeF tabOk rfl rfl rfl 0 rfl rfl ?_ | refine YU.storeF tabOk rfl rfl rfl 1 rfl rfl ?_ | refine YU.storeF tabOk rfl rfl rfl 2 rfl rfl ?_ | refine YU.storeF tabOk rfl rfl rfl 3 rfl rfl ?_ | refine YU.storeF tabOk rfl rfl rfl 4 rfl rfl ?_ | refine YU.storeF tabOk rfl rfl rfl 5 rfl rfl ?_ | refine YU.storeF tabOk rfl rfl rfl 6 rfl rfl ?_ | refine YU.storeF tabOk rfl rfl rfl 7 rfl rfl ?_ | refine YU.storeAL tabOk rfl rfl rfl 0 rfl rfl ?_ | refine YU.storeAL tabOk rfl rfl rfl 1 rfl rfl ?_ | refine YU.storeAL tabOk rfl rfl rfl 2 rfl rfl ?_ | refine YU.storeAL tabOk rfl rfl rfl 3 rfl rfl ?_ | refine YU.storeAL tabOk rfl rfl rfl 4 rfl rfl ?_)
    | (show Wr _ _ _; first | refine Wr.i64 (by omega) ?_ | refine Wr.u8 (by omega) ?_ | refine Wr.u16 (by omega) ?_ | refine Wr.u32 (by omega) ?_)
    | (show BIf _ _ _; first | refine BIf.pos rfl ?_ | refine BIf.neg rfl ?_)
    | (show Dr _ _ _ _ _ _ _ _ _; first | refine Dr.all (by kernel_rfl) ?_)
    | (show Fork _ _; first | refine Fork.mk ?_ ?_)
    | (show Vc.Fin _ _ _; first | refine Fin.take 1 (And.intro ?_ ?_))
    | intro b)
  all_goals first
    | (unfold eviE; (repeat' split) <;> first | rfl | contradiction | (exfalso; omega))
    | (unfold eviBo; (repeat' split) <;> first | rfl | contradiction | (exfalso; omega))
theorem rroot_con (st : Int) (hh : ∀ x, x ∈ Ro → 0 ≤ x ∧ x ≤ 1024) (w : World) (hw : Own w [iomR j Ro Bo lv lost]) : Con Try.prog 68 [.pointer (some ⟨j, 0, none⟩), .int .i64 st] w [iomR j Ro Bo lv lost]
    (fun y L' => y = .int .i64 (if isS st then Ro.getD st.toNat 0 - 1 else -1) ∧ L' = [iomR j Ro Bo lv lost]) := by
  refine Con.of_vc tabOk 17 [.tmp 4] Try.func68 rfl Try.ntmps68 Try.results68 rfl hw ?_
  repeat' ((conv => whnf); first
    | (show _ ∧ _; first | (obtain ⟨rfl, rfl⟩ := hx; refine ⟨rfl, ?_⟩) | (obtain ⟨b, rfl, rfl⟩ := hx; refine ⟨rfl, ?_⟩) | (obtain ⟨b, c, rfl, rfl⟩ := hx; refine ⟨rfl, ?_⟩))
    | (show gsplit _ _ _; first | refine gsplit.tt ?_ | refine gsplit.ff ?_ | refine gsplit.dpos (by omega) ?_ | refine gsplit.dneg (by omega) ?_ | refine gsplit.npos (by omega) ?_ | refine gsplit.nneg (by omega) ?_ | refine gsplit.dec (fun hc => ?_) (fun hc => ?_) | refine gsplit.ndec (fun hc => ?_) (fun hc => ?_) | refine gsplit.eq (fun hc => ?_) (fun hc => ?_) | refine gsplit.neq (fun hc => ?_) (fun hc => ?_) | refine gsplit.mk (fun hb => ?_) (fun hb => ?_))
    | (show YQ _ _ _ _ _ _; first | refine YQ.loadR tabOk rfl 0 st.toNat rfl rtV_len (List.getElem?_eq_getElem (by omega)) 0 (by omega) rfl ?_ | refine YQ.remN (by omega) ?_ | refine YQ.quoN (by omega) ?_ | refine YQ.len tabOk rfl ?_ | refine YQ.idx tabOk rfl (by omega) ?_ | refine YQ.idxA tabOk rfl (by omega) ?_ | refine YQ.sliceA tabOk rfl (by omega) (by omega) ?_ | refine YQ.sliceAll tabOk rfl ?_ | refine YQ.load1 tabOk rfl 0 rfl rfl ?_ | refine YQ.load1 tabOk rfl 1 rfl rfl ?_ | refine YQ.load1 tabOk rfl 2 rfl rfl ?_ | refine YQ.load1 tabOk rfl 3 rfl rfl ?_ | refine YQ.load1 tabOk rfl 4 rfl rfl ?_ | refine YQ.load1 tabOk rfl 5 rfl rfl ?_ | refine YQ.load1 tabOk rfl 6 rfl rfl ?_ | refine YQ.load1 tabOk rfl 7 rfl rfl ?_ | refine YQ.loadF tabOk rfl 0 rfl rfl ?_ | refine YQ.loadF tabOk rfl 1 rfl rfl ?_ | refine YQ.loadF tabOk rfl 2 rfl rfl ?_ | refine YQ.loadF tabOk rfl 3 rfl rfl ?_ | refine YQ.loadF tabOk rfl 4 rfl rfl ?_ | refine YQ.loadF tabOk rfl 5 rfl rfl ?_ | refine YQ.loadF tabOk rfl 6 rfl rfl ?_ | refine YQ.loadF tabOk rfl 7 rfl rfl ?_ | refine YQ.loadA tabOk rfl 0 rfl rfl rfl ?_ | refine YQ.loadA tabOk rfl 1 rfl rfl rfl ?_ | refine YQ.loadA tabOk rfl 2 rfl rfl rfl ?_ | refine YQ.loadA tabOk rfl 3 rfl rfl rfl ?_ | refine YQ.loadA tabOk rfl 4 rfl rfl rfl ?_ | refine YQ.build tabOk rfl rfl rfl ?_ | refine YQ.eqF tabOk rfl rfl rfl ?_ | refine YQ.neF tabOk rfl rfl rfl ?_)
    | (show YC _ _ _ _ _ _ _; first | refine YC.conR [] [] rfl rfl (fun w _ _ => ris_con st w) (fun x L' hx => ?_))
    | (show YU _ _ _ _ _ _ _ _; first | refine YU.store1L tabOk rfl rfl 0 rfl rfl ?_ | refine YU.store1L tabOk rfl rfl 1 rfl rfl ?_ | refine YU.store1L tabOk rfl rfl 2 rfl rfl ?_ | refine YU.store1L tabOk rfl rfl 3 rfl rfl ?_ | refine YU.store1L tabOk rfl rfl 4 rfl rfl ?_ | refine YU.store1L tabOk rfl rfl 5 rfl rfl ?_ | refine YU.store1L tabOk rfl rfl 6 rfl rfl ?_ | refine YU.store1L tabOk rfl rfl 7 rfl rfl ?_ | refine YU.storeF tabOk rfl rfl rfl 0 rfl rfl ?_ | refine YU.storeF tabOk rfl rfl rfl 1 rfl rfl ?_ | refine YU.storeF tabOk rfl rfl rfl 2 rfl rfl ?_ | refine YU.storeF tabOk rfl rfl rfl 3 rfl rfl ?_ | refine YU.storeF tabOk rfl rfl rfl 4 rfl rfl ?_ | refine YU.storeF tabOk rfl rfl rfl 5 rfl rfl ?_ | refine YU.storeF tabOk rfl rfl rfl 6 rfl rfl ?_ | refine YU.storeF tabOk rfl rfl rfl 7 rfl rfl ?_ | refine YU.storeAL tabOk rfl rfl rfl 0 rfl rfl ?_ | refine YU.storeAL tabOk rfl rfl rfl 1 rfl rfl ?_ | refine YU.storeAL tabOk rfl rfl rfl 2 rfl rfl ?_ | refine YU.storeAL tabOk rfl rfl rfl 3 rfl rfl ?_ | refine YU.storeAL tabOk rfl rfl rfl 4 rfl rfl ?_)
    | (show Wr _ _ _; first | refine Wr.i64 (by have h9 := hh _ (List.getElem_mem (show st.toNat < Ro.length by omega)); omega) ?_ | refine Wr.i64 (by omega) ?_ | refine Wr.u8 (by omega) ?_ | refine Wr.u16 (by omega) ?_ | refine Wr.u32 (by omega) ?_)
    | (show BIf _ _ _; first | refine BIf.pos rfl ?_ | refine BIf.neg rfl ?_)
    | (show Dr _ _ _ _ _ _ _ _ _; first | refine Dr.all (by kernel_rfl) ?_)
    | (show Fork _ _; first | refine Fork.mk ?_ ?_)
    | (show Vc.Fin _ _ _; first | refine Fin.take 1 (And.intro ?_ ?_))
    | intro b)
  all_goals first
    | rfl
    | ((repeat' split) <;> first | rfl | contradiction | (exfalso; omega) | (rw [List.getD_eq_getElem?_getD, List.getElem?_eq_getElem (by omega)]; rfl))
def newF (o : Option Fd) (k : Int) (Bo : List Fo) : List Fo := match o with | some f => Bo.set k.toNat ⟨true, f⟩ | none => Bo
theorem rfind_con (q B2 n : Nat) (hn : n ≤ 1024) (xs : List Int) (hx0 : By xs) (hl : xs.length = n * 64) (st pg want : Int) (hst : isS st) (hpg : 0 ≤ pg ∧ pg ≤ 1023) (o : Option Fd) (ro : Option Int) (hro : ∀ r, ro = some r → 0 ≤ r ∧ r ≤ 1023)
    (hBo : Bo[(pg % 8).toNat]? = some (foO o)) (hRo : Ro[st.toNat]? = some (rtO ro)) (w : World) (hw : Own w [iomR j Ro Bo lv lost, refE q B2 n, byE B2 xs]) :
    Con Try.prog 96 [.pointer (some ⟨j, 0, none⟩), .pointer (some ⟨q, 0, none⟩), .int .i64 st, .int .i64 pg, .int .i64 want] w [iomR j Ro Bo lv lost, refE q B2 n, byE B2 xs]
      (fun y L' => y = .tuple #[.int .i64 (fnd o ro n xs st pg want).a, .int .i64 (fnd o ro n xs st pg want).k] ∧ L' = [iomR j Ro (newF (fnd o ro n xs st pg want).new (pg % 8) Bo) lv lost, refE q B2 n, byE B2 xs]) := by
  rcases o with _ | f <;> rcases ro with _ | root
  all_goals first | have hr0 := hro _ rfl | skip
  all_goals first | have hRo : Ro[st.toNat]? = some (root + 1) := hRo | have hRo : Ro[st.toNat]? = some 0 := hRo
  all_goals
    refine Con.of_vc tabOk 94 [.tmp 10, .tmp 11] Try.func96 rfl Try.ntmps96 Try.results96 rfl hw ?_
    repeat' ((conv => whnf); first
      | (show _ ∧ _; first | (obtain ⟨rfl, rfl⟩ := hx; refine ⟨rfl, ?_⟩) | (obtain ⟨b, rfl, rfl⟩ := hx; refine ⟨rfl, ?_⟩) | (obtain ⟨b, c, rfl, rfl⟩ := hx; refine ⟨rfl, ?_⟩))
      | (show gsplit _ _ _; first | refine gsplit.tt ?_ | refine gsplit.ff ?_ | refine gsplit.dpos (by omega) ?_ | refine gsplit.dneg (by omega) ?_ | refine gsplit.npos (by omega) ?_ | refine gsplit.nneg (by omega) ?_ | refine gsplit.dec (fun hc => ?_) (fun hc => ?_) | refine gsplit.ndec (fun hc => ?_) (fun hc => ?_) | refine gsplit.eq (fun hc => ?_) (fun hc => ?_) | refine gsplit.neq (fun hc => ?_) (fun hc => ?_) | refine gsplit.mk (fun hb => ?_) (fun hb => ?_))
      | (show YQ _ _ _ _ _ _; first | refine YQ.loadRowPE tabOk (foL _) (foL_eq _) rfl 0 (pg % 8).toNat rfl foV_len hBo (by rw [rows_length rtV_len]; omega) ?_ | refine YQ.loadR tabOk rfl 0 st.toNat rfl rtV_len hRo 0 (by omega) rfl ?_ | refine YQ.bits (.inl rfl) ?_ | refine YQ.remN (by omega) ?_ | refine YQ.quoN (by omega) ?_ | refine YQ.len tabOk rfl ?_ | refine YQ.idx tabOk rfl (by omega) ?_ | refine YQ.idxA tabOk rfl (by omega) ?_ | refine YQ.sliceA tabOk rfl (by omega) (by omega) ?_ | refine YQ.sliceAll tabOk rfl ?_ | refine YQ.load1 tabOk rfl 0 rfl rfl ?_ | refine YQ.load1 tabOk rfl 1 rfl rfl ?_ | refine YQ.load1 tabOk rfl 2 rfl rfl ?_ | refine YQ.load1 tabOk rfl 3 rfl rfl ?_ | refine YQ.load1 tabOk rfl 4 rfl rfl ?_ | refine YQ.load1 tabOk rfl 5 rfl rfl ?_ | refine YQ.load1 tabOk rfl 6 rfl rfl ?_ | refine YQ.load1 tabOk rfl 7 rfl rfl ?_ | refine YQ.loadF tabOk rfl 0 rfl rfl ?_ | refine YQ.loadF tabOk rfl 1 rfl rfl ?_ | refine YQ.loadF tabOk rfl 2 rfl rfl ?_ | refine YQ.loadF tabOk rfl 3 rfl rfl ?_ | refine YQ.loadF tabOk rfl 4 rfl rfl ?_ | refine YQ.loadF tabOk rfl 5 rfl rfl ?_ | refine YQ.loadF tabOk rfl 6 rfl rfl ?_ | refine YQ.loadF tabOk rfl 7 rfl rfl ?_ | refine YQ.loadA tabOk rfl 0 rfl rfl rfl ?_ | refine YQ.loadA tabOk rfl 1 rfl rfl rfl ?_ | refine YQ.loadA tabOk rfl 2 rfl rfl rfl ?_ | refine YQ.loadA tabOk rfl 3 rfl rfl rfl ?_ | refine YQ.loadA tabOk rfl 4 rfl rfl rfl ?_ | refine YQ.build tabOk rfl rfl rfl ?_ | refine YQ.eqF tabOk rfl rfl rfl ?_ | refine YQ.neF tabOk rfl rfl rfl ?_)
      | (show YC _ _ _ _ _ _ _; first | refine YC.conR [1, 2] _ rfl rfl (fun w hw0 hw => rsingle_con q B2 n hn xs hx0 hl _ pg w hw) (fun x L' hx => ?_) | refine YC.conR [1] _ rfl rfl (fun w hw0 hw => rframes_con q B2 n hn w hw) (fun x L' hx => ?_))
      | (show YU _ _ _ _ _ _ _ _; first | refine YU.storeRowP tabOk rfl 0 (pg % 8).toNat rfl foV_len (by omega) (by rw [rows_length rtV_len]; omega) ⟨true, st, pg, (sgl n xs root pg).a, (sgl n xs root pg).b⟩ rfl rfl ?_ | refine YU.store1L tabOk rfl rfl 0 rfl rfl ?_ | refine YU.store1L tabOk rfl rfl 1 rfl rfl ?_ | refine YU.store1L tabOk rfl rfl 2 rfl rfl ?_ | refine YU.store1L tabOk rfl rfl 3 rfl rfl ?_ | refine YU.store1L tabOk rfl rfl 4 rfl rfl ?_ | refine YU.store1L tabOk rfl rfl 5 rfl rfl ?_ | refine YU.store1L tabOk rfl rfl 6 rfl rfl ?_ | refine YU.store1L tabOk rfl rfl 7 rfl rfl ?_ | refine YU.storeF tabOk rfl rfl rfl 0 rfl rfl ?_ | refine YU.storeF tabOk rfl rfl rfl 1 rfl rfl ?_ | refine YU.storeF tabOk rfl rfl rfl 2 rfl rfl ?_ | refine YU.storeF tabOk rfl rfl rfl 3 rfl rfl ?_ | refine YU.storeF tabOk rfl rfl rfl 4 rfl rfl ?_ | refine YU.storeF tabOk rfl rfl rfl 5 rfl rfl ?_ | refine YU.storeF tabOk rfl rfl rfl 6 rfl rfl ?_ | refine YU.storeF tabOk rfl rfl rfl 7 rfl rfl ?_ | refine YU.storeAL tabOk rfl rfl rfl 0 rfl rfl ?_ | refine YU.storeAL tabOk rfl rfl rfl 1 rfl rfl ?_ | refine YU.storeAL tabOk rfl rfl rfl 2 rfl rfl ?_ | refine YU.storeAL tabOk rfl rfl rfl 3 rfl rfl ?_ | refine YU.storeAL tabOk rfl rfl rfl 4 rfl rfl ?_)
      | (show Wr _ _ _; first | refine Wr.i64e root (by omega) (by omega) ?_ | refine Wr.i64 (by omega) ?_ | refine Wr.u8 (by omega) ?_ | refine Wr.u16 (by omega) ?_ | refine Wr.u32 (by omega) ?_)
      | (show BIf _ _ _; first | refine BIf.pos rfl ?_ | refine BIf.neg rfl ?_)
      | (show Dr _ _ _ _ _ _ _ _ _; first | (show Dr _ _ _ _ _ (Array.toList #[_, _, _, _, _, _, _, _]) _ _ _; refine Dr.any (.take 0 (.take 1 (.fork 2 (.fork 3 (.one 4 (.one 5 (.one 6 (.one 7 .done)))) (.one 4 (.take 5 (.one 3 (.one 6 (.one 7 .done)))))) (.fork 3 (.fork 2 (.one 4 (.one 5 (.one 6 (.one 7 .done)))) (.one 4 (.take 5 (.one 2 (.one 6 (.one 7 .done)))))) (.one 4 (.take 5 (.fork 2 (.one 3 (.one 6 (.one 7 .done))) (.one 3 (.one 2 (.one 6 (.one 7 .done))))))))))) (by kernel_rfl) ?_) | (show Dr _ _ _ _ _ (Array.toList #[_, _, _, _, _]) _ _ _; refine Dr.any (.take 0 (.take 2 (.fork 1 (.one 3 (.one 4 .done)) (.one 3 (.one 1 (.one 4 .done)))))) (by kernel_rfl) ?_) | refine Dr.all (by kernel_rfl) ?_)
      | (show Fork _ _; first | refine Fork.mk ?_ ?_)
      | (show Vc.Fin _ _ _; first | refine Fin.take 3 (And.intro ?_ ?_))
      | intro b)
  all_goals
    simp only [fnd_s, fnd_n, fnd2_s, fnd2_n, outF, band]
    (repeat' split) <;> first | rfl | contradiction | (exfalso; omega)
end
end Go.Proofs.Ytggbhokhibfdmaa

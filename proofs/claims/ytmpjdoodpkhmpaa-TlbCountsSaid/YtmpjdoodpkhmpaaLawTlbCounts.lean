/- 'viceroylaw03.TlbCounts' answers true at every list of acts and of pages. Conditions: none beside the row's own. -/
import Derived.Test.YtmpjdoodpkhmpaaRows
import Derived.Test.YtmpjdoodpkhmpaaLawTlbPlays
import Derived.Laws.Small
set_option linter.unusedVariables false
set_option linter.unusedSimpArgs false
set_option maxRecDepth 10000
set_option maxHeartbeats 4000000
namespace Go.Proofs.Ytmpjdoodpkhmpaa
open Vc
theorem YQ.min2 {P : Program} {w0 : World} {I : List Nat} {L : Hs} {ts : Array TypeId} {k k' : IntKind} {x y : Int} {K : Value → Prop} (kk : K (.int k (if y < x then y else x))) : YQ P w0 I L (.min ts [.int k x, .int k' y]) K :=
  YQ.val _ (fun w => by show (Builtin.min_ ts 0 #[.int k x, .int k' y]).run P w = _; exact run_min_int2 w ts 0 k k' x y) kk
theorem up_in {x : Int} (h : 0 ≤ x ∧ x ≤ 1000000) : up x = x + 1 := IntWalk.i64_in _ (by omega)
theorem doF_in (x : Ac) (ls : List Ln) {f m : Int} {i : Nat} (hf : 0 ≤ f ∧ 0 ≤ m ∧ f + m ≤ i ∧ i ≤ 1000) : 0 ≤ doF x ls f ∧ 0 ≤ doM x ls m ∧ doF x ls f + doM x ls m ≤ (i + 1 : Nat) ∧ i + 1 ≤ 1001 := by
  unfold doF doM
  split
  · cases ls.find? (mt x.v x.a x.p) with
    | none => rw [fndF, fndM, up_in (by omega)]; omega
    | some y => rw [fndF, fndM, up_in (by omega)]; omega
  · omega
def pgV (x : Int) : List Value := [.int .i64 x]
/-- So many pages were asked for. -/
structure Pc where
  i : Nat
  n : Int
  f : Int
  m : Int
theorem find_or (p : Nat) (ls : List Ln) (hlen : ls.length = 8) (f m v a pg : Int) (w : World) (hw : Own w [tlbE p ls f m]) :
    Con Try.prog 37 [.pointer (some ⟨p, 0, none⟩), .int .i64 v, .int .i64 a, .int .i64 pg] w [tlbE p ls f m]
      (fun x L' => (∃ y : Ln, x = .tuple #[.int .i64 y.f, .int .i64 y.r, .bool true] ∧ L' = [tlbE p ls (up f) m]) ∨ (x = .tuple #[.int .i64 0, .int .i64 0, .bool false] ∧ L' = [tlbE p ls f (up m)])) := by
  refine (find_con p ls hlen f m v a pg w hw).mono ?_
  rintro x L' ⟨rfl, rfl⟩
  cases ls.find? (mt v a pg) with
  | none => exact .inr ⟨rfl, rfl⟩
  | some y => exact .inl ⟨y, rfl, rfl⟩
theorem tlbCounts_con (a : Option Addr) (len cap : Nat) (acts : List Ac) (a1 : Option Addr) (len1 cap1 : Nat) (pages : List Int) (w : World) (hlen : acts.length = len) (ha : Arr w 10 acV a acts) (hlen1 : pages.length = len1) (ha1 : Arr w 1 pgV a1 pages) :
    Con Try.prog 10 [.slice a len cap, .slice a1 len1 cap1] w [] (fun y L' => y = .bool true ∧ L' = []) := by
  refine Con.of_vc tabOk 95 [.tmp 4] Try.func10 rfl Try.ntmps10 Try.results10 rfl (Own.nil' w) ?_
  repeat' ((conv => whnf); first
    | refine Or.elim hx (fun hx => ?_) (fun hx => ?_)
    | refine YC.con [] [] rfl rfl (fun w _ _ => awake3_con w) (fun x L' hx => ?_)
    | refine YC.con [] [] rfl rfl (fun w _ _ => new_con w) (fun x L' hx => ?_)
    | (obtain ⟨rfl, rfl⟩ := hx; refine ⟨rfl, ?_⟩)
    | (obtain ⟨b, rfl, rfl⟩ := hx; refine ⟨rfl, ?_⟩)
    | refine qeqp Try.underlying25 ?_
    | refine Lp.mk (α := Pl) [8] [0, 1, 5, 6, 7] _ (fun x => [.int .i64 x.i]) (fun x => [tlbE _ x.ls x.f x.m, tlbR _ x.ls x.f x.m]) (fun x => x.i ≤ 100 ∧ TI x.ls ∧ 0 ≤ x.f ∧ 0 ≤ x.m ∧ x.f + x.m ≤ x.i) (fun x => 100 - x.i) rfl rfl ⟨0, S0, 0, 0⟩ ⟨by simp, TI0, by simp⟩ rfl ⟨_, rfl⟩ (fun st hst => ?_)
    | refine YQ.idxS tabOk rfl ha st.i (List.getElem?_eq_getElem (by omega)) (by omega) (fun ad hd => ?_)
    | refine YQ.loadS tabOk hd rfl rfl ?_
    | refine YC.con [0, 1] _ rfl rfl (fun w _ hw => does_con _ _ st.ls hst.2.1 st.f st.m _ w hw) (fun x L' hx => ?_)
    | refine ⟨⟨st.i + 1, doL acts[st.i] st.ls, doF acts[st.i] st.ls st.f, doM acts[st.i] st.ls st.m⟩, ⟨by show st.i + 1 ≤ 100; omega, TI_do hst.2.1 _, ?_⟩, by show 100 - (st.i + 1) < 100 - st.i; omega, rfl, ⟨_, rfl⟩⟩
    | refine Lp.mk (α := Pc) [12, 11] [1, 5, 6, 9, 10] _ (fun x => [.int .i64 x.i, .int .i64 x.n]) (fun x => [tlbE _ st.ls x.f x.m]) (fun x => x.i ≤ 100 ∧ x.i ≤ len1 ∧ 0 ≤ x.n ∧ x.n ≤ x.i ∧ x.f = st.f + x.n ∧ x.m = st.m + (x.i - x.n)) (fun x => 100 - x.i) rfl rfl ⟨0, 0, st.f, st.m⟩ (by simp) rfl ⟨_, rfl⟩ (fun sp hsp => ?_)
    | refine YQ.idxS tabOk rfl ha1 sp.i (List.getElem?_eq_getElem (by omega)) (by omega) (fun ad hd => ?_)
    | refine YQ.loadS1 tabOk hd rfl ?_
    | refine YC.con [0] _ rfl rfl (fun w _ hw => find_or _ st.ls hst.2.1.len _ _ 1 0 _ w hw) (fun x L' hx => ?_)
    | refine ⟨⟨sp.i + 1, sp.n + 1, up sp.f, sp.m⟩, ?_, by show 100 - (sp.i + 1) < 100 - sp.i; omega, rfl, ⟨_, rfl⟩⟩
    | refine ⟨⟨sp.i + 1, sp.n, sp.f, up sp.m⟩, ?_, by show 100 - (sp.i + 1) < 100 - sp.i; omega, rfl, ⟨_, rfl⟩⟩
    | refine YQ.min2 ?_
    | refine Fin.take 0 (And.intro ?_ rfl)
    | refine YC.con [0] _ rfl rfl (fun w _ hw => counts_con _ st.ls hst.2.1.len _ _ w hw) (fun x L' hx => ?_)
    | refine gsplit.tt ?_
    | refine gsplit.ff ?_
    | refine gsplit.dpos (by omega) ?_
    | refine gsplit.dneg (by omega) ?_
    | refine gsplit.npos (by omega) ?_
    | refine gsplit.nneg (by omega) ?_
    | refine gsplit.dec (fun hc => ?_) (fun hc => ?_)
    | refine gsplit.ndec (fun hc => ?_) (fun hc => ?_)
    | refine BIf.pos rfl ?_
    | refine BIf.neg rfl ?_
    | refine Wr.i64 (by omega) ?_
    | refine Wr.u8 (by omega) ?_
    | refine Wr.u16 (by omega) ?_
    | refine Wr.u32 (by omega) ?_
    | refine YQ.remN (by omega) ?_
    | refine YQ.quoN (by omega) ?_
    | refine YQ.len tabOk rfl ?_
    | refine YQ.idx tabOk rfl (by omega) ?_
    | refine YQ.idxA tabOk rfl (by omega) ?_
    | refine YQ.sliceA tabOk rfl (by omega) (by omega) ?_
    | refine YQ.sliceAll tabOk rfl ?_
    | refine YQ.load1 tabOk rfl 0 rfl rfl ?_
    | refine YQ.load1 tabOk rfl 1 rfl rfl ?_
    | refine YQ.load1 tabOk rfl 2 rfl rfl ?_
    | refine YQ.load1 tabOk rfl 3 rfl rfl ?_
    | refine YQ.load1 tabOk rfl 4 rfl rfl ?_
    | refine YQ.load1 tabOk rfl 5 rfl rfl ?_
    | refine YQ.loadF tabOk rfl 0 rfl rfl ?_
    | refine YQ.loadF tabOk rfl 1 rfl rfl ?_
    | refine YQ.loadF tabOk rfl 2 rfl rfl ?_
    | refine YQ.loadF tabOk rfl 3 rfl rfl ?_
    | refine YQ.loadF tabOk rfl 4 rfl rfl ?_
    | refine YQ.loadF tabOk rfl 5 rfl rfl ?_
    | refine YQ.loadA tabOk rfl 0 rfl rfl rfl ?_
    | refine YQ.loadA tabOk rfl 1 rfl rfl rfl ?_
    | refine YQ.loadA tabOk rfl 2 rfl rfl rfl ?_
    | refine YQ.loadA tabOk rfl 3 rfl rfl rfl ?_
    | refine YQ.loadA tabOk rfl 4 rfl rfl rfl ?_
    | refine YU.store1L tabOk rfl rfl 0 rfl rfl ?_
    | refine YU.store1L tabOk rfl rfl 1 rfl rfl ?_
    | refine YU.store1L tabOk rfl rfl 2 rfl rfl ?_
    | refine YU.store1L tabOk rfl rfl 3 rfl rfl ?_
    | refine YU.store1L tabOk rfl rfl 4 rfl rfl ?_
    | refine YU.storeF tabOk rfl rfl rfl 0 rfl rfl ?_
    | refine YU.storeF tabOk rfl rfl rfl 1 rfl rfl ?_
    | refine YU.storeF tabOk rfl rfl rfl 2 rfl rfl ?_
    | refine YU.storeF tabOk rfl rfl rfl 3 rfl rfl ?_
    | refine YU.storeF tabOk rfl rfl rfl 4 rfl rfl ?_
    | refine YU.storeF tabOk rfl rfl rfl 5 rfl rfl ?_
    | refine YU.storeAL tabOk rfl rfl rfl 0 rfl rfl ?_
    | refine YU.storeAL tabOk rfl rfl rfl 1 rfl rfl ?_
    | refine YU.storeAL tabOk rfl rfl rfl 2 rfl rfl ?_
    | refine YU.storeAL tabOk rfl rfl rfl 3 rfl rfl ?_
    | refine YU.storeAL tabOk rfl rfl rfl 4 rfl rfl ?_
    | refine YQ.build tabOk rfl rfl rfl ?_
    | refine YQ.eqF tabOk rfl rfl rfl ?_
    | refine YQ.neF tabOk rfl rfl rfl ?_
    | refine gsplit.eq (fun hc => ?_) (fun hc => ?_)
    | refine gsplit.neq (fun hc => ?_) (fun hc => ?_)
    | refine Dr.all (by kernel_rfl) ?_
    | intro b)
  · have hq := doF_in acts[st.i] st.ls (f := st.f) (m := st.m) (i := st.i) (by omega)
    exact ⟨hq.1, hq.2.1, hq.2.2.1⟩
  all_goals first
    | (dsimp only; rw [up_in (by omega)]; omega)
    | (show Value.bool _ = Value.bool _; congr 1; exact decide_eq_true (by split <;> omega))
    | rfl
    | (exfalso; omega)
theorem rd_pages {W : World} {n : Nat} {a : Option Addr} {len cap : Nat} (h : Rd Try.prog W n 61 (Value.slice a len cap).cells.toList) : ∃ acts : List Int, acts.length = len ∧ len ≤ cap ∧ cap ≤ maxLen ∧ Arr W 1 pgV a acts :=
  rd_arr h Try.underlying61 (by kernel_rfl) (fun k es hl hR => by
    obtain ⟨x, h, _⟩ := rd_int hR Try.underlying3
    exact ⟨x, h⟩)
theorem tlbCounts_walk (a0 : Option Addr) (len0 cap0 n0 : Nat) {W : World} (rd0 : Rd Try.prog W n0 60 (Value.slice a0 len0 cap0).cells.toList) (a1 : Option Addr) (len1 cap1 n1 : Nat) (rd1 : Rd Try.prog W n1 61 (Value.slice a1 len1 cap1).cells.toList) :
    Calls Try.prog 10 #[.slice a0 len0 cap0, .slice a1 len1 cap1] W fun e w' => e = .returned (.bool true) ∧ RowKit.Below W.heap.size W w' := by
  obtain ⟨acts, h1, h2, h3, h4⟩ := rd_acts rd0
  obtain ⟨pages, g1, g2, g3, g4⟩ := rd_pages rd1
  exact (tlbCounts_con a0 len0 cap0 acts a1 len1 cap1 pages W h1 h4 g1 g4).law
end Go.Proofs.Ytmpjdoodpkhmpaa

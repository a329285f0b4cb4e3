/- Parts Vtx, Rgf, Lin, Rdp, Rdq, Rdr, Bld, Rdf, Fpl, Len, Fin, Fpa, Fto, Fct, Ftx, Prp, Hst, Rfl in one text. Plain theorems: no condition. -/
import Derived.Test.YteoihdkaoipocaaDoorQa
import Derived.Test.YteoihdkaoipocaaDoorShelg
import Derived.Laws.IdiomStrings
import Derived.Laws.AppendOwnNone
import Derived.RangeFuncWrites
import Derived.RangeFuncLeaves
import Derived.WalkKit
import Derived.RangeFuncNested
import Derived.RangeFuncBound
import Derived.RangeFuncCalls
import Derived.Shelf.Abstract
import Derived.Shelf.RegionOpen
import Derived.OwnWalkIn
import Derived.TacticsInMore
import Derived.LoopNIn
import Derived.LoopIn
import Derived.Maps.OwnIn
import Derived.Lib.OthersKept
import Derived.Shelf.Strings.Builder1
import Derived.Lib.Builder
import Derived.OwnWalk
import Derived.Test.YteoihdkaoipocaaDoorShelf
import Derived.Lib.OwnBridge
import Derived.Deep.RegionHeld3
import Derived.Deep.DeepCutAuto
/- vec.Text: an amount as a text. -/
namespace Go.Proofs.YteoihdkaoipocaaDoor
open Go.RowKit

/-- the library's table of powers of ten lies where it lay -/
def Tb (w : World) : Prop := Lib.TabBelow Tryd.prog w.heap.size w "internal/strconv.uint64pow10" .u64 Lib.pow10Tab
theorem tab_mono {B C : Nat} {w : World} (h : Lib.TabBelow Tryd.prog B w "internal/strconv.uint64pow10" .u64 Lib.pow10Tab) (hb : B ≤ C) : Lib.TabBelow Tryd.prog C w "internal/strconv.uint64pow10" .u64 Lib.pow10Tab := fun w' h' => h w' (h'.mono hb)
theorem Tb.low {w w' : World} (h : Tb w) (hb : Below w.heap.size w w') : Tb w' := tab_mono (Lib.TabBelow.on h hb) hb.size
/-- the text so far -/
def txtTo (v : V4) : Nat → List UInt8
  | 0 => []
  | 1 => Lib.itoa v.a
  | 2 => Lib.itoa v.a ++ [44] ++ Lib.itoa v.b
  | 3 => Lib.itoa v.a ++ [44] ++ Lib.itoa v.b ++ [44] ++ Lib.itoa v.c
  | _ => txtV v
structure VtW (w : World) (bv : Value) (l : List UInt8) (W : World) : Prop where
  low : Below w.heap.size w W
  row : W.ownsRow w.heap.size 5 1 bv l.length (Lib.byteCells l)
theorem info5 : (Tryd.prog.info? 5).map (fun i => (i.zero, i.size, i.bytes)) = some (some (.int .u8 0), 1, 1) := by kernel_rfl
theorem byteCells_app (a b : List UInt8) : Lib.byteCells (a ++ b) = Lib.byteCells a ++ Lib.byteCells b := by simp [Lib.byteCells]
theorem comma_news (w : World) : ∀ j u, ([.int .u8 44] : List Value)[j]? = some u → (w.alloc (.cells #[.int .u8 44] 5 (0, 0))).cell? ((⟨w.heap.size, 0, none⟩ : Addr).add j) = some u := by
  intro j u hu
  match j, hu with
  | 0, hu =>
    have := blk_cell (blk_new w (.cells #[.int .u8 44] 5 (0, 0))) 0
    simp at hu; subst hu
    exact this
  | j + 1, hu => simp at hu
theorem vt_index (a b c d : Int) (j : Nat) (hj : j < 4) (w : World) : (Instr.index 25 (.agg #[.int .i64 a, .int .i64 b, .int .i64 c, .int .i64 d]) (.int .i64 (j : Int))).run Tryd.prog w = .ok (.int .i64 (V4.get ⟨a, b, c, d⟩ j)) w := by
  rcases (show j = 0 ∨ j = 1 ∨ j = 2 ∨ j = 3 by omega) with rfl | rfl | rfl | rfl <;> kernel_rfl
theorem get_64 {v : V4} (h : V64 v) (j : Nat) : -9223372036854775808 ≤ v.get j ∧ v.get j ≤ 9223372036854775807 := by
  match j with
  | 0 => exact h.a
  | 1 => exact h.b
  | 2 => exact h.c
  | j + 3 => exact h.d
theorem txtTo_step (v : V4) (j : Nat) (hj : j < 4) : txtTo v (j + 1) = txtTo v j ++ (if j = 0 then [] else [44]) ++ Lib.itoa (v.get j) := by
  rcases (show j = 0 ∨ j = 1 ∨ j = 2 ∨ j = 3 by omega) with rfl | rfl | rfl | rfl
  · rfl
  · rfl
  · rfl
  · rfl
theorem txtTo_len {v : V4} (h : V64 v) (j : Nat) (hj : j ≤ 4) : (txtTo v j).length ≤ 21 * j := by
  induction j with
  | zero => simp [txtTo]
  | succ j ih =>
    rw [txtTo_step v j (by omega), List.length_append, List.length_append]
    have h1 := ih (by omega)
    have h2 := itoa_len (get_64 h j).1 (get_64 h j).2
    have h3 : (if j = 0 then ([] : List UInt8) else [44]).length ≤ 1 := by split <;> simp
    omega
set_option maxRecDepth 100000 in
set_option maxHeartbeats 1600000 in
theorem vtext_any (v : V4) (hv : V64 v) (w : World) (ht : Tb w) : Calls Tryd.prog 75 #[v.val] w fun e w' => e = .returned (.string (ofL (txtV v))) ∧ Below w.heap.size w w' := by
  obtain ⟨i5, hi5, hz5, hz51, hz52⟩ := info_parts info5
  have hst := fun j (hj : j < 4) => txtTo_step v j hj
  have hll := fun j (hj : j ≤ 4) => txtTo_len hv j hj
  have hgt := get_64 hv
  obtain ⟨va, vb, vc, vd⟩ := v
  have hW0 : VtW w (.slice none 0 0) (txtTo ⟨va, vb, vc, vd⟩ 0) (w.alloc (.cells #[.int .i64 va, .int .i64 vb, .int .i64 vc, .int .i64 vd] 25 (0, 0))) := ⟨(Below.refl _ _).alloc (Nat.le_refl _) _, rfl, .inl ⟨rfl, rfl⟩⟩
  have hst' := Lib.hid hst
  have hll' := Lib.hid hll
  have hgt' := Lib.hid hgt
  clear hst hll hgt
  replace hv := Lib.hid hv; replace ht := Lib.hid ht; replace hW0 := Lib.hid hW0
  go_enter Tryd.func75, Tryd.ntmps75
  go_wp2
  go_loopw [3, 4, 5, 7] (fun bv _ _ i wr => ∃ j : Nat, j ≤ 4 ∧ i = .int .i64 j ∧ Hid (VtW w bv (txtTo ⟨va, vb, vc, vd⟩ j) wr)) (fun _ _ _ i _ => 4 - (intOf i).toNat)
  case atStart => exact ⟨0, by omega, rfl, hW0.out⟩
  case round =>
    obtain ⟨j, hj, rfl, hM⟩ := hrel
    by_cases hc : j < 4
    · have hc1 : (j : Int) < 4 := by omega
      have hix := fun w => vt_index va vb vc vd j hc w
      obtain ⟨x, hx⟩ : ∃ x, x = V4.get ⟨va, vb, vc, vd⟩ j := ⟨_, rfl⟩
      rw [← hx] at hix
      have hxb := hgt'.out j
      rw [← hx] at hxb
      have hs := hst'.out j hc
      rw [← hx] at hs
      obtain ⟨l, hl⟩ : ∃ l, l = txtTo ⟨va, vb, vc, vd⟩ j := ⟨_, rfl⟩
      have hlb := hll'.out j hj
      rw [← hl] at hlb hs
      have hM' := hM.out
      rw [← hl] at hM'
      obtain ⟨n, hn⟩ : ∃ n, n = l.length := ⟨_, rfl⟩
      have hrow := hM'.row
      rw [← hn] at hrow hlb
      have hlow := hM'.low
      by_cases h0 : j = 0
      · subst h0
        have hcl := Tryd.strconv_AppendInt_10 w.heap.size n x hxb.1 hxb.2 u3 (Lib.byteCells l) wr hrow hlow.size (by omega) (Lib.TabBelow.on ht.out hlow)
        rw [if_pos rfl, List.append_nil] at hs
        have hix2 : ∀ w, (Instr.index 25 (.agg #[.int .i64 va, .int .i64 vb, .int .i64 vc, .int .i64 vd]) (.int .i64 0)).run Tryd.prog w = .ok (.int .i64 x) w := hix
        clear hix
        replace hx := Lib.hid hx; replace hs := Lib.hid hs; replace hl := Lib.hid hl; replace hM' := Lib.hid hM'; replace hn := Lib.hid hn; replace hrow := Lib.hid hrow; replace hlow := Lib.hid hlow; replace hcl := Lib.hid hcl; replace hxb := Lib.hid hxb; replace hM := Lib.hid hM
        go_wp2_with fail
        refine hcl.out.mono ?_
        rintro e w2 ⟨v2, rfl, hown2, hb2, _⟩
        have hW2 : VtW w v2 (txtTo ⟨va, vb, vc, vd⟩ (0 + 1)) w2 := ⟨hlow.out.trans hb2, by rw [hs.out, byteCells_app, List.length_append, ← hn.out]; exact hown2⟩
        replace hW2 := Lib.hid hW2; replace hown2 := Lib.hid hown2; replace hb2 := Lib.hid hb2
        clear hix2
        go_wp2
        go_roundw
        case rel => exact ⟨0 + 1, by omega, rfl, hW2.out⟩
        case measure => simp [intOf]
      · have hj0 : (0 : Int) < (j : Int) := by omega
        have dj : decide ((0 : Int) < (j : Int)) = true := decide_eq_true hj0
        have dj' : decide (0 < j) = true := decide_eq_true (by omega)
        rw [if_neg h0] at hs
        have hownA : (wr.alloc (.cells #[.int .u8 44] 5 (0, 0))).ownsRow w.heap.size 5 1 u3 n (Lib.byteCells l) := hrow.alloc (.cells #[.int .u8 44] 5 (0, 0))
        have hnews := comma_news wr
        have hone : ∀ u ∈ ([.int .u8 44] : List Value), u.oneCell' = true := by simp [Value.oneCell']
        have h63 := maxLen_ge (n := n) (by omega)
        have hby : (n + 1) * 1 ≤ 140737488355328 := by omega
        have hbas : w.heap.size ≤ (wr.alloc (.cells #[.int .u8 44] 5 (0, 0))).heap.size := by have := hlow.size; rw [World.size_alloc]; omega
        replace hx := Lib.hid hx; replace hs := Lib.hid hs; replace hl := Lib.hid hl; replace hM' := Lib.hid hM'; replace hn := Lib.hid hn; replace hrow := Lib.hid hrow; replace hlow := Lib.hid hlow; replace hxb := Lib.hid hxb; replace hM := Lib.hid hM; replace hownA := Lib.hid hownA; replace hnews := Lib.hid hnews; replace hone := Lib.hid hone; replace h63 := Lib.hid h63; replace hby := Lib.hid hby; replace hbas := Lib.hid hbas
        go_upto_region 7 with (at_builtin; refine wpList_append_own _ rfl _ _ 67 rfl w.heap.size 5 i5 _ 1 1 Tryd.underlying67 hi5 hz5 hz51 hz52 rfl Nat.one_pos u3 n _ rfl hownA.out ⟨wr.heap.size, 0, none⟩ 1 1 [.int .u8 44] rfl rfl hnews.out hone.out h63.out hby.out hbas.out ?_; intro v1 w9 hown9 hgrow9 _; obtain ⟨g9, cap9, rfl⟩ := Joins.ownsRow_form hown9 (Nat.succ_pos _); replace hown9 := Lib.hid hown9; replace hgrow9 := Lib.hid hgrow9)
        have hB9 : Below w.heap.size w w9 := (hlow.out.alloc hlow.out.size _).grown hgrow9.out hbas.out (fun k e => (hrow.out.lt k e).1)
        have hcl := Tryd.strconv_AppendInt_10 w.heap.size (n + 1) x hxb.out.1 hxb.out.2 (.slice (some ⟨g9, 0, none⟩) (n + 1) cap9) _ w9 hown9.out hB9.size (by omega) (Lib.TabBelow.on ht.out hB9)
        replace hB9 := Lib.hid hB9; replace hcl := Lib.hid hcl
        go_wp2_with fail
        refine hcl.out.mono ?_
        rintro e w2 ⟨v2, rfl, hown2, hb2, _⟩
        have hW2 : VtW w v2 (txtTo ⟨va, vb, vc, vd⟩ (j + 1)) w2 := ⟨hB9.out.trans hb2, by
          rw [hs.out, byteCells_app, byteCells_app, List.length_append, List.length_append, ← hn.out]
          exact hown2⟩
        replace hW2 := Lib.hid hW2; replace hown2 := Lib.hid hown2; replace hb2 := Lib.hid hb2
        clear hix
        go_wp2
        go_roundw
        case rel => exact ⟨j + 1, by omega, by go_num, hW2.out⟩
        case measure => simp [intOf]; omega
    · have hc1 : ¬ (j : Int) < 4 := by omega
      have hj4 : j = 4 := by omega
      subst hj4
      have hrow := hM.out.row
      have hlow := hM.out.low
      obtain ⟨l, hl⟩ : ∃ l, l = txtTo ⟨va, vb, vc, vd⟩ 4 := ⟨_, rfl⟩
      rw [← hl] at hrow
      have hl2 : l = txtV ⟨va, vb, vc, vd⟩ := hl
      have hpos : 0 < l.length := by rw [hl2]; simp [txtV]; omega
      obtain ⟨g, cap, rfl⟩ := Joins.ownsRow_form hrow hpos
      have hcv := run_convert_bytes_back (P := Tryd.prog) wr 67 9 5 ⟨g, 0, none⟩ cap l Tryd.underlying67 Tryd.underlying5 Tryd.underlying9 (fun i hi => by
        rw [Addr.add_lit, Nat.zero_add, World.ownsRow.cellAt hrow i (by omega), Lib.byteCells, List.getElem?_map, List.getElem?_eq_getElem hi]; rfl)
      replace hrow := Lib.hid hrow; replace hlow := Lib.hid hlow; replace hl := Lib.hid hl; replace hl2 := Lib.hid hl2; replace hM := Lib.hid hM; replace hpos := Lib.hid hpos
      go_wp2
      go_ret
      exact ⟨by rw [← hl2.out]; rfl, hlow.out⟩
end Go.Proofs.YteoihdkaoipocaaDoor

/- A range over a function that keeps a cell of its own: the statement's law, for a body that may write what lay ahead of the loop. Conditions: the iterator's contract (SeqBox), the caller's relation. -/
namespace Go.Proofs.YteoihdkaoipocaaDoor
open Go.RowKit

/-- a relation that stands when one block turns, and new ones come -/
def AbidesAt {β : Type} (b : Nat) (J : β → World → Prop) : Prop := ∀ s W W', J s W → W.grownBy W' (some b) → J s W'
/-- an iterator that turns one block of its own between the rounds -/
def SeqBox {α : Type} (F : Fence) (n : Nat) (P : Program) (g : Nat) (lb : Array Value) (encs : α → Array Value) (b : Nat) (xs : List α) (w0 : World) : Prop :=
  ∀ (l : Nat) (J Jx : List α → World → Prop) (W : World), Below w0.heap.size w0 W → AbidesAt b J → AbidesAt b Jx →
    (∀ pre x W1, J pre W1 → (pre ++ [x]) <+: xs → YieldAt F (n - 1) P l (encs x) W1 fun e W' =>
      (e = .returned (.bool true) ∧ J (pre ++ [x]) W' ∧ W'.heap[b]? = W1.heap[b]? ∧ W'.heap[0]? = W1.heap[0]?) ∨ (e = .returned (.bool false) ∧ Jx (pre ++ [x]) W')) →
    J [] W →
    CallsIn F n P g (#[.func (.yield l) #[] #[]] ++ lb) W fun e W' => (∃ v, e = .returned v) ∧ (J xs W' ∨ (∃ pre x, (pre ++ [x]) <+: xs ∧ Jx (pre ++ [x]) W'))

variable {F : Fence} {n : Nat} {P : Program}

theorem wpIn_rangeFunc_box {α : Type} {g : Operand} {ps : Array Tmp} {assign body : Code} {Q : Exit → Act → World → Prop} {a : Act} {w : World}
    (hro : F.round = none) (h1 : 1 ≤ n) {gf : Nat} {lb : Array Value} (hg : a.eval g = .func (.func gf) #[] lb) (hFg : F.fn gf) (eg : ∀ args w, (callFunc gf args).run P w = .ok (.enter gf args) w)
    {encs : α → Array Value} {b : Nat} {xs : List α} {w0 : World} (hseq : SeqBox F (n - 1) P gf lb encs b xs w0) (hbw : b < w.heap.size)
    (hb0 : Below w0.heap.size w0 w) (hps : ∀ x, (encs x).size = ps.size)
    (I : List α → World → Prop) (Ix : Code → List α → World → Prop) (hI : OwnFrom w.heap.size I) (hIx : ∀ c, OwnFrom w.heap.size (Ix c)) (hIb : AbidesAt b I) (hIxb : ∀ c, AbidesAt b (Ix c)) (h0 : I [] w) (a₁ : α → Act)
    (hassign : ∀ (l : Nat) (x : α) (W : World) (K : Act → World → Prop), K (a₁ x) W →
      assign.wpIn (F.inRound l) (n - 1 - 1) P (Exit.then K (fun _ _ _ => False)) { tmps := (ps.zip (encs x)).foldl (fun t (p, v) => t.setIfInBounds p v) a.tmps, defers := [] } W)
    (hbody : ∀ (l : Nat) (pre : List α) (x : α) (W : World), I pre W → (pre ++ [x]) <+: xs → body.wpIn (F.inRound l) (n - 1 - 1) P (ownPostG w.heap.size (fun W W' => W'.heap[b]? = W.heap[b]? ∧ W'.heap[0]? = W.heap[0]?) I Ix (pre ++ [x]) W) (a₁ x) W)
    (hdone : ∀ (D : Nat) (W : World), w.heap.size ≤ D → I xs W → W.heap[D]? = some (.deferred (some [])) → Q .normal { a with defers := { target := .collected D, args := #[] } :: a.defers } W)
    (hstop : ∀ (D : Nat) (c : Code) (pre : List α) (x : α) (W : World), w.heap.size ≤ D → (pre ++ [x]) <+: xs → Ix c (pre ++ [x]) W → W.heap[D]? = some (.deferred (some [])) → c.wpIn F n P Q { a with defers := { target := .collected D, args := #[] } :: a.defers } W) :
    (Code.rangeFunc g ps assign body).wpIn F n P Q a w := by
  have hKt : ∀ {A B C : World}, (B.heap[b]? = A.heap[b]? ∧ B.heap[0]? = A.heap[0]?) → (C.heap[b]? = B.heap[b]? ∧ C.heap[0]? = B.heap[0]?) → (C.heap[b]? = A.heap[b]? ∧ C.heap[0]? = A.heap[0]?) := fun h k => ⟨k.1.trans h.1, k.2.trans h.2⟩
  have hKb : ∀ (W : World) (l : Nat) (o' : Obj), w.heap.size ≤ l → ((W.putObj l o').heap[b]? = W.heap[b]? ∧ (W.putObj l o').heap[0]? = W.heap[0]?) := fun W l o' hl => ⟨World.putObj_heap_other (by omega), World.putObj_heap_other (by omega)⟩
  refine wpIn_rangeFunc ?_
  intro fn hfn
  rw [hro]
  obtain ⟨rec, hrec⟩ : ∃ rec : LoopState → Option Code → Loop, rec = fun st pe => { state := st, pending := pe, fn, tmps := a.tmps, params := ps, assign, body, defers := w.heap.size } := ⟨_, rfl⟩
  obtain ⟨W1, hW1⟩ : ∃ W1, (w.alloc (.deferred (some []))).alloc (.loop (rec .ready none)) = W1 := ⟨_, rfl⟩
  have hL1 : W1.heap[w.heap.size + 1]? = some (.loop (rec .ready none)) := by
    rw [← hW1]; have := World.alloc_heap_new (w.alloc (.deferred (some []))) (.loop (rec .ready none)); rwa [World.size_alloc] at this
  have hK1 : W1.heap[w.heap.size]? = some (.deferred (some [])) := by
    rw [← hW1]; exact (Below.heap_alloc _ _ _ (by simp)).trans (World.alloc_heap_new w _)
  have hI1 : I [] W1 := by rw [← hW1]; exact hI.alloc _ (hI.alloc _ h0)
  have hb1 : Below w0.heap.size w0 W1 := by
    rw [← hW1]; exact hb0.trans ((((Below.refl _ w).alloc (Nat.le_refl _) _).alloc (by simp) _).mono hb0.size)
  have keep : ∀ {A B : World} {k : Nat} {o : Obj}, A.heap[k]? = some o → A.grownBy B (some b) → w.heap.size ≤ k → B.heap[k]? = some o := fun hk hg' hle =>
    (hg'.block _ (Array.getElem?_eq_some_iff.1 hk).1 (fun e => by cases e; omega)).trans hk
  refine ⟨w.heap.size + 1, [{ target := .collected w.heap.size, args := #[] }], W1, { target := .fn (.func gf) lb, args := #[.func (.yield (w.heap.size + 1)) #[] #[]] }, W1, gf,
    #[.func (.yield (w.heap.size + 1)) #[] #[]] ++ lb, W1, ?_, ?_, ?_, ?_, fun _ => h1, ?_⟩
  · rw [← hW1, hrec]; exact run_enterLoop_outer _ _ _ _ _
  · simp only [resolve, hg]
    simp [go_sem]
  · intro f' hf'; simp [Target.leads] at hf'; subst hf'; exact hFg
  · simp [invoke, go_sem, eg]
  · refine (hseq (w.heap.size + 1)
      (fun pre W => I pre W ∧ W.heap[w.heap.size + 1]? = some (.loop (rec .ready none)) ∧ W.heap[w.heap.size]? = some (.deferred (some [])))
      (fun pre W => ∃ c, Ix c pre W ∧ W.heap[w.heap.size + 1]? = some (.loop (rec .done (some c))) ∧ W.heap[w.heap.size]? = some (.deferred (some [])))
      W1 hb1
      (fun s A B hs hg' => ⟨hIb s A B hs.1 hg', keep hs.2.1 hg' (by omega), keep hs.2.2 hg' (Nat.le_refl _)⟩)
      (fun s A B hs hg' => by
        obtain ⟨c, hc, hl, hk⟩ := hs
        exact ⟨c, hIxb c s A B hc hg', keep hl hg' (by omega), keep hk hg' (Nat.le_refl _)⟩)
      ?_ ⟨hI1, hL1, hK1⟩).mono ?_
    · rintro pre x W ⟨hi, hl, hk⟩ hlen
      have hlt : w.heap.size + 1 < W.heap.size := (Array.getElem?_eq_some_iff.1 hl).1
      have hy := run_yield (P := P) (args := encs x) hl (by rw [hrec]; exact hps x)
      rw [hrec] at hy
      refine ⟨fn, _, assign, body, hy, roundIn_of_wpIn hfn (hassign _ x W _ ⟨_, run_beginRound hl (by rw [hrec]), ?_⟩)⟩
      have hl2 : (W.putObj (w.heap.size + 1) (.loop { rec .ready none with state := .busy })).heap[w.heap.size + 1]? = some (.loop { rec .ready none with state := .busy }) := World.putObj_heap_same hlt
      have hk2 : (W.putObj (w.heap.size + 1) (.loop { rec .ready none with state := .busy })).heap[w.heap.size]? = some (.deferred (some [])) := (World.putObj_heap_other (by omega)).trans hk
      have hw2 := hKb W (w.heap.size + 1) (.loop { rec .ready none with state := .busy }) (by omega)
      refine wpIn_mono (hbody _ pre x _ (hI.putObj _ hi (by omega) hl rfl) hlen) ?_
      have fin : ∀ (jump : Option Code) (W3 : World), KeepsFrom w.heap.size (W.putObj (w.heap.size + 1) (.loop { rec .ready none with state := .busy })) W3 →
          (Instr.endRound (w.heap.size + 1) jump).run P W3 = .ok (.bool jump.isNone) (W3.putObj (w.heap.size + 1) (.loop (rec (if jump.isNone then .ready else .done) jump))) ∧
          W3.heap[w.heap.size + 1]? = some (.loop { rec .ready none with state := .busy }) ∧
          (W3.putObj (w.heap.size + 1) (.loop (rec (if jump.isNone then .ready else .done) jump))).heap[w.heap.size + 1]? = some (.loop (rec (if jump.isNone then .ready else .done) jump)) ∧
          (W3.putObj (w.heap.size + 1) (.loop (rec (if jump.isNone then .ready else .done) jump))).heap[w.heap.size]? = some (.deferred (some [])) := fun jump W3 hk3 => by
        have hl3 := hk3.same _ _ (by omega) hl2 rfl
        have := run_endRound (P := P) jump hl3
        rw [hrec] at this ⊢
        exact ⟨this, by rw [hrec] at hl3; exact hl3, World.putObj_heap_same (Array.getElem?_eq_some_iff.1 hl3).1, (World.putObj_heap_other (by omega)).trans (hk3.same _ _ (Nat.le_refl _) hk2 rfl)⟩
      rintro e a3 W3 hp
      cases e with
      | normal =>
        obtain ⟨hk3, hkp3, hi3⟩ := hp
        obtain ⟨hr, hl3, hl4, hk4⟩ := fin none W3 hk3
        exact ⟨_, _, hr, .inl ⟨rfl, ⟨hI.putObj _ hi3 (by omega) hl3 rfl, hl4, hk4⟩, hKt (hKt hw2 hkp3) (hKb _ _ _ (by omega))⟩⟩
      | ret =>
        obtain ⟨hk3, hi3⟩ := hp
        obtain ⟨hr, hl3, hl4, hk4⟩ := fin (some .ret) W3 hk3
        exact ⟨_, _, hr, .inr ⟨rfl, .ret, (hIx _).putObj _ hi3 (by omega) hl3 rfl, hl4, hk4⟩⟩
      | exit id =>
        obtain ⟨hk3, hi3⟩ := hp
        obtain ⟨hr, hl3, hl4, hk4⟩ := fin (some (.exit id)) W3 hk3
        exact ⟨_, _, hr, .inr ⟨rfl, .exit id, (hIx _).putObj _ hi3 (by omega) hl3 rfl, hl4, hk4⟩⟩
      | goto t =>
        obtain ⟨hk3, hi3⟩ := hp
        obtain ⟨hr, hl3, hl4, hk4⟩ := fin (some (.goto t)) W3 hk3
        exact ⟨_, _, hr, .inr ⟨rfl, .goto t, (hIx _).putObj _ hi3 (by omega) hl3 rfl, hl4, hk4⟩⟩
      | panic ch => exact hp.elim
      | outgrown => exact hp.elim
    · rintro e W2 ⟨⟨v, rfl⟩, (⟨hi, hl, hk⟩ | ⟨pre, x, hSp, c, hi, hl, hk⟩)⟩
      · exact ⟨none, _, by have := run_endLoop (P := P) hl (by rw [hrec]; simp); rw [hrec] at this; exact this, hdone _ _ (Nat.le_refl _) (hI.putObj _ hi (by omega) hl rfl) ((World.putObj_heap_other (by omega)).trans hk)⟩
      · exact ⟨some c, _, by have := run_endLoop (P := P) hl (by rw [hrec]; simp); rw [hrec] at this; exact this, hstop _ c pre x _ (Nat.le_refl _) hSp ((hIx c).putObj _ hi (by omega) hl rfl) ((World.putObj_heap_other (by omega)).trans hk)⟩
end Go.Proofs.YteoihdkaoipocaaDoor

/- fleet.lines: the lines of a text that say something, with their numbers: the iterator's contract. -/
namespace Go.Proofs.YteoihdkaoipocaaDoor
open Go.RowKit Go.Shelf
attribute [local go_sem] Oper.semAt_some

/-- does a line say something? -/
def saysB (l : List UInt8) : Bool := match l with | [] => false | c :: _ => decide (c ≠ 35)
/-- the lines that say something, numbered behind n -/
def said : Nat → List (List UInt8) → List (Int × ByteArray)
  | _, [] => []
  | n, p :: ps => if saysB p = true then (((n : Int) + 1), ofL p) :: said (n + 1) ps else said (n + 1) ps
def linesOf (s : ByteArray) : List (Int × ByteArray) := said 0 (cutAll 10 s.data.toList)
abbrev encL (x : Int × ByteArray) : Array Value := #[.int .i64 x.1, .string x.2]
theorem said_nil (n : Nat) : said n (cutAll 10 []) = [] := rfl

structure LiW (W0 : World) (Bt : Nat) (rest : List UInt8) (W : World) : Prop where
  box : W.heap[Bt]? = some (.cells #[.string (ofL rest)] 9 (0, 0))
  mx : Mx W
theorem Mx.of_blk {w w' : World} (h : Mx w) (hb : w'.heap[0]? = w.heap[0]?) : Mx w' := by
  obtain ⟨m, h⟩ := h
  exact ⟨m, (World.cell?_of_block (a := ⟨0, 0, none⟩) (w := w) hb).trans h⟩
theorem grown_drewN (w : World) (n : Nat) (row : Option Nat) : w.grownBy (w.drewN n) row := ⟨rfl, rfl, rfl, Nat.le_refl _, fun _ _ _ => rfl⟩
theorem grown_setCell (w : World) (b o : Nat) (v : Value) : w.grownBy (w.setCell ⟨b, o, none⟩ v) (some b) :=
  ⟨rfl, rfl, rfl, by simp [World.setCell], fun k _ hk => Below.heap_setCell _ _ _ _ (fun e => hk (by rw [e]))⟩

theorem ofL_emp (l : List UInt8) : (ofL l).toList.isEmpty = l.isEmpty := by rw [Lib.toList_data, ofL_toL]
theorem liw_set {w0 w1 : World} {Bt : Nat} {rest r : List UInt8} (h : LiW w0 Bt rest w1) (hB : 0 < Bt) : LiW w0 Bt r (w1.setCell ⟨Bt, 0, none⟩ (.string (ofL r))) :=
  ⟨by rw [blk_set h.box]; rfl, h.mx.of_blk (Below.heap_setCell _ _ _ _ (by simp; omega))⟩
set_option maxRecDepth 100000 in
set_option maxHeartbeats 6400000 in
theorem lines_seq (n : Nat) (hn : 3 ≤ n) (Bt : Nat) (s : ByteArray) (w0 : World) (hs : s.size ≤ 4294967200) (hbox : w0.heap[Bt]? = some (.cells #[.string s] 9 (0, 0))) (hmx : Mx w0) (hBt : 0 < Bt) :
    SeqBox Fence.wide n Tryd.prog 122 #[.pointer (some ⟨Bt, 0, none⟩)] encL Bt (linesOf s) w0 := by
  intro l J Jx W hbW hJ hJx hY h0
  have hL0 : LiW w0 Bt s.data.toList W := ⟨blk_below hbW hbox (blk_lt hbox), hmx.low hbW⟩
  clear hbox hmx hbW
  replace hJ := Lib.hid hJ; replace hJx := Lib.hid hJx; replace hL0 := Lib.hid hL0
  have hY' := Lib.hid hY
  clear hY
  have h0' := Lib.hid h0
  clear h0
  refine callsIn_of_wp Tryd.func122 rfl trivial ?_ rfl
  simp only [Tryd.ntmps122, List.size_toArray, List.length_cons, List.length_nil, Nat.reduceAdd, Nat.reduceSub, Array.replicate_succ, Array.replicate_zero, List.push_toArray, List.append_toArray, List.nil_append, List.cons_append]
  gi_wp2
  gi_loopw [3, 4, 5, 6] (fun i _ _ _ wr => ∃ (k : Nat) (done : List (Int × ByteArray)) (rest : List UInt8), i = .int .i64 k ∧ k + rest.length ≤ s.size ∧ Hid (linesOf s = done ++ said k (cutAll 10 rest)) ∧ Hid (LiW w0 Bt rest wr) ∧ Hid (J done wr)) (fun i _ _ _ wr => s.size - (intOf i).toNat)
  case atStart => exact ⟨0, [], s.data.toList, rfl, by rw [toL_len]; omega, rfl, hL0.out, h0'.out⟩
  case round =>
    obtain ⟨k, done, rest, rfl, hk, hD, hL, hJd⟩ := hrel
    have bx := blk_cell hL.out.box 0
    have bf := blk_free hL.out.box 0
    simp at bx
    cases rest with
    | nil =>
      have e1 : (linesOf s) = done := by rw [hD.out, said_nil, List.append_nil]
      have em : (ofL ([] : List UInt8)).toList.isEmpty = true := ofL_emp []
      replace e1 := Lib.hid e1
      gi_wp2
      go_end0
      exact ⟨⟨_, rfl⟩, .inl (by rw [e1.out]; exact hJd.out)⟩
    | cons c rs =>
      have em : (ofL (c :: rs)).toList.isEmpty = false := ofL_emp (c :: rs)
      have hct := cut_call (ofL (c :: rs)) 10 wr hL.out.mx (by rw [ofL_size]; omega)
      rw [ofL_toL] at hct
      obtain ⟨rest, hrest⟩ : ∃ rest, rest = c :: rs := ⟨_, rfl⟩
      have hrl : 1 ≤ rest.length := by rw [hrest]; simp
      rw [← hrest] at bx em hct hk hD hL
      clear hrest
      replace hct := Lib.hid hct
      gi_wp2
      refine ⟨trivial, fun _ => by omega, (callsIn_wide.2 hct.out).mono ?_⟩
      rintro e w1 ⟨⟨a, r, b, rfl, hab⟩, nd, rfl⟩
      have hsd : said k (cutAll 10 rest) = (if saysB a = true then [(((k : Int) + 1), ofL a)] else []) ++ said (k + 1) (cutAll 10 r) := by
        rcases hab with ⟨_, e1, e2, e3⟩ | ⟨_, e1, e3⟩
        · rw [← e1, cutAll_no e3, e2, said_nil]
          unfold said
          split <;> rfl
        · rw [e1, cutAll_hit e3, said]
          split <;> rfl
      have hkr : (k + 1) + r.length ≤ s.size := by
        rcases hab with ⟨_, e1, e2, e3⟩ | ⟨_, e1, e3⟩
        · rw [e2]; simp; omega
        · have := congrArg List.length e1; simp at this; omega
      have hL1 : LiW w0 Bt rest (wr.drewN nd) := ⟨hL.out.box, hL.out.mx⟩
      have hJ1 : J done (wr.drewN nd) := hJ.out done wr _ hJd.out (grown_drewN wr nd _)
      have hal : a.length ≤ s.size := by
        rcases hab with ⟨_, e1, e2, e3⟩ | ⟨_, e1, e3⟩
        · rw [e1]; omega
        · have := congrArg List.length e1; simp at this; omega
      replace hab := Lib.hid hab; replace hsd := Lib.hid hsd; replace hL1 := Lib.hid hL1; replace hJ1 := Lib.hid hJ1
      obtain ⟨w1, hw1⟩ : ∃ w1, w1 = wr.drewN nd := ⟨_, rfl⟩
      have bx1 : w1.cell? ⟨Bt, 0, none⟩ = some (.string (ofL rest)) := by rw [hw1]; exact bx
      have bf1 : w1.frozen? ⟨Bt, 0, none⟩ = false := by rw [hw1]; exact bf
      have hL1' := hL1.out
      have hJ1' := hJ1.out
      rw [← hw1] at hL1' hJ1' ⊢
      replace hL1' := Lib.hid hL1'; replace hJ1' := Lib.hid hJ1'; replace hw1 := Lib.hid hw1
      clear bx bf em
      cases a with
      | nil =>
        have em2 : (ofL ([] : List UInt8)).toList.isEmpty = true := ofL_emp []
        have hD2 : linesOf s = done ++ said (k + 1) (cutAll 10 r) := by rw [hD.out, hsd.out]; rfl
        have hL2 : LiW w0 Bt r (w1.setCell ⟨Bt, 0, none⟩ (.string (ofL r))) := liw_set hL1'.out hBt
        have hJ2 : J done (w1.setCell ⟨Bt, 0, none⟩ (.string (ofL r))) := hJ.out done w1 _ hJ1'.out (grown_setCell _ _ _ _)
        replace hD2 := Lib.hid hD2; replace hL2 := Lib.hid hL2; replace hJ2 := Lib.hid hJ2
        gi_wp2
        refine ⟨fun _ h => (by cases h), ?_⟩
        gi_wp2
        go_roundw
        case rel => exact ⟨k + 1, done, r, by go_num, hkr, hD2.out, hL2.out, hJ2.out⟩
        case measure => simp [intOf]; omega
      | cons c' a' =>
        have em2 : (ofL (c' :: a')).toList.isEmpty = false := ofL_emp (c' :: a')
        have hi0 : ∀ w, (Instr.index 9 (.string (ofL (c' :: a'))) (.int .i64 0)).run Tryd.prog w = .ok (.int .u8 (chz (ofL (c' :: a')) 0)) w := fun w => index_at Tryd.underlying9 (ofL (c' :: a')) 0 0 rfl (by rw [ofL_size]; simp) w
        have hch : chz (ofL (c' :: a')) 0 = (c'.toNat : Int) := by unfold chz; rw [ofL_toL]; rfl
        have hsy : saysB (c' :: a') = decide (chz (ofL (c' :: a')) 0 ≠ 35) := by
          rw [hch]
          unfold saysB
          refine decide_eq_decide.2 (not_congr ⟨fun h => by rw [h]; rfl, fun h => UInt8.toNat_inj.1 (by have : (35 : UInt8).toNat = 35 := rfl; omega)⟩)
        obtain ⟨x, hx⟩ : ∃ x, x = chz (ofL (c' :: a')) 0 := ⟨_, rfl⟩
        rw [← hx] at hi0 hsy
        obtain ⟨a, ha⟩ : ∃ a, a = c' :: a' := ⟨_, rfl⟩
        rw [← ha] at em2 hi0 hsy hsd hal
        rw [← ha]
        replace hch := Lib.hid hch; replace hx := Lib.hid hx; replace ha := Lib.hid ha
        by_cases h35 : x = 35
        · have d35 : (x != 35) = false := by simp [h35]
          have hD2 : linesOf s = done ++ said (k + 1) (cutAll 10 r) := by
            rw [hD.out, hsd.out, if_neg (by rw [hsy]; simp [h35])]; rfl
          have hL2 : LiW w0 Bt r (w1.setCell ⟨Bt, 0, none⟩ (.string (ofL r))) := liw_set hL1'.out hBt
          have hJ2 : J done (w1.setCell ⟨Bt, 0, none⟩ (.string (ofL r))) := hJ.out done w1 _ hJ1'.out (grown_setCell _ _ _ _)
          replace hD2 := Lib.hid hD2; replace hL2 := Lib.hid hL2; replace hJ2 := Lib.hid hJ2; replace h35 := Lib.hid h35; replace hsy := Lib.hid hsy
          gi_wp2
          refine ⟨fun _ h => (by cases h), ?_⟩
          gi_wp2
          go_roundw
          case rel => exact ⟨k + 1, done, r, by go_num, hkr, hD2.out, hL2.out, hJ2.out⟩
          case measure => simp [intOf]; omega
        · have d35 : (x != 35) = true := by simp [h35]
          have hD2 : linesOf s = (done ++ [(((k : Int) + 1), ofL a)]) ++ said (k + 1) (cutAll 10 r) := by
            rw [hD.out, hsd.out, if_pos (by rw [hsy]; simp [h35]), List.append_assoc]
          have hpre : (done ++ [(((k : Int) + 1), ofL a)]) <+: linesOf s := ⟨_, hD2.symm⟩
          obtain ⟨fn, tmps, assign, body, hy, hR⟩ := hY'.out done (((k : Int) + 1), ofL a) w1 hJ1'.out hpre
          replace hD2 := Lib.hid hD2; replace hpre := Lib.hid hpre; replace h35 := Lib.hid h35; replace hsy := Lib.hid hsy
          gi_wp2
          refine ⟨fun _ => by omega, hR.mono ?_⟩
          rintro e W3 (⟨rfl, hJ3, hb3, h03⟩ | ⟨rfl, hJx3⟩)
          · have hL3 : LiW w0 Bt rest W3 := ⟨hb3.trans hL1'.out.box, hL1'.out.mx.of_blk h03⟩
            have bx3 := blk_cell hL3.box 0
            have bf3 := blk_free hL3.box 0
            simp at bx3
            have hL2 : LiW w0 Bt r (W3.setCell ⟨Bt, 0, none⟩ (.string (ofL r))) := liw_set hL3 hBt
            have hJ2 : J (done ++ [(((k : Int) + 1), ofL a)]) (W3.setCell ⟨Bt, 0, none⟩ (.string (ofL r))) := hJ.out _ W3 _ hJ3 (grown_setCell _ _ _ _)
            clear bx1 bf1
            replace hL3 := Lib.hid hL3; replace hJ3 := Lib.hid hJ3; replace hb3 := Lib.hid hb3; replace h03 := Lib.hid h03; replace hL2 := Lib.hid hL2; replace hJ2 := Lib.hid hJ2
            gi_wp2
            go_roundw
            case rel => exact ⟨k + 1, done ++ [(((k : Int) + 1), ofL a)], r, by go_num, hkr, hD2.out, hL2.out, hJ2.out⟩
            case measure => simp [intOf]; omega
          · have hJx3' := Lib.hid hJx3
            clear hJx3
            gi_wp2
            refine bodyPost_ret (results_none rfl _ _ _) rfl ?_
            exact ⟨⟨_, rfl⟩, .inr ⟨done, (((k : Int) + 1), ofL a), hpre.out, hJx3'.out⟩⟩
end Go.Proofs.YteoihdkaoipocaaDoor

/- fleet.Read: the fleet of a text: parts. -/
namespace Go.Proofs.YteoihdkaoipocaaDoor
open Go.RowKit Go.Maps

set_option maxRecDepth 100000 in
theorem lines_any (s : ByteArray) (w : World) : Calls Tryd.prog 79 #[.string s] w fun e w' => e = .returned (.func (.func 122) #[] #[.pointer (some ⟨w.heap.size, 0, none⟩)]) ∧ w' = w.alloc (.cells #[.string s] 9 (0, 0)) := by
  go_enter Tryd.func79, Tryd.ntmps79
  go_wp2
  go_ret
  exact ⟨rfl, rfl⟩

/-- what is read of a text's lines: the nodes put so far; the first fault's error and line -/
def readTo : List Ndv → List (Int × ByteArray) → List Ndv × Int × Int
  | xs, [] => (xs, 0, 0)
  | xs, (i, l) :: ls =>
    match nodeOf l with
    | none => (xs, 50, i)
    | some v => if putE (xs.map Ndv.name) xs.length v.name v.parts = 0 then readTo (xs ++ [v]) ls else (xs, putE (xs.map Ndv.name) xs.length v.name v.parts, i)
/-- what fleet.Read answers: the nodes, the error, the line -/
def readOf (s : ByteArray) : List Ndv × Int × Int := if 4096 < s.size then ([], 2, 0) else readTo [] (linesOf s)
/-- one line more -/
theorem readTo_app (xs : List Ndv) (l m : List (Int × ByteArray)) (h : (readTo xs l).2.1 = 0) : readTo xs (l ++ m) = readTo (readTo xs l).1 m := by
  induction l generalizing xs with
  | nil => rfl
  | cons x l ih =>
    obtain ⟨i, b⟩ := x
    show readTo xs ((i, b) :: (l ++ m)) = _
    simp only [readTo] at h ⊢
    cases hn : nodeOf b with
    | none => rw [hn] at h; simp at h
    | some v =>
      rw [hn] at h
      simp only at h ⊢
      by_cases c : putE (xs.map Ndv.name) xs.length v.name v.parts = 0
      · rw [if_pos c] at h ⊢
        rw [if_pos c]
        exact ih _ h
      · rw [if_neg c] at h
        exact absurd h c
end Go.Proofs.YteoihdkaoipocaaDoor

/- fleet.Read: the fleet of a text: what stands in its loop. -/
namespace Go.Proofs.YteoihdkaoipocaaDoor
open Go.RowKit Go.Maps Go.Shelf

/-- a fleet in memory that tells these nodes -/
structure Flt (W : World) (fb mb base : Nat) (vs : List Ndv) : Prop where
  ex : ∃ nv xs, FlW W fb mb base nv xs ∧ xs.map Nde.pl = vs ∧ ∀ x, x ∈ xs → ∀ b off, x.po = some ⟨b, off, none⟩ → base ≤ b
theorem Flt.below {w w' : World} {fb mb base : Nat} {vs : List Ndv} (h : Flt w fb mb base vs) (hb : Below w.heap.size w w') : Flt w' fb mb base vs := by
  obtain ⟨nv, xs, h1, h2, h3⟩ := h.ex
  exact ⟨nv, xs, h1.below hb, h2, h3⟩
theorem flw_keep {w w' : World} {fb mb base : Nat} {nv : Value} {xs : List Nde} {row : Option Nat} (h : FlW w fb mb base nv xs) (hg : w.grownBy w' row) (hm : row ≠ some mb)
    (hp : ∀ x, x ∈ xs → ∀ b off, x.po = some ⟨b, off, none⟩ → base ≤ b) (key : ∀ (k : Nat) (c : Array Value) (T : TypeId) (fr : Nat × Nat), (k = fb ∨ base ≤ k) → w.heap[k]? = some (.cells c T fr) → w'.heap[k]? = some (.cells c T fr)) : FlW w' fb mb base nv xs := by
  refine ⟨key _ _ _ _ (.inl rfl) h.head, ⟨h.row.1, ?_⟩, h.map.kept hg (Ne.symm hm), fun x hx => ?_⟩
  · rcases h.row.2 with h | ⟨g, cap, cur, hv, hgb, hh, hr⟩
    · exact .inl h
    · exact .inr ⟨g, cap, cur, hv, hgb, key _ _ _ _ (.inr hgb) hh, hr⟩
  · have hk : ∀ b off, x.po = some ⟨b, off, none⟩ → ∃ c, w.heap[b]? = some (.cells c 9 (0, 0)) ∧ w'.heap[b]? = some (.cells c 9 (0, 0)) := fun b off e => by
      obtain ⟨c, hc⟩ := (h.ok x hx).2 b off e
      exact ⟨c, hc, key _ _ _ _ (.inr (hp x hx b off e)) hc⟩
    refine ⟨⟨strs_keep (h.ok x hx).1.parts hg.size fun b off e _ => ?_, (h.ok x hx).1.ple⟩, fun b off e => ?_⟩
    · obtain ⟨c, h1, h2⟩ := hk b off e
      rw [h1, h2]
    · obtain ⟨c, _, h2⟩ := hk b off e
      exact ⟨c, h2⟩

theorem readTo_stop (xs : List Ndv) (l m : List (Int × ByteArray)) (h : (readTo xs l).2.1 ≠ 0) : readTo xs (l ++ m) = readTo xs l := by
  induction l generalizing xs with
  | nil => exact absurd rfl h
  | cons x l ih =>
    obtain ⟨i, b⟩ := x
    show readTo xs ((i, b) :: (l ++ m)) = _
    simp only [readTo] at h ⊢
    cases hn : nodeOf b with
    | none => rfl
    | some v =>
      rw [hn] at h
      simp only at h ⊢
      by_cases c : putE (xs.map Ndv.name) xs.length v.name v.parts = 0
      · rw [if_pos c] at h ⊢
        rw [if_pos c]
        exact ih _ h
      · rw [if_neg c, if_neg c]
theorem readTo_bad {xs : List Ndv} {i : Int} {l : ByteArray} (h : nodeOf l = none) : readTo xs [(i, l)] = (xs, 50, i) := by
  simp only [readTo, h]
theorem readTo_put {xs : List Ndv} {i : Int} {l : ByteArray} {v : Ndv} (h : nodeOf l = some v) (hp : putE (xs.map Ndv.name) xs.length v.name v.parts = 0) : readTo xs [(i, l)] = (xs ++ [v], 0, 0) := by
  simp only [readTo, h, if_pos hp]
theorem readTo_not {xs : List Ndv} {i : Int} {l : ByteArray} {v : Ndv} (h : nodeOf l = some v) (hp : putE (xs.map Ndv.name) xs.length v.name v.parts ≠ 0) : readTo xs [(i, l)] = (xs, putE (xs.map Ndv.name) xs.length v.name v.parts, i) := by
  simp only [readTo, h, if_neg hp]

/-- what stands at a round's head -/
structure RdI (w : World) (pre : List (Int × ByteArray)) (W : World) : Prop where
  fl : Flt W (w.heap.size + 4) (w.heap.size + 3) (w.heap.size + 7) (readTo [] pre).1
  ok : (readTo [] pre).2.1 = 0
  low : Below w.heap.size w W
  mx : Mx W
  c0 : W.heap[w.heap.size]? = some (.cells #[.pointer none] 39 (0, 0))
  c1 : W.heap[w.heap.size + 1]? = some (.cells #[.int .i64 0] 29 (0, 0))
  c2 : W.heap[w.heap.size + 2]? = some (.cells #[.int .i64 0] 3 (0, 0))
  fx : W.heap[w.heap.size + 5]? = some (.cells #[.pointer (some ⟨w.heap.size + 4, 0, none⟩)] 39 (0, 0))
  sz : w.heap.size + 7 ≤ W.heap.size
/-- what stands where a round has stopped -/
structure RdX (w : World) (pre : List (Int × ByteArray)) (W : World) : Prop where
  low : Below w.heap.size w W
  bad : (readTo [] pre).2.1 ≠ 0
  c0 : W.heap[w.heap.size]? = some (.cells #[.pointer none] 39 (0, 0))
  c1 : W.heap[w.heap.size + 1]? = some (.cells #[.int .i64 (readTo [] pre).2.1] 29 (0, 0))
  c2 : W.heap[w.heap.size + 2]? = some (.cells #[.int .i64 (readTo [] pre).2.2] 3 (0, 0))
  sz : w.heap.size + 7 ≤ W.heap.size
/-- which block may turn -/
def RdR (w W : World) (row : Option Nat) : Prop := ∀ r, row = some r → r = w.heap.size + 6 ∨ (w.heap.size + 7 ≤ r ∧ ∃ o : Obj, W.heap[r]? = some o ∧ o.isCells = false)
theorem rd_key {w W W' : World} {row : Option Nat} (hg : W.grownBy W' row) (hr : RdR w W row) {k : Nat} {c : Array Value} {T : TypeId} {fr : Nat × Nat} (hk : k ≠ w.heap.size + 6) (h : W.heap[k]? = some (.cells c T fr)) : W'.heap[k]? = some (.cells c T fr) :=
  (hg.block k (blk_lt h) (fun e => by
    rcases hr k e.symm with e | ⟨_, o, ho, hc⟩
    · exact hk e
    · rw [h] at ho; cases ho; simp [Obj.isCells] at hc)).trans h
theorem rd_low {w W W' : World} {row : Option Nat} (hg : W.grownBy W' row) (hr : RdR w W row) (h : Below w.heap.size w W) : Below w.heap.size w W' :=
  h.grown hg h.size (fun k e => by rcases hr k e with e | ⟨e, _⟩ <;> omega)
theorem RdI.grown {w W W' : World} {pre : List (Int × ByteArray)} {row : Option Nat} (h : RdI w pre W) (hg : W.grownBy W' row) (hr : RdR w W row) : RdI w pre W' := by
  obtain ⟨nv, xs, h1, h2, h3⟩ := h.fl.ex
  refine ⟨⟨nv, xs, flw_keep h1 hg (fun e => ?_) h3 (fun k c T fr hk hh => rd_key hg hr (by omega) hh), h2, h3⟩, h.ok, rd_low hg hr h.low, ?_, rd_key hg hr (by omega) h.c0, rd_key hg hr (by omega) h.c1, rd_key hg hr (by omega) h.c2, rd_key hg hr (by omega) h.fx, Nat.le_trans h.sz hg.size⟩
  · rcases hr _ e with e | ⟨e, _⟩ <;> omega
  · refine h.mx.of_blk (hg.block 0 (by have := h.sz; omega) (fun e => ?_))
    rcases hr _ e.symm with e | ⟨e, _⟩ <;> omega
theorem RdX.grown {w W W' : World} {pre : List (Int × ByteArray)} {row : Option Nat} (h : RdX w pre W) (hg : W.grownBy W' row) (hr : RdR w W row) : RdX w pre W' :=
  ⟨rd_low hg hr h.low, h.bad, rd_key hg hr (by omega) h.c0, rd_key hg hr (by omega) h.c1, rd_key hg hr (by omega) h.c2, Nat.le_trans h.sz hg.size⟩
theorem RdI.below {w W W' : World} {pre : List (Int × ByteArray)} (h : RdI w pre W) (hb : Below W.heap.size W W') : RdI w pre W' :=
  ⟨h.fl.below hb, h.ok, h.low.trans (hb.mono h.low.size), h.mx.low hb, blk_below hb h.c0 (blk_lt h.c0), blk_below hb h.c1 (blk_lt h.c1), blk_below hb h.c2 (blk_lt h.c2), blk_below hb h.fx (blk_lt h.fx), Nat.le_trans h.sz hb.size⟩
theorem keeps_below {B : Nat} {W W' : World} (hb : Below W.heap.size W W') : KeepsFrom B W W' := ⟨hb.size, fun _ _ _ hk _ => blk_below hb hk (blk_lt hk)⟩
theorem keeps_set {B : Nat} {W W' : World} {b o : Nat} {v : Value} (h : KeepsFrom B W W') (hb : b < B) : KeepsFrom B W (W'.setCell ⟨b, o, none⟩ v) :=
  ⟨by have := h.size; simpa [World.setCell] using this, fun k ob hk hh ho => blk_set_other (by omega) _ (h.same k ob hk hh ho)⟩
theorem PutK.keeps {fb mb base lo B : Nat} {W W' : World} (h : PutK fb mb base lo W W') (hf : fb < B) (hm : mb < B) (hs : W.heap.size ≤ W'.heap.size) : KeepsFrom B W W' :=
  ⟨hs, fun k o hk hh ho => h.same k o hh (by omega) (by omega) (.inr fun c fr e => by rw [e] at ho; simp [Obj.isCells] at ho)⟩
theorem PutK.blk {fb mb base lo k : Nat} {W W' : World} (h : PutK fb mb base lo W W') (hk : k < W.heap.size) (hf : k ≠ fb) (hm : k ≠ mb) (hb : k < base) : W'.heap[k]? = W.heap[k]? := by
  obtain ⟨o, ho⟩ : ∃ o, W.heap[k]? = some o := ⟨_, Array.getElem?_eq_getElem hk⟩
  rw [ho]
  exact h.same k o ho hm hf (.inl hb)
end Go.Proofs.YteoihdkaoipocaaDoor

/- fleet.Read: the fleet of a text: what its stores and its puts leave. -/
namespace Go.Proofs.YteoihdkaoipocaaDoor
open Go.RowKit Go.Maps Go.Shelf

theorem said_le (n : Nat) (ps : List (List UInt8)) : ∀ x, x ∈ said n ps → ∃ p, p ∈ ps ∧ x.2 = ofL p := by
  induction ps generalizing n with
  | nil => intro x hx; simp [said] at hx
  | cons p ps ih =>
    intro x hx
    simp only [said] at hx
    have key : x ∈ said (n + 1) ps → ∃ q, q ∈ p :: ps ∧ x.2 = ofL q := fun h => by
      obtain ⟨q, h1, h2⟩ := ih _ x h
      exact ⟨q, List.mem_cons_of_mem _ h1, h2⟩
    split at hx
    · rcases List.mem_cons.1 hx with rfl | h
      · exact ⟨p, List.mem_cons_self .., rfl⟩
      · exact key h
    · exact key hx
theorem lines_le {s : ByteArray} {x : Int × ByteArray} (h : x ∈ linesOf s) : x.2.size ≤ s.size := by
  obtain ⟨p, h1, h2⟩ := said_le 0 _ x h
  have := cutAll_le h1
  rw [h2, ofL_size, ← toL_len s]
  exact this
/-- what is known of a line's node -/
structure NdvOk (v : Ndv) : Prop where
  name : isName v.name = true
  parts : ∀ p, p ∈ v.parts → isName p = true
  one : 1 ≤ v.parts.length
  cap : v.cap.right = true
theorem isName_le {s : ByteArray} (h : isName s = true) : s.size ≤ 16 := by
  simp only [isName, Bool.and_eq_true, decide_eq_true_eq] at h
  exact h.1.2
theorem nodeOf_ok {s : ByteArray} {v : Ndv} (h : nodeOf s = some v) : NdvOk v := by
  by_cases c : nodeOk s
  · rw [nodeOf_yes c] at h
    cases h
    obtain ⟨h1, h2, h3, h4⟩ := c
    refine ⟨h2, h3, by simp; omega, ?_⟩
    show (vecOf (wrd s 1)).1.right = true
    unfold vecOf at h4 ⊢
    split at h4
    · next hl =>
      rw [if_pos hl]
      unfold V4.told at h4 ⊢
      split at h4
      · next hr => rw [if_pos hr]; exact hr
      · cases h4
    · cases h4
  · rw [nodeOf_no c] at h; cases h
theorem nodeOf_parts {s : ByteArray} {v : Ndv} (h : nodeOf s = some v) : v.parts.length ≤ s.size + 1 := by
  by_cases c : nodeOk s
  · rw [nodeOf_yes c] at h
    cases h
    have := words_many s
    simp
    omega
  · rw [nodeOf_no c] at h; cases h
theorem readTo_zero (xs : List Ndv) (l : List (Int × ByteArray)) (h : (readTo xs l).2.1 = 0) : (readTo xs l).2.2 = 0 := by
  induction l generalizing xs with
  | nil => rfl
  | cons x l ih =>
    obtain ⟨i, b⟩ := x
    simp only [readTo] at h ⊢
    cases hn : nodeOf b with
    | none => rw [hn] at h; simp at h
    | some v =>
      rw [hn] at h
      simp only at h ⊢
      by_cases c : putE (xs.map Ndv.name) xs.length v.name v.parts = 0
      · rw [if_pos c] at h ⊢
        exact ih _ h
      · rw [if_neg c] at h
        exact absurd h c

/-- three results stored -/
structure S3 (R : Nat) (W W' : World) (p : Value) (e i : Int) : Prop where
  size : W'.heap.size = W.heap.size
  c0 : W'.heap[R]? = some (.cells #[p] 39 (0, 0))
  c1 : W'.heap[R + 1]? = some (.cells #[.int .i64 e] 29 (0, 0))
  c2 : W'.heap[R + 2]? = some (.cells #[.int .i64 i] 3 (0, 0))
  other : ∀ (k : Nat) (o : Obj), W.heap[k]? = some o → k ≠ R → k ≠ R + 1 → k ≠ R + 2 → W'.heap[k]? = some o
  low : ∀ w, Below R w W → Below R w W'
  back : ∀ (k : Nat), k ≠ R → k ≠ R + 1 → k ≠ R + 2 → W'.heap[k]? = W.heap[k]?
theorem heap_set_other {W : World} {b o k : Nat} {v : Value} (h : k ≠ b) : (W.setCell ⟨b, o, none⟩ v).heap[k]? = W.heap[k]? := Below.heap_setCell _ _ _ _ h
theorem s3_of {R : Nat} {W : World} {a b c : Value} (h0 : W.heap[R]? = some (.cells #[a] 39 (0, 0))) (h1 : W.heap[R + 1]? = some (.cells #[b] 29 (0, 0))) (h2 : W.heap[R + 2]? = some (.cells #[c] 3 (0, 0))) (p : Value) (e i : Int) :
    S3 R W (((W.setCell ⟨R, 0, none⟩ p).setCell ⟨R + 1, 0, none⟩ (.int .i64 e)).setCell ⟨R + 2, 0, none⟩ (.int .i64 i)) p e i := by
  have back : ∀ (k : Nat), k ≠ R → k ≠ R + 1 → k ≠ R + 2 → (((W.setCell ⟨R, 0, none⟩ p).setCell ⟨R + 1, 0, none⟩ (.int .i64 e)).setCell ⟨R + 2, 0, none⟩ (.int .i64 i)).heap[k]? = W.heap[k]? := fun k k0 k1 k2 =>
    (heap_set_other k2).trans ((heap_set_other k1).trans (heap_set_other k0))
  refine ⟨by simp [World.setCell], ?_, ?_, ?_, fun k o hk k0 k1 k2 => (back k k0 k1 k2).trans hk, fun w h => ((h.setCell (Nat.le_refl _) _).setCell (Nat.le_succ _) _).setCell (Nat.le_add_right _ _) _, back⟩
  · rw [heap_set_other (by omega), heap_set_other (by omega), blk_set h0]; rfl
  · rw [heap_set_other (by omega), blk_set (c := #[b]) (T := 29) (fr := (0, 0)) ((heap_set_other (by omega)).trans h1)]; rfl
  · rw [blk_set (c := #[c]) (T := 3) (fr := (0, 0)) ((heap_set_other (by omega)).trans ((heap_set_other (by omega)).trans h2))]; rfl
theorem Flt.other {W W' : World} {fb mb base : Nat} {vs : List Ndv} (h : Flt W fb mb base vs) (hsz : W.heap.size ≤ W'.heap.size) (key : ∀ (k : Nat) (o : Obj), W.heap[k]? = some o → k = fb ∨ k = mb ∨ (base ≤ k ∧ o.isCells = true) → W'.heap[k]? = some o) : Flt W' fb mb base vs := by
  obtain ⟨nv, xs, h1, h2, h3⟩ := h.ex
  refine ⟨nv, xs, ⟨key _ _ h1.head (.inl rfl), ⟨h1.row.1, ?_⟩, ?_, fun x hx => ?_⟩, h2, h3⟩
  · rcases h1.row.2 with h | ⟨g, cap, cur, hv, hgb, hh, hr⟩
    · exact .inl h
    · exact .inr ⟨g, cap, cur, hv, hgb, key _ _ hh (.inr (.inr ⟨hgb, rfl⟩)), hr⟩
  · obtain ⟨es, clock, hb, hr⟩ := h1.map
    exact ⟨es, clock, key _ _ hb (.inr (.inl rfl)), hr⟩
  · have hk : ∀ b off, x.po = some ⟨b, off, none⟩ → ∃ c, W.heap[b]? = some (.cells c 9 (0, 0)) ∧ W'.heap[b]? = some (.cells c 9 (0, 0)) := fun b off e => by
      obtain ⟨c, hc⟩ := (h1.ok x hx).2 b off e
      exact ⟨c, hc, key _ _ hc (.inr (.inr ⟨h3 x hx b off e, rfl⟩))⟩
    refine ⟨⟨strs_keep (h1.ok x hx).1.parts hsz fun b off e _ => ?_, (h1.ok x hx).1.ple⟩, fun b off e => ?_⟩
    · obtain ⟨c, h1, h2⟩ := hk b off e
      rw [h1, h2]
    · obtain ⟨c, _, h2⟩ := hk b off e
      exact ⟨c, h2⟩
/-- behind a put that was taken -/
theorem rd_put {w W3 w4 : World} {pre : List (Int × ByteArray)} {i : Int} {ln : ByteArray} {nv' : Value} {xs : List Nde} {x : Nde} (hI : RdI w pre W3) (h2 : xs.map Nde.pl = (readTo [] pre).1)
    (h3 : ∀ y, y ∈ xs → ∀ b off, y.po = some ⟨b, off, none⟩ → w.heap.size + 7 ≤ b) (hs : nodeOf ln = some x.pl) (hpo : ∀ b off, x.po = some ⟨b, off, none⟩ → w.heap.size + 7 ≤ b)
    (hE : putE (xs.map Nde.name) xs.length x.name x.parts = 0) (hF : FlW w4 (w.heap.size + 4) (w.heap.size + 3) (w.heap.size + 7) nv' (xs ++ [x]))
    (hK : PutK (w.heap.size + 4) (w.heap.size + 3) (w.heap.size + 7) w.heap.size W3 w4) (hpos : 0 < w.heap.size) : RdI w (pre ++ [(i, ln)]) w4 := by
  have hsz := hI.sz
  have h4 := hK.low.size
  have hns : xs.map Nde.name = (readTo [] pre).1.map Ndv.name := by rw [← h2, List.map_map]; rfl
  have hln : xs.length = (readTo [] pre).1.length := by rw [← h2, List.length_map]
  have hr : readTo [] (pre ++ [(i, ln)]) = ((readTo [] pre).1 ++ [x.pl], 0, 0) := by
    rw [readTo_app _ _ _ hI.ok, readTo_put hs]
    rw [hns, hln] at hE
    exact hE
  have kp : ∀ {k : Nat} {o : Obj}, W3.heap[k]? = some o → k ≠ w.heap.size + 4 → k ≠ w.heap.size + 3 → k < w.heap.size + 7 → w4.heap[k]? = some o := fun hk a b c => hK.same _ _ hk b a (.inl c)
  refine ⟨⟨nv', xs ++ [x], hF, by rw [hr, List.map_append, h2]; rfl, fun y hy => ?_⟩, by rw [hr], hI.low.trans hK.low, ?_, kp hI.c0 (by omega) (by omega) (by omega), kp hI.c1 (by omega) (by omega) (by omega), kp hI.c2 (by omega) (by omega) (by omega), kp hI.fx (by omega) (by omega) (by omega), by omega⟩
  · rcases List.mem_append.1 hy with h | h
    · exact h3 y h
    · have : y = x := by simpa using h
      subst this
      exact hpo
  · exact hI.mx.of_blk (hK.low.block 0 hpos)
/-- behind a put that was not taken -/
theorem rd_not {w W3 w4 : World} {pre : List (Int × ByteArray)} (hI : RdI w pre W3)
    (hK : PutK (w.heap.size + 4) (w.heap.size + 3) (w.heap.size + 7) w.heap.size W3 w4) :
    w4.heap[w.heap.size]? = some (.cells #[.pointer none] 39 (0, 0)) ∧ w4.heap[w.heap.size + 1]? = some (.cells #[.int .i64 0] 29 (0, 0)) ∧ w4.heap[w.heap.size + 2]? = some (.cells #[.int .i64 0] 3 (0, 0)) ∧ Below w.heap.size w w4 ∧ W3.heap.size ≤ w4.heap.size := by
  have kp : ∀ {k : Nat} {o : Obj}, W3.heap[k]? = some o → k ≠ w.heap.size + 4 → k ≠ w.heap.size + 3 → k < w.heap.size + 7 → w4.heap[k]? = some o := fun hk a b c => hK.same _ _ hk b a (.inl c)
  exact ⟨kp hI.c0 (by omega) (by omega) (by omega), kp hI.c1 (by omega) (by omega) (by omega), kp hI.c2 (by omega) (by omega) (by omega), hI.low.trans hK.low, hK.low.size⟩
end Go.Proofs.YteoihdkaoipocaaDoor

/- strings.Builder at this program: copyCheck, WriteString (after the shelf's own proofs: the program's copyCheck has a refused end, so the shelf's laying does not fit). -/
namespace Go.Proofs.YteoihdkaoipocaaDoor
open Go.RowKit Go.Shelf

theorem sizeBuilder : (Tryd.prog.info? 134).map (·.size) = some 2 := by kernel_rfl
theorem liesBuilder : liesAt Tryd.prog Tryd.prog.depth 134 (2 / Tryd.prog.cellsOf 134) 0 134 1 = true := by kernel_rfl
set_option maxRecDepth 100000 in
theorem bcopy_used (b : Nat) (w : World) (h0 : w.cell? ⟨b, 0, none⟩ = some (.pointer (some ⟨b, 0, none⟩))) :
    Calls Tryd.prog 129 #[.pointer (some ⟨b, 0, none⟩)] w fun e w' => e = .returned (.tuple #[]) ∧ w' = w := by
  obtain ⟨j, hj, _⟩ := Option.map_eq_some_iff.1 sizeBuilder
  go_enter Tryd.func129, Tryd.ntmps129
  go_wp2
  rw [Lib.run_neq_ptr_same w _ Tryd.underlying132 hj]
  go_wp2
  go_end0
  exact ⟨rfl, rfl⟩
set_option maxRecDepth 100000 in
theorem bcopy_fresh (b : Nat) (w : World) (h0 : w.cell? ⟨b, 0, none⟩ = some (.pointer none)) (hsh : w.shape? b = some (134, 2)) (hfz : w.frozen? ⟨b, 0, none⟩ = false) :
    Calls Tryd.prog 129 #[.pointer (some ⟨b, 0, none⟩)] w fun e w' => e = .returned (.tuple #[]) ∧ w' = w.setCell ⟨b, 0, none⟩ (.pointer (some ⟨b, 0, none⟩)) := by
  obtain ⟨j, hj, hjs⟩ := Option.map_eq_some_iff.1 sizeBuilder
  go_enter Tryd.func129, Tryd.ntmps129
  go_wp2
  rw [Lib.run_to_unsafe w ⟨b, 0, none⟩ Tryd.underlying132 Tryd.underlying173 hj (by rw [hjs]; decide) hsh (Nat.zero_lt_succ 1)]
  simp only [Result.andThen]
  rw [Oper.upon_value]
  go_wp2
  rw [run_callFunc_extern Tryd.func149 (by kernel_rfl) (by kernel_rfl) (by kernel_rfl) (e := Extern.AbiNoEscape.same) (by kernel_rfl)]
  rw [Lib.run_noEscape]
  simp only [Result.andThen]
  rw [Oper.upon_value]
  go_wp2
  rw [Lib.run_from_unsafe w ⟨b, 0, none⟩ Tryd.underlying173 Tryd.underlying132 hj hsh liesBuilder]
  simp only [Result.andThen]
  rw [Oper.upon_value]
  go_wp2
  go_end0
  exact ⟨rfl, rfl⟩
theorem bcopy_any (B b : Nat) (bs : List Value) (w : World) (h : Lib.IsBuilder 134 5 B b bs w) :
    Calls Tryd.prog 129 #[.pointer (some ⟨b, 0, none⟩)] w fun e w' => e = .returned (.tuple #[]) ∧ (Lib.BuilderAt 134 5 B b (.pointer (some ⟨b, 0, none⟩)) bs w' ∧ Below B w w') ∧ ∀ k, k ≠ b → w'.heap[k]? = w.heap[k]? := by
  rcases h with h | h
  · refine (bcopy_fresh b w h.cell0 h.shape h.frozen0).mono ?_
    rintro e w' ⟨rfl, rfl⟩
    exact ⟨rfl, ⟨h.used _, (Below.refl B w).setCell (p := ⟨b, 0, none⟩) h.1 _⟩, fun k hk => heap_set_other hk⟩
  · refine (bcopy_used b w h.cell0).mono ?_
    rintro e w' ⟨rfl, rfl⟩
    exact ⟨rfl, ⟨h, Below.refl B _⟩, fun k _ => rfl⟩
set_option maxRecDepth 100000 in
set_option maxHeartbeats 1000000 in
theorem bwrite_any (B b : Nat) (bs : List Value) (s : ByteArray) (w : World) (h : Lib.IsBuilder 134 5 B b bs w) (hlen : bs.length + s.size ≤ 140737488355328) (hBw : B ≤ w.heap.size) :
    Calls Tryd.prog 98 #[.pointer (some ⟨b, 0, none⟩), .string s] w fun e w' => e = .returned (.tuple #[.int .i64 s.size, .nilIface]) ∧ (Lib.BuilderAt 134 5 B b (.pointer (some ⟨b, 0, none⟩)) (bs ++ Lib.strCells s) w' ∧ Below B w w') ∧ Lib.OthersKept 5 (some b) w w' := by
  obtain ⟨i0, hi, hz0, hz1, hz2⟩ := info_parts info5
  go_enter Tryd.func98, Tryd.ntmps98
  go_wp2_with fail
  refine (bcopy_any B b bs _ h).mono ?_
  rintro e w1 ⟨rfl, ⟨h1, hb1⟩, hk1⟩
  have hk1' := Lib.hid hk1
  clear hk1
  obtain ⟨hB, v, hbk, hown, hne⟩ := h1
  have c0 : w1.cell? ⟨b, 0, none⟩ = some (.pointer (some ⟨b, 0, none⟩)) := by rw [Lib.cell_of_heap hbk]; rfl
  have c1 : w1.cell? ⟨b, 1, none⟩ = some v := by rw [Lib.cell_of_heap hbk]; rfl
  go_wp2_with (at_builtin; refine Lib.wpList_append_own_string _ rfl _ _ 67 9 rfl B 5 i0 Tryd.underlying67 Tryd.underlying9 hi hz0 hz1 hz2 _ _ _ rfl hown s rfl ?c3 ?c4 ?c5 ?_)
  case c3 => unfold maxLen; omega
  case c4 => omega
  case c5 => have := hb1.size; omega
  intro v' w2 hown' hgrow _
  have hlt : b < w1.heap.size := blk_lt hbk
  have hb2 : w2.heap[b]? = some (.cells #[.pointer (some ⟨b, 0, none⟩), v] 134 (0, 0)) := by
    rw [hgrow.block b hlt (fun e => hne e.symm)]
    exact hbk
  have d0 : w2.cell? ⟨b, 0, none⟩ = some (.pointer (some ⟨b, 0, none⟩)) := by rw [Lib.cell_of_heap hb2]; rfl
  have d1 : w2.cell? ⟨b, 1, none⟩ = some v := by rw [Lib.cell_of_heap hb2]; rfl
  have f1 : w2.frozen? ⟨b, 1, none⟩ = false := Lib.frozen_of_heap hb2 1
  obtain ⟨ao, n', cap, rfl⟩ : ∃ ao n' cap, v' = .slice ao n' cap := by
    rcases hown'.2 with ⟨hv, _⟩ | ⟨g, cap, cur, hv, _⟩
    · exact ⟨_, _, _, hv⟩
    · exact ⟨_, _, _, hv⟩
  go_wp2
  go_ret2
  refine ⟨rfl, ⟨?_, ?_⟩, fun k o hk hkb ho => ?_⟩
  rotate_right
  · have hne : k ≠ b := fun e => hkb (by rw [e])
    have h1 : w1.heap[k]? = some o := (hk1'.out k hne).trans hk
    refine (heap_set_other hne).trans ((hgrow.block k (blk_lt h1) (fun e => ?_)).trans h1)
    obtain ⟨cur, hc⟩ := owns_block hown e.symm
    rw [h1] at hc
    exact ho _ _ (Option.some.inj hc)
  · exact Lib.BuilderAt.put (T := 134) (e := 5) hB hb2 (bs' := bs ++ Lib.strCells s) (by simpa [Lib.strCells_length] using hown') (by decide)
  · exact (hb1.grown hgrow (by have := hb1.size; omega) (fun k hk => (hown.lt k hk).1)).setCell (p := ⟨b, 1, none⟩) hB _
end Go.Proofs.YteoihdkaoipocaaDoor

/- fleet.Read: the fleet of a text. -/
namespace Go.Proofs.YteoihdkaoipocaaDoor
open Go.RowKit Go.Maps Go.Shelf
attribute [local go_sem] Oper.semAt_some

/-- the world ahead of the loop -/
def rdW (w : World) (s : ByteArray) : World :=
  ((((((w.alloc (.cells #[.pointer none] 39 (0, 0))).alloc (.cells #[.int .i64 0] 29 (0, 0))).alloc (.cells #[.int .i64 0] 3 (0, 0))).alloc (.map #[] 0)).alloc (.cells #[.slice none 0 0, .map (some (w.heap.size + 3))] 107 (0, 0))).alloc (.cells #[.pointer (some ⟨w.heap.size + 4, 0, none⟩)] 39 (0, 0))).alloc (.cells #[.string s] 9 (0, 0))
theorem rdW_size (w : World) (s : ByteArray) : (rdW w s).heap.size = w.heap.size + 7 := by simp [rdW]
theorem rdW_low (w : World) (s : ByteArray) : Below w.heap.size w (rdW w s) :=
  (((((((Below.refl _ _).alloc (Nat.le_refl _) _).alloc (by simp) _).alloc (by simp; omega) _).alloc (by simp; omega) _).alloc (by simp; omega) _).alloc (by simp; omega) _).alloc (by simp; omega) _
theorem rdW_box (w : World) (s : ByteArray) : (rdW w s).heap[w.heap.size + 6]? = some (.cells #[.string s] 9 (0, 0)) := by
  unfold rdW; exact blk_at _ _ (by simp)
theorem rdW_start (w : World) (s : ByteArray) (hm : Mx w) : RdI w [] (rdW w s) := by
  refine ⟨⟨.slice none 0 0, [], ⟨?_, ⟨rfl, .inl ⟨rfl, rfl⟩⟩, ?_, fun x hx => by cases hx⟩, rfl, fun x hx => by cases hx⟩, rfl, rdW_low w s, hm.low (rdW_low w s), ?_, ?_, ?_, ?_, by rw [rdW_size]; exact Nat.le_refl _⟩
  · unfold rdW; exact blk_old _ (blk_old _ (blk_at _ _ (by simp)))
  · have h0 := World.ownsMap_made ((((w.alloc (.cells #[.pointer none] 39 (0, 0))).alloc (.cells #[.int .i64 0] 29 (0, 0))).alloc (.cells #[.int .i64 0] 3 (0, 0)))) Tryd.prog 9 (plainElem (H := Unit) Tryd.prog 3)
    have h1 := ((h0.alloc (.cells #[.slice none 0 0, .map (some (w.heap.size + 3))] 107 (0, 0))).alloc (.cells #[.pointer (some ⟨w.heap.size + 4, 0, none⟩)] 39 (0, 0))).alloc (.cells #[.string s] 9 (0, 0))
    simp only [World.size_alloc] at h1
    exact h1
  · unfold rdW; exact blk_old _ (blk_old _ (blk_old _ (blk_old _ (blk_old _ (blk_old _ (blk_new _ _))))))
  · unfold rdW; exact blk_old _ (blk_old _ (blk_old _ (blk_old _ (blk_old _ (blk_at _ _ (by simp))))))
  · unfold rdW; exact blk_old _ (blk_old _ (blk_old _ (blk_old _ (blk_at _ _ (by simp)))))
  · unfold rdW; exact blk_old _ (blk_at _ _ (by simp))
/-- what fleet.Read answers -/
def ReadPost (s : ByteArray) (w : World) (e : Ending) (w' : World) : Prop :=
  ∃ p, e = .returned (.tuple #[.pointer p, .int .i64 (readOf s).2.1, .int .i64 (readOf s).2.2]) ∧ Below w.heap.size w w' ∧
    (((readOf s).2.1 ≠ 0 ∧ p = none) ∨ ((readOf s).2.1 = 0 ∧ p = some ⟨w.heap.size + 4, 0, none⟩ ∧ Flt w' (w.heap.size + 4) (w.heap.size + 3) (w.heap.size + 7) (readOf s).1))
theorem read_long (s : ByteArray) (w : World) (hs : 4096 < s.size) : Calls Tryd.prog 30 #[.string s] w (ReadPost s w) := by
  have hr : readOf s = ([], 2, 0) := if_pos hs
  have d1 : decide ((4096 : Int) < s.size) = true := decide_eq_true (by omega)
  have d1' : decide (4096 < s.size) = true := decide_eq_true (by omega)
  replace hr := Lib.hid hr
  go_enter Tryd.func30, Tryd.ntmps30
  go_wp2
  refine bodyPost_ret (v := .tuple #[.pointer none, .int .i64 2, .int .i64 0]) (by simp [results, Tryd.results30, go_sem]) rfl ?_
  refine ⟨none, by rw [hr.out], ?_, .inl ⟨by rw [hr.out]; decide, rfl⟩⟩
  exact (((Below.refl _ _).alloc (Nat.le_refl _) _).alloc (by simp) _).alloc (by simp; omega) _

set_option maxRecDepth 100000 in
set_option maxHeartbeats 6400000 in
theorem read_short (s : ByteArray) (w : World) (hm : Mx w) (hs : ¬ 4096 < s.size) : Calls Tryd.prog 30 #[.string s] w (ReadPost s w) := by
  have hr : readOf s = readTo [] (linesOf s) := if_neg hs
  have hmm := @run_makeMap Tryd.prog
  have d1 : decide ((4096 : Int) < s.size) = false := decide_eq_false (by omega)
  have d1' : decide (4096 < s.size) = false := decide_eq_false (by omega)
  have hm0 := hm
  replace hr := Lib.hid hr; replace hm0 := Lib.hid hm0; replace hm := Lib.hid hm
  refine (callsIn_wide (n := 8)).1 ?_
  refine callsIn_of_wp_marks Tryd.func30 rfl trivial ?_ rfl
  simp only [Tryd.ntmps30, List.size_toArray, List.length_cons, List.length_nil, Nat.reduceAdd, Nat.reduceSub, Array.replicate_succ, Array.replicate_zero, List.push_toArray, List.append_toArray, List.nil_append, List.cons_append]
  gi_wp2_with fail
  refine ⟨trivial, (callsIn_wide.2 (lines_any s _)).mono ?_⟩
  rintro e w1 ⟨rfl, hw1⟩
  gi_wp2_with fail
  subst hw1
  clear hmm
  change Code.wpIn _ _ _ _ _ { tmps := #[.string s, undef, .pointer (some ⟨w.heap.size, 0, none⟩), .pointer (some ⟨w.heap.size + 1, 0, none⟩), .pointer (some ⟨w.heap.size + 2, 0, none⟩), .pointer (some ⟨w.heap.size + 5, 0, none⟩), undef, undef, undef, undef, .string s, .int .i64 s.size, .bool false, .map (some (w.heap.size + 3)), .agg #[.slice none 0 0, .map (some (w.heap.size + 3))], .pointer (some ⟨w.heap.size + 4, 0, none⟩), .string s, .func (.func 122) #[] #[.pointer (some ⟨w.heap.size + 6, 0, none⟩)], undef, undef, undef, undef, undef, undef, undef, undef, undef, undef, undef, undef, undef, undef, undef, undef, undef], defers := [] } (rdW w s)
  have hS := rdW_start w s hm0.out
  have hsz := rdW_size w s
  have hbx := rdW_box w s
  have hmx := hS.mx
  have hpos : 0 < w.heap.size := hm0.out.pos
  generalize rdW w s = W1 at hS hsz hbx hmx ⊢
  replace hS := Lib.hid hS; replace hbx := Lib.hid hbx; replace hmx := Lib.hid hmx
  refine wpIn_rangeFunc_box rfl (by omega) (gf := 122) (lb := #[.pointer (some ⟨w.heap.size + 6, 0, none⟩)]) rfl trivial (enters_of Tryd.func122 (by kernel_rfl) rfl)
    (lines_seq 7 (by omega) (w.heap.size + 6) s W1 (by omega) hbx.out hmx.out (by omega)) (by omega) (Below.refl _ _) (fun _ => rfl)
    (RdI w) (fun c pre W => c = .ret ∧ RdX w pre W) ?hI ?hIx ?hIb ?hIxb hS.out
    (fun x => { tmps := #[.string s, undef, .pointer (some ⟨w.heap.size, 0, none⟩), .pointer (some ⟨w.heap.size + 1, 0, none⟩), .pointer (some ⟨w.heap.size + 2, 0, none⟩), .pointer (some ⟨w.heap.size + 5, 0, none⟩), .int .i64 x.1, .string x.2, undef, undef, .string s, .int .i64 s.size, .bool false, .map (some (w.heap.size + 3)), .agg #[.slice none 0 0, .map (some (w.heap.size + 3))], .pointer (some ⟨w.heap.size + 4, 0, none⟩), .string s, .func (.func 122) #[] #[.pointer (some ⟨w.heap.size + 6, 0, none⟩)], .int .i64 x.1, .string x.2, undef, undef, undef, undef, undef, undef, undef, undef, undef, undef, undef, undef, undef, undef, undef], defers := [] }) ?assign ?body ?done ?stop
  case hI =>
    intro pre A B row h hg hr2
    exact h.grown hg fun r e => .inr (by rw [← hsz]; exact hr2 r e)
  case hIx =>
    rintro c pre A B row ⟨rfl, h⟩ hg hr2
    exact ⟨rfl, h.grown hg fun r e => .inr (by rw [← hsz]; exact hr2 r e)⟩
  case hIb =>
    intro pre A B h hg
    exact h.grown hg fun r e => .inl (by cases e; rfl)
  case hIxb =>
    rintro c pre A B ⟨rfl, h⟩ hg
    exact ⟨rfl, h.grown hg fun r e => .inl (by cases e; rfl)⟩
  case assign =>
    intro l x W K hK
    gi_wp2
    exact hK
  case body =>
    rintro l pre ⟨i, ln⟩ W hI hpre
    have hmem : (i, ln) ∈ linesOf s := hpre.subset (by simp)
    have hln := lines_le hmem
    have hnode := node_any ln W hI.mx (by have : ln.size ≤ s.size := hln; omega)
    replace hI := Lib.hid hI; replace hpre := Lib.hid hpre; replace hmem := Lib.hid hmem; replace hln := Lib.hid hln; replace hnode := Lib.hid hnode
    gi_wp2_with fail
    refine ⟨trivial, ((callsIn_wide.2 hnode.out).inRound l).mono ?_⟩
    rintro e w2 ⟨x, r, rfl, hok, hlow, hpo, hcase⟩
    have hI2 := hI.out.below hlow
    have c0 := blk_cell hI2.c0 0
    have c1 := blk_cell hI2.c1 0
    have c2 := blk_cell hI2.c2 0
    have c5 := blk_cell hI2.fx 0
    have f0 := blk_free hI2.c0 0
    have f1 := blk_free hI2.c1 0
    have f2 := blk_free hI2.c2 0
    have l0 := blk_lt hI2.c0
    have l1 := blk_lt hI2.c1
    have l2 := blk_lt hI2.c2
    have l5 := blk_lt hI2.fx
    simp at c0 c1 c2 c5
    rcases hcase with ⟨hnone, rfl, rfl⟩ | ⟨hsome, rfl⟩
    · have hs3 := s3_of hI2.c0 hI2.c1 hI2.c2 (.pointer none) 50 i
      have hrd : readTo [] (pre ++ [(i, ln)]) = ((readTo [] pre).1, 50, i) := by rw [readTo_app _ _ _ hI.out.ok, readTo_bad hnone]
      have hsz2 := hI2.sz
      replace hI2 := Lib.hid hI2; replace hok := Lib.hid hok; replace hlow := Lib.hid hlow; replace hpo := Lib.hid hpo; replace hnone := Lib.hid hnone; replace hs3 := Lib.hid hs3; replace hrd := Lib.hid hrd
      gi_wp2
      refine ⟨?_, rfl, ?_⟩
      · refine ⟨?_, fun k o hk hh ho => blk_old _ (hs3.out.other k o (blk_below hlow.out hh (blk_lt hh)) (by omega) (by omega) (by omega))⟩
        have := hs3.out.size
        have := hlow.out.size
        rw [World.size_alloc]
        omega
      · refine ⟨(hs3.out.low _ hI2.out.low).alloc (hs3.out.low _ hI2.out.low).size _, by rw [hrd.out]; show (50 : Int) ≠ 0; decide, blk_old _ hs3.out.c0, by rw [hrd.out]; exact blk_old _ hs3.out.c1, by rw [hrd.out]; exact blk_old _ hs3.out.c2, ?_⟩
        have := hs3.out.size
        rw [World.size_alloc]
        omega
    · have hnd := nodeOf_ok hsome
      have hnp := nodeOf_parts hsome
      have hnm := isName_le hnd.name
      obtain ⟨W3, hW3⟩ : ∃ W3, W3 = w2.alloc (.cells x.cells 48 (0, 0)) := ⟨_, rfl⟩
      have hlow3 : Below w2.heap.size w2 W3 := by rw [hW3]; exact (Below.refl _ _).alloc (Nat.le_refl _) _
      have hI3 := hI2.below hlow3
      have hok3 := hok.low hlow3
      have hpa3 : PartsAt W3 x := fun b off e => by
        obtain ⟨_, c, hc⟩ := hpo b off e
        exact ⟨c, blk_below hlow3 hc (blk_lt hc)⟩
      obtain ⟨nv, xs, h1, h2, h3⟩ := hI3.fl.ex
      have hpo7 : ∀ b off, x.po = some ⟨b, off, none⟩ → w.heap.size + 7 ≤ b := fun b off e => Nat.le_trans hI.out.sz (hpo b off e).1
      have hpn : x.pn ≤ 4294967296 := by
        have e1 := hok3.parts.len
        have e2 : x.parts.length ≤ ln.size + 1 := hnp
        have : ln.size ≤ s.size := hln.out
        omega
      have hput := put_any W3 (w.heap.size + 4) (w.heap.size + 3) (w.heap.size + 7) w.heap.size nv xs x h1 hok3 hpa3 (by have : maxLen = 9223372036854775807 := rfl; have : x.name.size ≤ 16 := hnm; omega) hpn (by omega) (by omega) (by omega) hI3.sz
      obtain ⟨E, hE⟩ : ∃ E, E = putE (xs.map Nde.name) xs.length x.name x.parts := ⟨_, rfl⟩
      rw [← hE] at hput
      have hns : xs.map Nde.name = (readTo [] pre).1.map Ndv.name := by rw [← h2, List.map_map]; rfl
      have hxl : xs.length = (readTo [] pre).1.length := by rw [← h2, List.length_map]
      obtain ⟨nm, ⟨ca, cb, cc, cd⟩, po, pn, pc, ps⟩ := x
      rw [hW3] at hput
      replace hI2 := Lib.hid hI2; replace hok := Lib.hid hok; replace hlow := Lib.hid hlow; replace hpo := Lib.hid hpo; replace hsome := Lib.hid hsome; replace hnd := Lib.hid hnd; replace hnp := Lib.hid hnp; replace hnm := Lib.hid hnm; replace hlow3 := Lib.hid hlow3; replace hI3 := Lib.hid hI3; replace hok3 := Lib.hid hok3; replace hpa3 := Lib.hid hpa3; replace h1 := Lib.hid h1; replace h2 := Lib.hid h2; replace h3 := Lib.hid h3; replace hpo7 := Lib.hid hpo7; replace hpn := Lib.hid hpn; replace hput := Lib.hid hput; replace hE := Lib.hid hE; replace hns := Lib.hid hns; replace hxl := Lib.hid hxl
      have hW3' := Lib.hid hW3
      clear hW3
      gi_wp2_with fail
      refine ⟨trivial, ((callsIn_wide.2 hput.out).inRound l).mono ?_⟩
      rintro e w4 ⟨nv', rfl, hF4, hK⟩
      rw [← hW3'.out] at hK
      have hno := rd_not hI3.out hK
      obtain ⟨q0, q1, q2, hlow4, hsz4⟩ := hno
      clear c0 c1 c2 c5 f0 f1 f2 l0 l1 l2 l5
      by_cases hE0 : E = 0
      · subst hE0
        rw [if_pos rfl] at hF4
        have hI4 : RdI w (pre ++ [(i, ln)]) w4 := rd_put hI3.out h2.out h3.out hsome.out hpo7.out hE.out.symm hF4 hK hpos
        replace hF4 := Lib.hid hF4; replace hK := Lib.hid hK; replace q0 := Lib.hid q0; replace q1 := Lib.hid q1; replace q2 := Lib.hid q2; replace hlow4 := Lib.hid hlow4; replace hsz4 := Lib.hid hsz4; replace hI4 := Lib.hid hI4
        gi_wp2
        have hsW3 : W.heap.size ≤ W3.heap.size := Nat.le_trans hlow.out.size hlow3.out.size
        have key : ∀ k, k < W.heap.size → W3.heap[k]? = W.heap[k]? := fun k hk => (hlow3.out.block k (Nat.lt_of_lt_of_le hk hlow.out.size)).trans (hlow.out.block k hk)
        have hsW := hI.out.sz
        refine ⟨⟨Nat.le_trans hsW3 hsz4.out, fun k o hk hh ho => ?_⟩, ⟨?_, ?_⟩, hI4.out⟩
        · exact (hK.out.keeps (B := W1.heap.size) (by omega) (by omega) hsz4.out).same k o hk ((key k (blk_lt hh)).trans hh) ho
        · exact (hK.out.blk (by omega) (by omega) (by omega) (by omega)).trans (key _ (by omega))
        · exact (hK.out.low.block 0 hpos).trans (key _ (by omega))
      · have hrd : readTo [] (pre ++ [(i, ln)]) = ((readTo [] pre).1, E, i) := by
          rw [readTo_app _ _ _ hI.out.ok, readTo_not hsome.out]
          · rw [← hns.out, ← hxl.out]; rw [hE.out]; rfl
          · rw [← hns.out, ← hxl.out]; exact fun c => hE0 (hE.out.trans c)
        have hs3 := s3_of q0 q1 q2 (.pointer none) E i
        have c0 := blk_cell q0 0
        have c1 := blk_cell q1 0
        have c2 := blk_cell q2 0
        have f0 := blk_free q0 0
        have f1 := blk_free q1 0
        have f2 := blk_free q2 0
        simp at c0 c1 c2
        have dE : (E != 0) = true := by simpa using hE0
        replace hF4 := Lib.hid hF4; replace hK := Lib.hid hK; replace q0 := Lib.hid q0; replace q1 := Lib.hid q1; replace q2 := Lib.hid q2; replace hlow4 := Lib.hid hlow4; replace hsz4 := Lib.hid hsz4; replace hE0 := Lib.hid hE0; replace hrd := Lib.hid hrd; replace hs3 := Lib.hid hs3
        gi_wp2
        have hsW3 : W.heap.size ≤ W3.heap.size := Nat.le_trans hlow.out.size hlow3.out.size
        have key : ∀ k, k < W.heap.size → W3.heap[k]? = W.heap[k]? := fun k hk => (hlow3.out.block k (Nat.lt_of_lt_of_le hk hlow.out.size)).trans (hlow.out.block k hk)
        have hsW := hI.out.sz
        refine ⟨⟨by rw [hs3.out.size]; exact Nat.le_trans hsW3 hsz4.out, fun k o hk hh ho => ?_⟩, rfl, hs3.out.low _ hlow4.out, by rw [hrd.out]; exact hE0.out, hs3.out.c0, by rw [hrd.out]; exact hs3.out.c1, by rw [hrd.out]; exact hs3.out.c2, by rw [hs3.out.size]; have := hsz4.out; omega⟩
        exact hs3.out.other k o ((hK.out.keeps (B := W1.heap.size) (by omega) (by omega) hsz4.out).same k o hk ((key k (blk_lt hh)).trans hh) ho) (by omega) (by omega) (by omega)
  case done =>
    intro D W hD hI hK
    have c0 := blk_cell hI.c0 0
    have c1 := blk_cell hI.c1 0
    have c2 := blk_cell hI.c2 0
    have c5 := blk_cell hI.fx 0
    have f0 := blk_free hI.c0 0
    have f1 := blk_free hI.c1 0
    have f2 := blk_free hI.c2 0
    simp at c0 c1 c2 c5
    have hs3 := s3_of hI.c0 hI.c1 hI.c2 (.pointer (some ⟨w.heap.size + 4, 0, none⟩)) 0 0
    have hz := readTo_zero [] (linesOf s) hI.ok
    have hDs := blk_lt hK
    have hKD := hs3.other D _ hK (by omega) (by omega) (by omega)
    replace hI := Lib.hid hI; replace hK := Lib.hid hK; replace hs3 := Lib.hid hs3; replace hz := Lib.hid hz; replace hKD := Lib.hid hKD
    gi_wp2
    refine ⟨by simp, .inl ⟨_, _, rfl, run_takeDeferred hKD.out, ?_⟩⟩
    obtain ⟨W5, hW5⟩ : ∃ W5, W5 = (((W.setCell ⟨w.heap.size, 0, none⟩ (.pointer (some ⟨w.heap.size + 4, 0, none⟩))).setCell ⟨w.heap.size + 1, 0, none⟩ (.int .i64 0)).setCell ⟨w.heap.size + 2, 0, none⟩ (.int .i64 0)) := ⟨_, rfl⟩
    have hs5 := hs3.out
    have hK5 := hKD.out
    rw [← hW5] at hs5 hK5 ⊢
    have g0 := blk_cell ((World.putObj_heap_other (o := .deferred none) (show w.heap.size ≠ D by omega)).trans hs5.c0) 0
    have g1 := blk_cell ((World.putObj_heap_other (o := .deferred none) (show w.heap.size + 1 ≠ D by omega)).trans hs5.c1) 0
    have g2 := blk_cell ((World.putObj_heap_other (o := .deferred none) (show w.heap.size + 2 ≠ D by omega)).trans hs5.c2) 0
    simp at g0 g1 g2
    refine ⟨.tuple #[.pointer (some ⟨w.heap.size + 4, 0, none⟩), .int .i64 0, .int .i64 0], by simp [results, Tryd.results30, go_sem, g0, g1, g2], some ⟨w.heap.size + 4, 0, none⟩, by rw [hr.out, hI.out.ok, hz.out], ?_, .inr ⟨by rw [hr.out]; exact hI.out.ok, rfl, ?_⟩⟩
    · exact (hs5.low _ hI.out.low).grown (grownBy_putObj' _ D _) (hs5.low _ hI.out.low).size (fun k e => by cases e; omega)
    · rw [hr.out]
      refine hI.out.fl.other (by have := hs5.size; simp [World.putObj]; omega) fun k o hk hc => ?_
      have hne : k ≠ D := fun e => by
        subst e
        rw [hK.out] at hk
        cases hk
        rcases hc with e | e | ⟨_, e⟩
        · omega
        · omega
        · simp [Obj.isCells] at e
      exact (World.putObj_heap_other hne).trans (hs5.other k o hk (by omega) (by omega) (by omega))
  case stop =>
    rintro D c pre ⟨i, ln⟩ W hD hpre ⟨rfl, hX⟩ hK
    have hDs := blk_lt hK
    have hst : readTo [] (linesOf s) = readTo [] (pre ++ [(i, ln)]) := by
      obtain ⟨m, hm⟩ := hpre
      rw [← hm, readTo_stop _ _ _ hX.bad]
    replace hX := Lib.hid hX; replace hK := Lib.hid hK; replace hst := Lib.hid hst; replace hpre := Lib.hid hpre
    gi_wp2
    refine ⟨by simp, .inl ⟨_, _, rfl, run_takeDeferred hK.out, ?_⟩⟩
    have g0 := blk_cell ((World.putObj_heap_other (o := .deferred none) (show w.heap.size ≠ D by omega)).trans hX.out.c0) 0
    have g1 := blk_cell ((World.putObj_heap_other (o := .deferred none) (show w.heap.size + 1 ≠ D by omega)).trans hX.out.c1) 0
    have g2 := blk_cell ((World.putObj_heap_other (o := .deferred none) (show w.heap.size + 2 ≠ D by omega)).trans hX.out.c2) 0
    simp at g0 g1 g2
    refine ⟨.tuple #[.pointer none, .int .i64 (readTo [] (pre ++ [(i, ln)])).2.1, .int .i64 (readTo [] (pre ++ [(i, ln)])).2.2], by simp [results, Tryd.results30, go_sem, g0, g1, g2], none, by rw [hr.out, hst.out], ?_, .inl ⟨by rw [hr.out, hst.out]; exact hX.out.bad, rfl⟩⟩
    exact hX.out.low.grown (grownBy_putObj' _ D _) hX.out.low.size (fun k e => by cases e; omega)
theorem read_any (s : ByteArray) (w : World) (hm : Mx w) : Calls Tryd.prog 30 #[.string s] w (ReadPost s w) := by
  by_cases hs : 4096 < s.size
  · exact read_long s w hs
  · exact read_short s w hm hs
end Go.Proofs.YteoihdkaoipocaaDoor

/- What a fleet answers, plain: places of a part, what its nodes have, the parts. -/
namespace Go.Proofs.YteoihdkaoipocaaDoor
open Go.RowKit Go.Maps Go.Shelf

/-- where a part's nodes stand -/
def inFrom : Nat → List Ndv → ByteArray → List Int
  | _, [], _ => []
  | k, v :: vs, p => if memB v.parts p = true then (k : Int) :: inFrom (k + 1) vs p else inFrom (k + 1) vs p
def inOf (vs : List Ndv) (p : ByteArray) : List Int := inFrom 0 vs p
theorem inFrom_app (a b : List Ndv) (p : ByteArray) (k : Nat) : inFrom k (a ++ b) p = inFrom k a p ++ inFrom (k + a.length) b p := by
  induction a generalizing k with
  | nil => simp [inFrom]
  | cons v a ih =>
    simp only [List.cons_append, inFrom, List.length_cons]
    rw [ih, show k + 1 + a.length = k + (a.length + 1) by omega]
    split <;> simp
theorem take_step {α : Type} {l : List α} {k : Nat} {x : α} (h : l[k]? = some x) : l.take (k + 1) = l.take k ++ [x] := by
  rw [List.take_add_one, h]; rfl
theorem inOf_step {vs : List Ndv} {k : Nat} {v : Ndv} (p : ByteArray) (h : vs[k]? = some v) : inOf (vs.take (k + 1)) p = inOf (vs.take k) p ++ (if memB v.parts p = true then [(k : Int)] else []) := by
  have hk := (List.getElem?_eq_some_iff.1 h).1
  unfold inOf
  rw [take_step h, inFrom_app, List.length_take, Nat.min_eq_left (by omega), Nat.zero_add]
  simp only [inFrom]
theorem inOf_yes {vs : List Ndv} {k : Nat} {v : Ndv} {p : ByteArray} (h : vs[k]? = some v) (hm : memB v.parts p = true) : inOf (vs.take (k + 1)) p = inOf (vs.take k) p ++ [(k : Int)] := by
  rw [inOf_step p h, if_pos hm]
theorem inOf_no {vs : List Ndv} {k : Nat} {v : Ndv} {p : ByteArray} (h : vs[k]? = some v) (hm : memB v.parts p = false) : inOf (vs.take (k + 1)) p = inOf (vs.take k) p := by
  rw [inOf_step p h, if_neg (by rw [hm]; simp), List.append_nil]
theorem inFrom_len (vs : List Ndv) (p : ByteArray) (k : Nat) : (inFrom k vs p).length ≤ vs.length := by
  induction vs generalizing k with
  | nil => simp [inFrom]
  | cons v vs ih =>
    have := ih (k + 1)
    simp only [inFrom]
    split <;> simp <;> omega
theorem inOf_len (vs : List Ndv) (p : ByteArray) : (inOf vs p).length ≤ vs.length := inFrom_len vs p 0

/-- what a part's nodes have -/
def addV (a b : V4) : V4 := ⟨a.a + b.a, a.b + b.b, a.c + b.c, a.d + b.d⟩
def counts (v : Ndv) (p : ByteArray) : Bool := p.toList.isEmpty || memB v.parts p
def totOf (vs : List Ndv) (p : ByteArray) : V4 := vs.foldl (fun a v => if counts v p = true then addV a v.cap else a) V4.zero
theorem totOf_step {vs : List Ndv} {k : Nat} {v : Ndv} (p : ByteArray) (h : vs[k]? = some v) : totOf (vs.take (k + 1)) p = if counts v p = true then addV (totOf (vs.take k) p) v.cap else totOf (vs.take k) p := by
  unfold totOf
  rw [take_step h, List.foldl_append]
  rfl
/-- may an amount be? -/
structure CapOk (v : V4) : Prop where
  a0 : 0 ≤ v.a
  a1 : v.a ≤ 1073741824
  b0 : 0 ≤ v.b
  b1 : v.b ≤ 1073741824
  c0 : 0 ≤ v.c
  c1 : v.c ≤ 1073741824
  d0 : 0 ≤ v.d
  d1 : v.d ≤ 1073741824
structure UpTo (v : V4) (n : Nat) : Prop where
  a0 : 0 ≤ v.a
  a1 : v.a ≤ 1073741824 * n
  b0 : 0 ≤ v.b
  b1 : v.b ≤ 1073741824 * n
  c0 : 0 ≤ v.c
  c1 : v.c ≤ 1073741824 * n
  d0 : 0 ≤ v.d
  d1 : v.d ≤ 1073741824 * n
theorem totOf_upto {vs : List Ndv} (p : ByteArray) (h : ∀ v, v ∈ vs → CapOk v.cap) : UpTo (totOf vs p) vs.length := by
  induction vs using rev_ind with
  | h0 => constructor <;> simp [totOf, V4.zero]
  | h1 l x ih =>
    have hl := ih fun v hv => h v (by simp [hv])
    have hx := h x (by simp)
    have e : totOf (l ++ [x]) p = if counts x p = true then addV (totOf l p) x.cap else totOf l p := by unfold totOf; rw [List.foldl_append]; rfl
    rw [e, List.length_append, List.length_cons, List.length_nil]
    obtain ⟨p1, p2, p3, p4, p5, p6, p7, p8⟩ := hl
    obtain ⟨q1, q2, q3, q4, q5, q6, q7, q8⟩ := hx
    split <;> constructor <;> (try simp only [addV]) <;> omega

/-- the parts -/
def rawParts (vs : List Ndv) : List ByteArray := vs.flatMap Ndv.parts
def partsOf (vs : List Ndv) : List (List UInt8) := Lib.compact (((rawParts vs).map (·.data.toList)).mergeSort fun x y => decide (x ≤ y))
theorem rawParts_step {vs : List Ndv} {k : Nat} {v : Ndv} (h : vs[k]? = some v) : rawParts (vs.take (k + 1)) = rawParts (vs.take k) ++ v.parts := by
  unfold rawParts
  rw [take_step h, List.flatMap_append]
  simp
end Go.Proofs.YteoihdkaoipocaaDoor

/- (*fleet.Fleet).Len, Index. -/
namespace Go.Proofs.YteoihdkaoipocaaDoor
open Go.RowKit Go.Maps

theorem fl_len {w : World} {fb mb base : Nat} {nv : Value} {xs : List Nde} (h : FlW w fb mb base nv xs) : ∀ ty w, (Builtin.len_ #[42] ty #[nv]).run Tryd.prog w = .ok (.int .i64 (xs.length : Int)) w := fun ty w => by
  rcases Joins.ownsRow_forms h.row with ⟨rfl, h0⟩ | ⟨g, cap, rfl⟩
  · rw [h0]; simp [go_sem, Tryd.underlying42]
  · simp [go_sem, Tryd.underlying42]
set_option maxRecDepth 100000 in
theorem len_any (w : World) (fb mb base : Nat) (nv : Value) (xs : List Nde) (hF : FlW w fb mb base nv xs) : Calls Tryd.prog 38 #[.pointer (some ⟨fb, 0, none⟩)] w fun e w' => e = .returned (.int .i64 (xs.length : Int)) ∧ w' = w := by
  have hln := fl_len hF
  have f0 := blk_cell hF.head 0
  simp at f0
  go_enter Tryd.func38, Tryd.ntmps38
  go_wp2
  go_ret
  exact ⟨rfl, rfl⟩
set_option maxRecDepth 100000 in
theorem len_nil (w : World) : Calls Tryd.prog 38 #[.pointer none] w fun e w' => e = .returned (.int .i64 0) ∧ w' = w := by
  go_enter Tryd.func38, Tryd.ntmps38
  go_wp2
  go_ret
  exact ⟨rfl, rfl⟩
/-- where a name stands: the last place; -1: nowhere -/
theorem index_nil (s : ByteArray) (w : World) : Calls Tryd.prog 57 #[.pointer none, .string s] w fun e w' => e = .returned (.int .i64 (-1)) ∧ w' = w := by
  go_enter Tryd.func57, Tryd.ntmps57
  go_wp2
  go_ret
  exact ⟨rfl, rfl⟩
set_option maxRecDepth 100000 in
theorem index_any (w : World) (fb mb base : Nat) (nv : Value) (xs : List Nde) (s : ByteArray) (hF : FlW w fb mb base nv xs) (hs : s.size ≤ maxLen) : Calls Tryd.prog 57 #[.pointer (some ⟨fb, 0, none⟩), .string s] w fun e w' => (∃ i, e = .returned (.int .i64 i) ∧ ((i = -1 ∧ s ∉ xs.map Nde.name) ∨ (s ∈ xs.map Nde.name ∧ (mapD (xs.map Nde.name)).atKey (keyB s) (.lit (.int .i64 0)) = .lit (.int .i64 i)))) ∧ w' = w := by
  obtain ⟨c, hlk, hat⟩ := fl_look hF s hs
  have hh := mapD_has (xs.map Nde.name) s
  obtain ⟨b, hb⟩ : ∃ b, b = has (mapD (xs.map Nde.name)) (keyB s) := ⟨_, rfl⟩
  rw [← hb] at hlk hh
  have f1 := blk_cell hF.head 1
  simp at f1
  have hh' := Lib.hid hh
  clear hh
  replace hb := Lib.hid hb; replace hat := Lib.hid hat
  cases b with
  | false =>
    go_enter Tryd.func57, Tryd.ntmps57
    go_wp2
    go_ret
    exact ⟨⟨-1, rfl, .inl ⟨rfl, fun h => by have := hh'.out.2 h; cases this⟩⟩, rfl⟩
  | true =>
    go_enter Tryd.func57, Tryd.ntmps57
    go_wp2
    go_ret
    exact ⟨⟨c, rfl, .inr ⟨(by have := hh'.out.1 (by trivial); simpa using this), hat.out⟩⟩, rfl⟩
end Go.Proofs.YteoihdkaoipocaaDoor

/- (*fleet.Fleet).In: the places of a part's nodes. -/
namespace Go.Proofs.YteoihdkaoipocaaDoor
open Go.RowKit Go.Maps Go.Shelf

theorem containsS_memB (l : List ByteArray) (x : ByteArray) : Lib.containsS l x = memB l x := by
  rw [Bool.eq_iff_iff, Lib.containsS_iff, memB_iff]
theorem contains_call (w : World) (po : Option Addr) (pn pc : Nat) (ps : List ByteArray) (s : ByteArray) (h : StrsAt w po pn ps) : Calls Tryd.prog 100 #[.slice po pn pc, .string s] w fun e w' => e = .returned (.bool (memB ps s)) ∧ w' = w := by
  have hl := h.len
  have hm := h.max
  by_cases h0 : pn = 0
  · subst h0
    have : ps = [] := List.length_eq_zero_iff.1 hl
    subst this
    exact Tryd.slices_Contains_string_empty po pc s w
  · obtain ⟨b, off, rfl, hlt, _⟩ := h.cell 0 (ps[0]'(by omega)) (by simp)
    refine (Tryd.slices_Contains_string b off pn pc ps s w (by omega) hm fun j hj => ?_).mono ?_
    · obtain ⟨b', off', e, _, hc⟩ := h.cell j (ps[j]'hj) (by simp [hj])
      cases e
      rw [hc]
      simp [List.getD, hj]
    · rintro e w' ⟨rfl, rfl⟩
      rw [List.take_of_length_le (by omega), containsS_memB]
      exact ⟨rfl, rfl⟩
def intsV (xs : List Int) : List Value := xs.map fun n => .int .i64 n
/-- a row of numbers of one's own -/
structure OwnI (w : World) (B : Nat) (v : Value) (xs : List Int) : Prop where
  row : w.ownsRow B 3 1 v xs.length (intsV xs)
def FinPost (vs : List Ndv) (p : ByteArray) (w : World) (e : Ending) (w' : World) : Prop := ∃ v, e = .returned v ∧ OwnI w' w.heap.size v (inOf vs p) ∧ Below w.heap.size w w'
theorem info3 : (Tryd.prog.info? 3).map (fun i => (i.zero, i.size, i.bytes)) = some (some (.int .i64 0), 1, 8) := by kernel_rfl
theorem one_new (w : World) (n : Int) : ∀ j u, ([.int .i64 n] : List Value)[j]? = some u → (w.alloc (.cells #[.int .i64 n] 3 (0, 0))).cell? ((⟨w.heap.size, 0, none⟩ : Addr).add j) = some u := by
  intro j u hu
  match j, hu with
  | 0, hu =>
    have := blk_cell (blk_new w (.cells #[.int .i64 n] 3 (0, 0))) 0
    simp at hu; subst hu
    exact this
  | j + 1, hu => simp at hu
theorem pl_at {xs : List Nde} {k : Nat} {x : Nde} (h : xs[k]? = some x) : (xs.map Nde.pl)[k]? = some x.pl := by rw [List.getElem?_map, h]; rfl
theorem fin_nil (p : ByteArray) (w : World) : Calls Tryd.prog 58 #[.pointer none, .string p] w (FinPost [] p w) := by
  go_enter Tryd.func58, Tryd.ntmps58
  go_wp2_with fail
  (with_reducible refine (len_nil _).mono ?_)
  rintro e w1 ⟨rfl, rfl⟩
  go_wp2
  go_loopw [5, 9] (fun o i wr => o = .slice none 0 0 ∧ i = .int .i64 0 ∧ wr = w1) (fun _ i _ => 0)
  case atStart => exact ⟨rfl, rfl, rfl⟩
  case round =>
    obtain ⟨rfl, rfl, rfl⟩ := hrel
    go_wp2
    go_ret
    exact ⟨_, rfl, ⟨rfl, .inl ⟨rfl, rfl⟩⟩, Below.refl _ _⟩
set_option maxRecDepth 100000 in
set_option maxHeartbeats 1600000 in
theorem fin_any (w : World) (fb mb base : Nat) (nv : Value) (xs : List Nde) (p : ByteArray) (hF : FlW w fb mb base nv xs) (hlen : xs.length ≤ 4096) : Calls Tryd.prog 58 #[.pointer (some ⟨fb, 0, none⟩), .string p] w (FinPost (xs.map Nde.pl) p w) := by
  obtain ⟨i3, hi3, hz3, hz31, hz32⟩ := info_parts info3
  obtain ⟨n, hn⟩ : ∃ n, n = xs.length := ⟨_, rfl⟩
  have hlc := len_any w fb mb base nv xs hF
  rw [← hn] at hlc hlen
  have hn0 : (0 : Int) ≤ (n : Int) := by omega
  replace hF := Lib.hid hF; replace hn := Lib.hid hn; replace hlc := Lib.hid hlc
  go_enter Tryd.func58, Tryd.ntmps58
  go_wp2_with fail
  refine hlc.out.mono ?_
  rintro e w1 ⟨rfl, rfl⟩
  go_wp2
  go_loopw [5, 9] (fun ov i wr => ∃ k : Nat, i = .int .i64 k ∧ k ≤ n ∧ Hid (OwnI wr w1.heap.size ov (inOf ((xs.map Nde.pl).take k) p)) ∧ Hid (Below w1.heap.size w1 wr)) (fun _ i _ => n - (intOf i).toNat)
  case atStart => exact ⟨0, rfl, Nat.zero_le _, ⟨rfl, .inl ⟨rfl, rfl⟩⟩, Below.refl _ _⟩
  case round =>
    obtain ⟨k, rfl, hk, hO, hB⟩ := hrel
    by_cases hc : k < n
    · have hc1 : (k : Int) < n := by omega
      have hk0 : (0 : Int) ≤ (k : Int) := by omega
      have hFr := hF.out.below hB.out
      obtain ⟨g, cap, rfl⟩ := Joins.ownsRow_form hFr.row (by have := hn.out; omega)
      obtain ⟨x, hx⟩ : ∃ x, xs[k]? = some x := ⟨_, List.getElem?_eq_getElem (by have := hn.out; omega)⟩
      obtain ⟨g', e1, _, _, hcell⟩ := hFr.cell hx
      have e2 : g = g' := by simpa [Value.ownBlock] using e1
      subst e2
      have c5 : wr.cell? ⟨g, k * 6 + 5, none⟩ = some (.slice x.po x.pn x.pc) := hcell 5 (by omega)
      have f0 := blk_cell hFr.head 0
      simp at f0
      rw [← hn.out] at f0
      have hct := contains_call wr x.po x.pn x.pc x.parts p (hFr.ok x (List.mem_of_getElem? hx)).1.parts
      obtain ⟨b, hb⟩ : ∃ b, b = memB x.parts p := ⟨_, rfl⟩
      rw [← hb] at hct
      have hpl := pl_at hx
      replace hFr := Lib.hid hFr; replace hx := Lib.hid hx; replace hct := Lib.hid hct; replace hb := Lib.hid hb; replace hpl := Lib.hid hpl; replace hcell := Lib.hid hcell; replace e1 := Lib.hid e1
      cases b with
      | false =>
        have hO2 : OwnI wr w1.heap.size u5 (inOf ((xs.map Nde.pl).take (k + 1)) p) := by rw [inOf_no hpl.out hb.out.symm]; exact hO.out
        replace hO2 := Lib.hid hO2
        go_wp2_with fail
        (with_reducible refine hct.out.mono ?_)
        rintro e wr ⟨rfl, rfl⟩
        go_wp2
        go_roundw
        case rel => exact ⟨k + 1, by go_num, by omega, hO2.out, hB.out⟩
        case measure => simp [intOf]; omega
      | true =>
        obtain ⟨L, hL⟩ : ∃ L, L = (inOf ((xs.map Nde.pl).take k) p).length := ⟨_, rfl⟩
        have hLk : L ≤ k := by rw [hL]; refine Nat.le_trans (inOf_len _ _) ?_; rw [List.length_take]; omega
        have hownA : (wr.alloc (.cells #[.int .i64 (k : Int)] 3 (0, 0))).ownsRow w1.heap.size 3 1 u5 L (intsV (inOf ((xs.map Nde.pl).take k) p)) := by rw [hL]; exact hO.out.row.alloc (.cells #[.int .i64 (k : Int)] 3 (0, 0))
        have hnews := one_new wr (k : Int)
        have hone1 : ∀ u ∈ ([.int .i64 (k : Int)] : List Value), u.oneCell' = true := by simp [Value.oneCell']
        have h63 := maxLen_ge (n := L) (by omega)
        have hby : (L + 1) * 8 ≤ 140737488355328 := by omega
        have hbas : w1.heap.size ≤ (wr.alloc (.cells #[.int .i64 (k : Int)] 3 (0, 0))).heap.size := by have := hB.out.size; simp; omega
        replace hL := Lib.hid hL; replace hownA := Lib.hid hownA; replace hnews := Lib.hid hnews; replace hone1 := Lib.hid hone1; replace h63 := Lib.hid h63; replace hby := Lib.hid hby; replace hbas := Lib.hid hbas
        go_wp2_with fail
        (with_reducible refine hct.out.mono ?_)
        rintro e wr ⟨rfl, rfl⟩
        go_wp2_with (at_builtin; refine wpList_append_own _ rfl _ _ 26 rfl w1.heap.size 3 i3 _ 1 8 Tryd.underlying26 hi3 hz3 hz31 hz32 rfl (by decide) _ L _ rfl hownA.out ⟨wr.heap.size, 0, none⟩ 1 1 [.int .i64 (k : Int)] rfl rfl hnews.out hone1.out h63.out hby.out hbas.out ?_; intro v1 w7 hown7 hgrow _; obtain ⟨g7, cap1, rfl⟩ := Joins.ownsRow_form hown7 (by omega); replace hown7 := Lib.hid hown7; replace hgrow := Lib.hid hgrow)
        have hO7 : OwnI w7 w1.heap.size (.slice (some ⟨g7, 0, none⟩) (L + 1) cap1) (inOf ((xs.map Nde.pl).take (k + 1)) p) := by
          rw [inOf_yes hpl.out hb.out.symm]
          refine ⟨?_⟩
          rw [List.length_append, ← hL.out]
          simpa [intsV] using hown7.out
        have hB7 : Below w1.heap.size w1 w7 := (hB.out.alloc hB.out.size _).grown hgrow.out hbas.out (fun k hk => (hO.out.row.lt k hk).1)
        replace hO7 := Lib.hid hO7; replace hB7 := Lib.hid hB7
        go_roundw
        case rel => exact ⟨k + 1, by go_num, by omega, hO7.out, hB7.out⟩
        case measure => simp [intOf]; omega
    · have hc1 : ¬ (k : Int) < n := by omega
      have hkn : (xs.map Nde.pl).take k = xs.map Nde.pl := List.take_of_length_le (by rw [List.length_map]; have := hn.out; omega)
      replace hkn := Lib.hid hkn
      go_wp2
      go_ret
      exact ⟨u5, rfl, by have := hO.out; rw [hkn.out] at this; exact this, hB.out⟩
end Go.Proofs.YteoihdkaoipocaaDoor

/- (*fleet.Fleet).Parts: the partitions, sorted, each once. -/
namespace Go.Proofs.YteoihdkaoipocaaDoor
open Go.RowKit Go.Maps Go.Shelf Go.Sort

def txts (xs : List ByteArray) : List Value := xs.map Value.string
structure OwnT (w : World) (B : Nat) (v : Value) (xs : List ByteArray) : Prop where
  row : w.ownsRow B 9 1 v xs.length (txts xs)
def FpaPost (vs : List Ndv) (w : World) (e : Ending) (w' : World) : Prop :=
  ∃ v, e = .returned v ∧ OwnT w' w.heap.size v ((partsOf vs).map ofL) ∧ Below w.heap.size w w'
theorem strs_news {w : World} {b off n : Nat} {ps : List ByteArray} (h : StrsAt w (some ⟨b, off, none⟩) n ps) : ∀ j u, (txts ps)[j]? = some u → w.cell? ((⟨b, off, none⟩ : Addr).add j) = some u := by
  intro j u hu
  rw [txts, List.getElem?_map] at hu
  obtain ⟨y, hy, rfl⟩ := Option.map_eq_some_iff.1 hu
  obtain ⟨b', off', e, _, hc⟩ := h.cell j y hy
  cases e
  rw [Addr.add_lit]
  exact hc
theorem txts_one (xs : List ByteArray) : ∀ u ∈ txts xs, u.oneCell' = true := by
  intro u hu
  obtain ⟨x, _, rfl⟩ := List.mem_map.1 hu
  rfl
theorem rawParts_len {vs : List Ndv} {c : Nat} (h : ∀ v, v ∈ vs → v.parts.length ≤ c) : (rawParts vs).length ≤ vs.length * c := by
  induction vs with
  | nil => simp [rawParts]
  | cons v vs ih =>
    have h1 := ih fun v hv => h v (by simp [hv])
    have h2 := h v (by simp)
    simp only [rawParts, List.flatMap_cons, List.length_append, List.length_cons] at h1 ⊢
    rw [Nat.add_mul]
    omega
theorem own_empty (w : World) (B : Nat) : OwnT w B (.slice none 0 0) [] := ⟨rfl, .inl ⟨rfl, rfl⟩⟩
theorem grown_grow (w : World) (os : Array Obj) : w.grownBy (grow w os) none := ⟨rfl, rfl, rfl, by simp, fun k hk _ => heap_grow_old w os hk⟩
theorem partsOf_raw {vs : List Ndv} (h : rawParts vs = []) : partsOf vs = [] := by
  unfold partsOf
  rw [h]
  simp [Lib.compact, Lib.compactUpTo]
theorem compact_le (Y : List (List UInt8)) : (Lib.compact Y).length ≤ Y.length := by
  unfold Lib.compact Lib.compactUpTo
  rw [List.length_map]
  exact Nat.le_trans (List.length_filter_le _ _) (by simp)
theorem txts_ofL (Y : List (List UInt8)) : txts (Y.map ofL) = Y.map encStr := by
  unfold txts
  rw [List.map_map]
  exact List.map_congr_left fun x _ => by simp [encStr, ofL]
theorem fpa_nil (w : World) : Calls Tryd.prog 59 #[.pointer none] w (FpaPost [] w) := by
  go_enter Tryd.func59, Tryd.ntmps59
  go_wp2_with fail
  (with_reducible refine (len_nil _).mono ?_)
  rintro e w1 ⟨rfl, rfl⟩
  go_wp2
  go_loopw [3, 7] (fun o i wr => o = .slice none 0 0 ∧ i = .int .i64 0 ∧ wr = w1) (fun _ i _ => 0)
  case atStart => exact ⟨rfl, rfl, rfl⟩
  case round =>
    obtain ⟨rfl, rfl, rfl⟩ := hrel
    go_wp2_with fail
    refine (Tryd.slices_Sort_string_none none 0 _).mono ?_
    rintro e w1 ⟨rfl, rfl⟩
    go_wp2_with fail
    refine (Tryd.slices_Compact_string_empty none 0 _).mono ?_
    rintro e w1 ⟨rfl, rfl⟩
    go_wp2
    go_ret
    exact ⟨_, rfl, by rw [partsOf_raw (vs := []) rfl]; exact own_empty _ _, Below.refl _ _⟩
set_option maxRecDepth 100000 in
set_option maxHeartbeats 1600000 in
theorem fpa_any (w : World) (fb mb base : Nat) (nv : Value) (xs : List Nde) (hF : FlW w fb mb base nv xs) (hlen : xs.length ≤ 4096) (hq : ∀ x, x ∈ xs → 1 ≤ x.parts.length ∧ x.parts.length ≤ 8) : Calls Tryd.prog 59 #[.pointer (some ⟨fb, 0, none⟩)] w (FpaPost (xs.map Nde.pl) w) := by
  obtain ⟨i9, hi9, hz9, hz91, hz92⟩ := info_parts info9
  obtain ⟨n, hn⟩ : ∃ n, n = xs.length := ⟨_, rfl⟩
  have hlc := len_any w fb mb base nv xs hF
  rw [← hn] at hlc hlen
  have hn0 : (0 : Int) ≤ (n : Int) := by omega
  replace hF := Lib.hid hF; replace hn := Lib.hid hn; replace hlc := Lib.hid hlc; replace hq := Lib.hid hq
  go_enter Tryd.func59, Tryd.ntmps59
  go_wp2_with fail
  refine hlc.out.mono ?_
  rintro e w1 ⟨rfl, rfl⟩
  go_wp2
  go_loopw [3, 7] (fun ov i wr => ∃ k : Nat, i = .int .i64 k ∧ k ≤ n ∧ Hid (OwnT wr w1.heap.size ov (rawParts ((xs.map Nde.pl).take k))) ∧ Hid (Below w1.heap.size w1 wr)) (fun _ i _ => n - (intOf i).toNat)
  case atStart => exact ⟨0, rfl, Nat.zero_le _, own_empty _ _, Below.refl _ _⟩
  case round =>
    obtain ⟨k, rfl, hk, hO, hB⟩ := hrel
    by_cases hc : k < n
    · have hc1 : (k : Int) < n := by omega
      have hk0 : (0 : Int) ≤ (k : Int) := by omega
      have hFr := hF.out.below hB.out
      obtain ⟨g, cap, rfl⟩ := Joins.ownsRow_form hFr.row (by have := hn.out; omega)
      obtain ⟨x, hx⟩ : ∃ x, xs[k]? = some x := ⟨_, List.getElem?_eq_getElem (by have := hn.out; omega)⟩
      obtain ⟨g', e1, _, _, hcell⟩ := hFr.cell hx
      have e2 : g = g' := by simpa [Value.ownBlock] using e1
      subst e2
      have c5 : wr.cell? ⟨g, k * 6 + 5, none⟩ = some (.slice x.po x.pn x.pc) := hcell 5 (by omega)
      have f0 := blk_cell hFr.head 0
      simp at f0
      rw [← hn.out] at f0
      have hpl := pl_at hx
      have hrs := rawParts_step hpl
      have hxm := List.mem_of_getElem? hx
      have hqx := hq.out x hxm
      have hxo := (hFr.ok x hxm).1
      obtain ⟨nm, cp, po, pn, pc, ps⟩ := x
      have hpn : ps.length = pn := hxo.parts.len
      simp only at hqx c5
      obtain ⟨b, off, rfl, hbl, _⟩ := hxo.parts.cell 0 (ps[0]'(by omega)) (by simp)
      obtain ⟨L, hL⟩ : ∃ L, L = (rawParts ((xs.map Nde.pl).take k)).length := ⟨_, rfl⟩
      have hLk : L ≤ 8 * 4096 := by
        rw [hL]
        refine Nat.le_trans (rawParts_len (c := 8) fun v hv => ?_) (by rw [List.length_take]; omega)
        obtain ⟨y, hy, rfl⟩ := List.mem_map.1 (List.mem_of_mem_take hv)
        exact (hq.out y hy).2
      have hownA : wr.ownsRow w1.heap.size 9 1 u3 L (txts (rawParts ((xs.map Nde.pl).take k))) := by rw [hL]; exact hO.out.row
      have hl1 : (txts ps).length = pn * 1 := by simp [txts, hpn]
      have hnews := strs_news hxo.parts
      have hone1 := txts_one ps
      have h63 := maxLen_ge (n := L + pn) (by omega)
      have h63' : L + pn ≤ maxLen := by omega
      have hby : (L + pn) * 16 ≤ 140737488355328 := by omega
      have hbas : w1.heap.size ≤ wr.heap.size := hB.out.size
      have hpos : 0 < L + pn := by omega
      clear h63
      replace hFr := Lib.hid hFr; replace hx := Lib.hid hx; replace hpl := Lib.hid hpl; replace hcell := Lib.hid hcell; replace e1 := Lib.hid e1; replace hrs := Lib.hid hrs; replace hxm := Lib.hid hxm; replace hqx := Lib.hid hqx; replace hxo := Lib.hid hxo; replace hpn := Lib.hid hpn; replace hL := Lib.hid hL; replace hownA := Lib.hid hownA; replace hnews := Lib.hid hnews; replace hone1 := Lib.hid hone1; replace h63' := Lib.hid h63'; replace hby := Lib.hid hby; replace hbas := Lib.hid hbas; replace hl1 := Lib.hid hl1
      go_wp2_with (at_builtin; refine wpList_append_own _ rfl _ _ 36 rfl w1.heap.size 9 i9 _ 1 16 Tryd.underlying36 hi9 hz9 hz91 hz92 rfl (by decide) _ L _ rfl hownA.out ⟨b, off, none⟩ pn pc (txts ps) rfl hl1.out hnews.out hone1.out h63'.out hby.out hbas.out ?_; intro v1 w7 hown7 hgrow _; obtain ⟨g7, cap1, rfl⟩ := Joins.ownsRow_form hown7 hpos; replace hown7 := Lib.hid hown7; replace hgrow := Lib.hid hgrow)
      have hO7 : OwnT w7 w1.heap.size (.slice (some ⟨g7, 0, none⟩) (L + pn) cap1) (rawParts ((xs.map Nde.pl).take (k + 1))) := by
        rw [hrs.out]
        refine ⟨?_⟩
        rw [List.length_append, ← hL.out]
        have e : (Nde.pl ⟨nm, cp, some ⟨b, off, none⟩, pn, pc, ps⟩).parts = ps := rfl
        rw [e, hpn.out]
        simpa [txts] using hown7.out
      have hB7 : Below w1.heap.size w1 w7 := hB.out.grown hgrow.out hbas.out (fun k hk => (hO.out.row.lt k hk).1)
      replace hO7 := Lib.hid hO7; replace hB7 := Lib.hid hB7
      go_roundw
      case rel => exact ⟨k + 1, by go_num, by omega, hO7.out, hB7.out⟩
      case measure => simp [intOf]; omega
    · have hc1 : ¬ (k : Int) < n := by omega
      have hkn : (xs.map Nde.pl).take k = xs.map Nde.pl := List.take_of_length_le (by rw [List.length_map]; have := hn.out; omega)
      obtain ⟨R, hR⟩ : ∃ R, R = rawParts (xs.map Nde.pl) := ⟨_, rfl⟩
      have hO2 := hO.out
      rw [hkn, ← hR] at hO2
      have hRl : R.length ≤ 8 * 4096 := by
        rw [hR]
        refine Nat.le_trans (rawParts_len (c := 8) fun v hv => ?_) (by rw [List.length_map]; have := hn.out; omega)
        obtain ⟨y, hy, rfl⟩ := List.mem_map.1 hv
        exact (hq.out y hy).2
      have hP : partsOf (xs.map Nde.pl) = Lib.compact ((R.map (·.data.toList)).mergeSort fun x y => decide (x ≤ y)) := by unfold partsOf; rw [← hR]
      replace hkn := Lib.hid hkn; replace hO := Lib.hid hO
      by_cases hnil : u3 = .slice none 0 0
      · have hR0 : R = [] := by
          rcases hO2.row.2 with ⟨_, h⟩ | ⟨g, cap, cur, hv, _⟩
          · exact List.length_eq_zero_iff.1 h
          · rw [hnil] at hv; cases hv
        have hPe : partsOf (xs.map Nde.pl) = [] := partsOf_raw (by rw [← hR]; exact hR0)
        subst hnil
        replace hO2 := Lib.hid hO2; replace hP := Lib.hid hP; replace hR := Lib.hid hR; replace hR0 := Lib.hid hR0; replace hPe := Lib.hid hPe
        go_wp2_with fail
        refine (Tryd.slices_Sort_string_none none 0 _).mono ?_
        rintro e w2 ⟨rfl, rfl⟩
        go_wp2_with fail
        refine (Tryd.slices_Compact_string_empty none 0 _).mono ?_
        rintro e w2 ⟨rfl, rfl⟩
        go_wp2
        go_ret
        exact ⟨_, rfl, by rw [hPe.out]; exact own_empty _ _, hB.out⟩
      · have hrow := hO2.row
        have hmp : txts R = (R.map (·.data.toList)).map encStr := (Lib.map_encStr R).symm
        rw [hmp] at hrow
        obtain ⟨g, cap, rfl, hgb, hgl, hcap1, hcap2, _, hH⟩ := Lib.holds_of_ownsRow hrow hnil
        obtain ⟨Z, hZ⟩ : ∃ Z, Z = R.map (·.data.toList) := ⟨_, rfl⟩
        have hZl : R.length = Z.length := by rw [hZ, List.length_map]
        rw [← hZ, hZl] at hrow
        rw [← hZ] at hH
        rw [hZl] at hRl hcap1
        rw [hZl]
        have hP2 := hP
        rw [← hZ] at hP2
        replace hrow := Lib.hid hrow; replace hmp := Lib.hid hmp; replace hH := Lib.hid hH; replace hP := Lib.hid hP; replace hP2 := Lib.hid hP2; replace hO2 := Lib.hid hO2; replace hZ := Lib.hid hZ; replace hZl := Lib.hid hZl; replace hR := Lib.hid hR; replace hnil := Lib.hid hnil
        go_wp2_with fail
        refine (Tryd.slices_Sort_string g 0 cap Z _ hH.out hgl (by omega)).mono ?_
        rintro e w2 ⟨rfl, q, os, hw2⟩
        obtain ⟨Y, hY⟩ : ∃ Y, Y = Z.mergeSort fun x y => decide (x ≤ y) := ⟨_, rfl⟩
        have hYl : Y.length = Z.length := by rw [hY, List.length_mergeSort]
        have hr2 := Lib.ownsRow_putRow (q := q) (ys := Y) hrow.out hYl (Nat.le_refl _)
        rw [← hYl, List.take_length] at hr2
        have hr3 := World.ownsRow.kept hr2 (grown_grow _ os) (.inr (by simp [Value.ownBlock]))
        rw [hY, ← hw2, ← hY] at hr3
        have hB2 : Below w1.heap.size w1 w2 := by rw [hw2]; exact (Lib.below_putRow hB.out hgb).grown (grown_grow _ os) (Lib.below_putRow hB.out hgb).size (fun k e => by cases e)
        rw [← hYl]
        replace hw2 := Lib.hid hw2; replace hr2 := Lib.hid hr2; replace hY := Lib.hid hY; replace hYl := Lib.hid hYl; replace hB2 := Lib.hid hB2
        have hcl : (Lib.compact Y).length ≤ Y.length := compact_le Y
        obtain ⟨g2, cap2, e3, _, _, hc2, _, _, hH2⟩ := Lib.holds_of_ownsRow hr3 (by simp)
        have e4 : g = g2 ∧ cap = cap2 := by simpa using e3
        obtain ⟨rfl, rfl⟩ := e4
        have hr4 := fun q => Lib.ownsRow_putRow (q := q) (ys := Lib.compact Y ++ List.replicate (Y.length - (Lib.compact Y).length) []) hr3 (by simp; omega) hcl
        have hf : ((Lib.compact Y ++ List.replicate (Y.length - (Lib.compact Y).length) ([] : List UInt8)).take (Lib.compact Y).length) = Lib.compact Y := by simp
        rw [hf] at hr4
        have hYb : Y.length ≤ 9223372036854775807 := by have := hYl.out; omega
        have hPY : partsOf (xs.map Nde.pl) = Lib.compact Y := by rw [hP2.out, hY.out]
        replace hr3 := Lib.hid hr3; replace hcl := Lib.hid hcl; replace hH2 := Lib.hid hH2; replace hr4 := Lib.hid hr4; replace hf := Lib.hid hf; replace hPY := Lib.hid hPY; replace e3 := Lib.hid e3
        go_wp2_with fail
        refine (Tryd.slices_Compact_string g 0 cap Y _ hH2.out hYb hc2).mono ?_
        rintro e w3 ⟨rfl, q2, hw3⟩
        have hr5 := hr4.out q2
        have hB3 : Below w1.heap.size w1 w3 := by rw [hw3]; exact Lib.below_putRow hB2.out hgb
        rw [← hw3] at hr5
        replace hr5 := Lib.hid hr5; replace hB3 := Lib.hid hB3; replace hw3 := Lib.hid hw3
        go_wp2
        go_ret
        refine ⟨_, rfl, ⟨?_⟩, hB3.out⟩
        rw [List.length_map, hPY.out, txts_ofL]
        exact hr5.out
end Go.Proofs.YteoihdkaoipocaaDoor

/- (*fleet.Fleet).Total: what a partition's nodes have. -/
namespace Go.Proofs.YteoihdkaoipocaaDoor
open Go.RowKit Go.Maps Go.Shelf

structure TtW (w : World) (v : V4) (W : World) : Prop where
  low : Below w.heap.size w W
  r0 : W.heap[w.heap.size]? = some (.cells V4.zero.cells 25 (0, 0))
  r1 : W.heap[w.heap.size + 1]? = some (.cells v.cells 25 (0, 0))
theorem TtW.drew {w W : World} {v : V4} (h : TtW w v W) : TtW w v W.drew := ⟨h.low.drew, h.r0, h.r1⟩
theorem TtW.set {w W : World} {v v' : V4} (h : TtW w v W) (o : Nat) (x : Value) (e : v.cells.setIfInBounds o x = v'.cells) : TtW w v' (W.setCell ⟨w.heap.size + 1, o, none⟩ x) :=
  ⟨h.low.setCell (Nat.le_succ _) _, blk_set_other (Nat.ne_of_lt (Nat.lt_succ_self _)) _ h.r0, by rw [blk_set h.r1, e]⟩
/-- the first k are added -/
def mixV (u c : V4) (k : Nat) : V4 := ⟨if 0 < k then u.a + c.a else u.a, if 1 < k then u.b + c.b else u.b, if 2 < k then u.c + c.c else u.c, if 3 < k then u.d + c.d else u.d⟩
theorem mixV_zero (u c : V4) : mixV u c 0 = u := rfl
theorem mixV_four (u c : V4) : mixV u c 4 = addV u c := rfl
theorem tt_end {w W : World} {v : V4} (h : TtW w v W) : Below w.heap.size w ((((W.setCell ⟨w.heap.size, 0, none⟩ (.int .i64 v.a)).setCell ⟨w.heap.size, 1, none⟩ (.int .i64 v.b)).setCell ⟨w.heap.size, 2, none⟩ (.int .i64 v.c)).setCell ⟨w.heap.size, 3, none⟩ (.int .i64 v.d)) :=
  (((h.low.setCell (Nat.le_refl _) _).setCell (Nat.le_refl _) _).setCell (Nat.le_refl _) _).setCell (Nat.le_refl _) _
def TotPost (vs : List Ndv) (p : ByteArray) (w : World) (e : Ending) (w' : World) : Prop := e = .returned (totOf vs p).val ∧ Below w.heap.size w w'
theorem tot_nil (p : ByteArray) (w : World) : Calls Tryd.prog 60 #[.pointer none, .string p] w (TotPost [] p w) := by
  go_enter Tryd.func60, Tryd.ntmps60
  go_wp2_with fail
  (with_reducible refine (len_nil _).mono ?_)
  rintro e w1 ⟨rfl, rfl⟩
  go_wp2
  go_loopw [11] (fun i wr => i = .int .i64 0 ∧ Hid (TtW w V4.zero wr)) (fun i _ => 0)
  case atStart => exact ⟨rfl, ⟨((Below.refl _ _).alloc (Nat.le_refl _) _).alloc (by simp) _, blk_old _ (blk_new _ _), blk_at _ _ (by simp)⟩⟩
  case round =>
    obtain ⟨rfl, hT⟩ := hrel
    have r1 := blk_cell hT.out.r1
    have r0 := blk_cell hT.out.r0
    have hr1 := blk_free hT.out.r0
    go_wp2
    have e := tt_end hT.out
    refine bodyPost_ret (v := V4.zero.val) (by simp [results, Tryd.results60, go_sem, r0, V4.zero]) rfl ⟨rfl, ?_⟩
    exact e
theorem idx4_0 (a b c d : Int) (w : World) : (Instr.index 25 (.agg #[.int .i64 a, .int .i64 b, .int .i64 c, .int .i64 d]) (.int .i64 0)).run Tryd.prog w = .ok (.int .i64 a) w := by kernel_rfl
theorem idx4_1 (a b c d : Int) (w : World) : (Instr.index 25 (.agg #[.int .i64 a, .int .i64 b, .int .i64 c, .int .i64 d]) (.int .i64 1)).run Tryd.prog w = .ok (.int .i64 b) w := by kernel_rfl
theorem idx4_2 (a b c d : Int) (w : World) : (Instr.index 25 (.agg #[.int .i64 a, .int .i64 b, .int .i64 c, .int .i64 d]) (.int .i64 2)).run Tryd.prog w = .ok (.int .i64 c) w := by kernel_rfl
theorem idx4_3 (a b c d : Int) (w : World) : (Instr.index 25 (.agg #[.int .i64 a, .int .i64 b, .int .i64 c, .int .i64 d]) (.int .i64 3)).run Tryd.prog w = .ok (.int .i64 d) w := by kernel_rfl
set_option maxRecDepth 100000 in
set_option maxHeartbeats 6400000 in
theorem tot_any (w : World) (fb mb base : Nat) (nv : Value) (xs : List Nde) (p : ByteArray) (hF : FlW w fb mb base nv xs) (hlen : xs.length ≤ 4096) (hcap : ∀ x, x ∈ xs → CapOk x.cap) : Calls Tryd.prog 60 #[.pointer (some ⟨fb, 0, none⟩), .string p] w (TotPost (xs.map Nde.pl) p w) := by
  obtain ⟨n, hn⟩ : ∃ n, n = xs.length := ⟨_, rfl⟩
  have hW0 : TtW w V4.zero ((w.alloc (.cells V4.zero.cells 25 (0, 0))).alloc (.cells V4.zero.cells 25 (0, 0))) := ⟨((Below.refl _ _).alloc (Nat.le_refl _) _).alloc (by simp) _, blk_old _ (blk_new _ _), blk_at _ _ (by simp)⟩
  have hlc := len_any _ fb mb base nv xs (hF.below hW0.low)
  rw [← hn] at hlc hlen
  have hn0 : (0 : Int) ≤ (n : Int) := by omega
  have hcp : ∀ v, v ∈ xs.map Nde.pl → CapOk v.cap := fun v hv => by
    obtain ⟨x, hx, rfl⟩ := List.mem_map.1 hv
    exact hcap x hx
  replace hF := Lib.hid hF; replace hn := Lib.hid hn; replace hlc := Lib.hid hlc; replace hW0 := Lib.hid hW0; replace hcp := Lib.hid hcp; replace hcap := Lib.hid hcap
  go_enter Tryd.func60, Tryd.ntmps60
  go_wp2_with fail
  refine hlc.out.mono ?_
  rintro e w1 ⟨rfl, rfl⟩
  go_wp2
  go_loopw [11] (fun i wr => ∃ k : Nat, i = .int .i64 k ∧ k ≤ n ∧ Hid (TtW w (totOf ((xs.map Nde.pl).take k) p) wr)) (fun i _ => n - (intOf i).toNat)
  case atStart => exact ⟨0, rfl, Nat.zero_le _, hW0.out⟩
  case round =>
    obtain ⟨k, rfl, hk, hT⟩ := hrel
    by_cases hc : k < n
    · have hc1 : (k : Int) < n := by omega
      have hk0 : (0 : Int) ≤ (k : Int) := by omega
      have hFr := hF.out.below hT.out.low
      obtain ⟨g, cap, rfl⟩ := Joins.ownsRow_form hFr.row (by have := hn.out; omega)
      obtain ⟨x, hx⟩ : ∃ x, xs[k]? = some x := ⟨_, List.getElem?_eq_getElem (by have := hn.out; omega)⟩
      obtain ⟨g', e1, hgl, hgb, hcell⟩ := hFr.cell hx
      have e2 : g = g' := by simpa [Value.ownBlock] using e1
      subst e2
      have c1 : wr.cell? ⟨g, k * 6 + 1, none⟩ = some (.int .i64 x.cap.a) := hcell 1 (by omega)
      have c2 : wr.cell? ⟨g, k * 6 + 2, none⟩ = some (.int .i64 x.cap.b) := hcell 2 (by omega)
      have c3 : wr.cell? ⟨g, k * 6 + 3, none⟩ = some (.int .i64 x.cap.c) := hcell 3 (by omega)
      have c4 : wr.cell? ⟨g, k * 6 + 4, none⟩ = some (.int .i64 x.cap.d) := hcell 4 (by omega)
      have c5 : wr.cell? ⟨g, k * 6 + 5, none⟩ = some (.slice x.po x.pn x.pc) := hcell 5 (by omega)
      have f0 := blk_cell hFr.head 0
      simp at f0
      rw [← hn.out] at f0
      have hct := contains_call wr x.po x.pn x.pc x.parts p (hFr.ok x (List.mem_of_getElem? hx)).1.parts
      obtain ⟨b, hb⟩ : ∃ b, b = memB x.parts p := ⟨_, rfl⟩
      rw [← hb] at hct
      have hpl := pl_at hx
      have hst := totOf_step p hpl
      have hup := totOf_upto (vs := (xs.map Nde.pl).take k) p (fun v hv => hcp.out v (List.mem_of_mem_take hv))
      have hcx := hcap.out x (List.mem_of_getElem? hx)
      have hltk : ((xs.map Nde.pl).take k).length = k := by rw [List.length_take, List.length_map]; have := hn.out; omega
      rw [hltk] at hup
      replace hFr := Lib.hid hFr; replace hx := Lib.hid hx; replace hct := Lib.hid hct; replace hb := Lib.hid hb; replace hpl := Lib.hid hpl; replace hcell := Lib.hid hcell; replace e1 := Lib.hid e1; replace hst := Lib.hid hst; replace hup := Lib.hid hup; replace hcx := Lib.hid hcx; replace hltk := Lib.hid hltk
      obtain ⟨U, hU⟩ : ∃ U, U = totOf ((xs.map Nde.pl).take k) p := ⟨_, rfl⟩
      have hT' := hT.out
      have hup' := hup.out
      have hst' := hst.out
      rw [← hU] at hT' hup' hst'
      obtain ⟨nm, ⟨ca, cb, cc, cd⟩, po, pn, pc, ps⟩ := x
      obtain ⟨ua, ub, uc, ud⟩ := U
      obtain ⟨v1, v2, v3, v4, v5, v6, v7, v8⟩ := hup'
      obtain ⟨x1, x2, x3, x4, x5, x6, x7, x8⟩ := hcx.out
      simp only at v1 v2 v3 v4 v5 v6 v7 v8 x1 x2 x3 x4 x5 x6 x7 x8 c1 c2 c3 c4
      have y1 : ua ≤ 4398046511104 := by omega
      have y2 : ub ≤ 4398046511104 := by omega
      have y3 : uc ≤ 4398046511104 := by omega
      have y4 : ud ≤ 4398046511104 := by omega
      clear v2 v4 v6 v8
      replace hU := Lib.hid hU; replace hT' := Lib.hid hT'; replace hst' := Lib.hid hst'; replace hT := Lib.hid hT
      cases hp : p.toList.isEmpty with
      | true =>
        have hcn : counts (Nde.pl ⟨nm, ⟨ca, cb, cc, cd⟩, po, pn, pc, ps⟩) p = true := by unfold counts; rw [hp]; rfl
        replace hcn := Lib.hid hcn
        go_wp2_with fail
        have hT2 : TtW w (mixV ⟨ua, ub, uc, ud⟩ ⟨ca, cb, cc, cd⟩ 0) wr := hT'.out
        replace hT2 := Lib.hid hT2
        go_loopw [37] (fun i wq => ∃ j : Nat, j ≤ 4 ∧ i = .int .i64 j ∧ Hid (TtW w (mixV ⟨ua, ub, uc, ud⟩ ⟨ca, cb, cc, cd⟩ j) wq)) (fun i _ => 4 - (intOf i).toNat)
        case atStart => exact ⟨0, by omega, rfl, hT2.out⟩
        case round =>
          obtain ⟨j, hj, hjv, hM⟩ := hrel
          rcases (show j = 0 ∨ j = 1 ∨ j = 2 ∨ j = 3 ∨ j = 4 by omega) with rfl | rfl | rfl | rfl | rfl
          · have hjv' : u37 = .int .i64 0 := hjv
            clear hjv
            subst hjv'
            have hix := fun w => idx4_0 ca cb cc cd w
            have q0 : wr.cell? ⟨w.heap.size + 1, 0, none⟩ = some (.int .i64 ua) := blk_cell hM.out.r1 0
            have f0 : wr.frozen? ⟨w.heap.size + 1, 0, none⟩ = false := blk_free hM.out.r1 0
            have hM2 : TtW w (mixV ⟨ua, ub, uc, ud⟩ ⟨ca, cb, cc, cd⟩ 1) (wr.setCell ⟨w.heap.size + 1, 0, none⟩ (.int .i64 (ua + ca))) := hM.out.set 0 _ rfl
            replace hM2 := Lib.hid hM2
            go_wp2
            go_roundw
            case rel => exact ⟨1, by omega, rfl, hM2.out⟩
            case measure => simp [intOf]
          · have hjv' : u37 = .int .i64 1 := hjv
            clear hjv
            subst hjv'
            have hix := fun w => idx4_1 ca cb cc cd w
            have q1 : wr.cell? ⟨w.heap.size + 1, 1, none⟩ = some (.int .i64 ub) := blk_cell hM.out.r1 1
            have f1 : wr.frozen? ⟨w.heap.size + 1, 1, none⟩ = false := blk_free hM.out.r1 1
            have hM2 : TtW w (mixV ⟨ua, ub, uc, ud⟩ ⟨ca, cb, cc, cd⟩ 2) (wr.setCell ⟨w.heap.size + 1, 1, none⟩ (.int .i64 (ub + cb))) := hM.out.set 1 _ rfl
            replace hM2 := Lib.hid hM2
            go_wp2
            go_roundw
            case rel => exact ⟨2, by omega, rfl, hM2.out⟩
            case measure => simp [intOf]
          · have hjv' : u37 = .int .i64 2 := hjv
            clear hjv
            subst hjv'
            have hix := fun w => idx4_2 ca cb cc cd w
            have q2 : wr.cell? ⟨w.heap.size + 1, 2, none⟩ = some (.int .i64 uc) := blk_cell hM.out.r1 2
            have f2 : wr.frozen? ⟨w.heap.size + 1, 2, none⟩ = false := blk_free hM.out.r1 2
            have hM2 : TtW w (mixV ⟨ua, ub, uc, ud⟩ ⟨ca, cb, cc, cd⟩ 3) (wr.setCell ⟨w.heap.size + 1, 2, none⟩ (.int .i64 (uc + cc))) := hM.out.set 2 _ rfl
            replace hM2 := Lib.hid hM2
            go_wp2
            go_roundw
            case rel => exact ⟨3, by omega, rfl, hM2.out⟩
            case measure => simp [intOf]
          · have hjv' : u37 = .int .i64 3 := hjv
            clear hjv
            subst hjv'
            have hix := fun w => idx4_3 ca cb cc cd w
            have q3 : wr.cell? ⟨w.heap.size + 1, 3, none⟩ = some (.int .i64 ud) := blk_cell hM.out.r1 3
            have f3 : wr.frozen? ⟨w.heap.size + 1, 3, none⟩ = false := blk_free hM.out.r1 3
            have hM2 : TtW w (mixV ⟨ua, ub, uc, ud⟩ ⟨ca, cb, cc, cd⟩ 4) (wr.setCell ⟨w.heap.size + 1, 3, none⟩ (.int .i64 (ud + cd))) := hM.out.set 3 _ rfl
            replace hM2 := Lib.hid hM2
            go_wp2
            go_roundw
            case rel => exact ⟨4, by omega, rfl, hM2.out⟩
            case measure => simp [intOf]
          · have hjv' : u37 = .int .i64 4 := hjv
            clear hjv
            subst hjv'
            have hT3 : TtW w (totOf ((xs.map Nde.pl).take (k + 1)) p) wr := by rw [hst'.out, if_pos hcn.out]; exact hM.out
            replace hT3 := Lib.hid hT3
            go_wp2
            go_roundw
            case rel => exact ⟨k + 1, by go_num, by omega, hT3.out⟩
            case measure => simp [intOf]; omega
      | false =>
        cases b with
        | true =>
          have hcn : counts (Nde.pl ⟨nm, ⟨ca, cb, cc, cd⟩, po, pn, pc, ps⟩) p = true := by unfold counts; rw [hp]; exact hb.out.symm
          replace hcn := Lib.hid hcn
          go_wp2_with fail
          (with_reducible refine hct.out.mono ?_)
          rintro e wr ⟨rfl, rfl⟩
          go_wp2
          have hT2 : TtW w (mixV ⟨ua, ub, uc, ud⟩ ⟨ca, cb, cc, cd⟩ 0) wr := hT'.out
          replace hT2 := Lib.hid hT2
          go_loopw [37] (fun i wq => ∃ j : Nat, j ≤ 4 ∧ i = .int .i64 j ∧ Hid (TtW w (mixV ⟨ua, ub, uc, ud⟩ ⟨ca, cb, cc, cd⟩ j) wq)) (fun i _ => 4 - (intOf i).toNat)
          case atStart => exact ⟨0, by omega, rfl, hT2.out⟩
          case round =>
            obtain ⟨j, hj, hjv, hM⟩ := hrel
            rcases (show j = 0 ∨ j = 1 ∨ j = 2 ∨ j = 3 ∨ j = 4 by omega) with rfl | rfl | rfl | rfl | rfl
            · have hjv' : u37 = .int .i64 0 := hjv
              clear hjv
              subst hjv'
              have hix := fun w => idx4_0 ca cb cc cd w
              have q0 : wr.cell? ⟨w.heap.size + 1, 0, none⟩ = some (.int .i64 ua) := blk_cell hM.out.r1 0
              have f0 : wr.frozen? ⟨w.heap.size + 1, 0, none⟩ = false := blk_free hM.out.r1 0
              have hM2 : TtW w (mixV ⟨ua, ub, uc, ud⟩ ⟨ca, cb, cc, cd⟩ 1) (wr.setCell ⟨w.heap.size + 1, 0, none⟩ (.int .i64 (ua + ca))) := hM.out.set 0 _ rfl
              replace hM2 := Lib.hid hM2
              go_wp2
              go_roundw
              case rel => exact ⟨1, by omega, rfl, hM2.out⟩
              case measure => simp [intOf]
            · have hjv' : u37 = .int .i64 1 := hjv
              clear hjv
              subst hjv'
              have hix := fun w => idx4_1 ca cb cc cd w
              have q1 : wr.cell? ⟨w.heap.size + 1, 1, none⟩ = some (.int .i64 ub) := blk_cell hM.out.r1 1
              have f1 : wr.frozen? ⟨w.heap.size + 1, 1, none⟩ = false := blk_free hM.out.r1 1
              have hM2 : TtW w (mixV ⟨ua, ub, uc, ud⟩ ⟨ca, cb, cc, cd⟩ 2) (wr.setCell ⟨w.heap.size + 1, 1, none⟩ (.int .i64 (ub + cb))) := hM.out.set 1 _ rfl
              replace hM2 := Lib.hid hM2
              go_wp2
              go_roundw
              case rel => exact ⟨2, by omega, rfl, hM2.out⟩
              case measure => simp [intOf]
            · have hjv' : u37 = .int .i64 2 := hjv
              clear hjv
              subst hjv'
              have hix := fun w => idx4_2 ca cb cc cd w
              have q2 : wr.cell? ⟨w.heap.size + 1, 2, none⟩ = some (.int .i64 uc) := blk_cell hM.out.r1 2
              have f2 : wr.frozen? ⟨w.heap.size + 1, 2, none⟩ = false := blk_free hM.out.r1 2
              have hM2 : TtW w (mixV ⟨ua, ub, uc, ud⟩ ⟨ca, cb, cc, cd⟩ 3) (wr.setCell ⟨w.heap.size + 1, 2, none⟩ (.int .i64 (uc + cc))) := hM.out.set 2 _ rfl
              replace hM2 := Lib.hid hM2
              go_wp2
              go_roundw
              case rel => exact ⟨3, by omega, rfl, hM2.out⟩
              case measure => simp [intOf]
            · have hjv' : u37 = .int .i64 3 := hjv
              clear hjv
              subst hjv'
              have hix := fun w => idx4_3 ca cb cc cd w
              have q3 : wr.cell? ⟨w.heap.size + 1, 3, none⟩ = some (.int .i64 ud) := blk_cell hM.out.r1 3
              have f3 : wr.frozen? ⟨w.heap.size + 1, 3, none⟩ = false := blk_free hM.out.r1 3
              have hM2 : TtW w (mixV ⟨ua, ub, uc, ud⟩ ⟨ca, cb, cc, cd⟩ 4) (wr.setCell ⟨w.heap.size + 1, 3, none⟩ (.int .i64 (ud + cd))) := hM.out.set 3 _ rfl
              replace hM2 := Lib.hid hM2
              go_wp2
              go_roundw
              case rel => exact ⟨4, by omega, rfl, hM2.out⟩
              case measure => simp [intOf]
            · have hjv' : u37 = .int .i64 4 := hjv
              clear hjv
              subst hjv'
              have hT3 : TtW w (totOf ((xs.map Nde.pl).take (k + 1)) p) wr := by rw [hst'.out, if_pos hcn.out]; exact hM.out
              replace hT3 := Lib.hid hT3
              go_wp2
              go_roundw
              case rel => exact ⟨k + 1, by go_num, by omega, hT3.out⟩
              case measure => simp [intOf]; omega
        | false =>
          have hcn : counts (Nde.pl ⟨nm, ⟨ca, cb, cc, cd⟩, po, pn, pc, ps⟩) p = false := by unfold counts; rw [hp]; exact hb.out.symm
          have hT2 : TtW w (totOf ((xs.map Nde.pl).take (k + 1)) p) wr := by rw [hst'.out, if_neg (by rw [hcn]; simp)]; exact hT'.out
          replace hcn := Lib.hid hcn; replace hT2 := Lib.hid hT2
          go_wp2_with fail
          (with_reducible refine hct.out.mono ?_)
          rintro e wr ⟨rfl, rfl⟩
          go_wp2
          go_roundw
          case rel => exact ⟨k + 1, by go_num, by omega, hT2.out⟩
          case measure => simp [intOf]; omega
    · have hc1 : ¬ (k : Int) < n := by omega
      have hkn : (xs.map Nde.pl).take k = xs.map Nde.pl := List.take_of_length_le (by rw [List.length_map]; have := hn.out; omega)
      have hT' := hT.out
      rw [hkn] at hT'
      obtain ⟨U, hU⟩ : ∃ U, U = totOf (xs.map Nde.pl) p := ⟨_, rfl⟩
      rw [← hU] at hT'
      obtain ⟨ua, ub, uc, ud⟩ := U
      have r1 := hT'.r1
      have a0 : wr.cell? ⟨w.heap.size + 1, 0, none⟩ = some (.int .i64 ua) := blk_cell r1 0
      have a1 : wr.cell? ⟨w.heap.size + 1, 1, none⟩ = some (.int .i64 ub) := blk_cell r1 1
      have a2 : wr.cell? ⟨w.heap.size + 1, 2, none⟩ = some (.int .i64 uc) := blk_cell r1 2
      have a3 : wr.cell? ⟨w.heap.size + 1, 3, none⟩ = some (.int .i64 ud) := blk_cell r1 3
      have r0 := hT'.r0
      have b0 : wr.cell? ⟨w.heap.size, 0, none⟩ = some (.int .i64 0) := blk_cell r0 0
      have b1 : wr.cell? ⟨w.heap.size, 1, none⟩ = some (.int .i64 0) := blk_cell r0 1
      have b2 : wr.cell? ⟨w.heap.size, 2, none⟩ = some (.int .i64 0) := blk_cell r0 2
      have b3 : wr.cell? ⟨w.heap.size, 3, none⟩ = some (.int .i64 0) := blk_cell r0 3
      have fr := blk_free hT'.r0
      have e := tt_end hT'
      replace hkn := Lib.hid hkn; replace hT' := Lib.hid hT'; replace hU := Lib.hid hU; replace hT := Lib.hid hT; replace r1 := Lib.hid r1; replace r0 := Lib.hid r0; replace e := Lib.hid e
      go_wp2
      refine bodyPost_ret (v := V4.val ⟨ua, ub, uc, ud⟩) (by simp [results, Tryd.results60, go_sem, b0, b1, b2, b3]) rfl ⟨?_, e.out⟩
      rw [hU.out]
end Go.Proofs.YteoihdkaoipocaaDoor

/- What a read fleet is, and what its methods answer. -/
namespace Go.Proofs.YteoihdkaoipocaaDoor
open Go.RowKit Go.Maps Go.Shelf

structure NdvAll (v : Ndv) : Prop where
  ok : NdvOk v
  few : v.parts.length ≤ 8
  once : twiceL v.parts = false
structure FltOk (vs : List Ndv) : Prop where
  len : vs.length ≤ 16
  all : ∀ v, v ∈ vs → NdvAll v
  nodup : (vs.map Ndv.name).Nodup
theorem fltOk_nil : FltOk [] := ⟨by simp, fun v h => (by cases h), by simp⟩
theorem putE_zero {ns : List ByteArray} {m : Nat} {name : ByteArray} {parts : List ByteArray} (h : putE ns m name parts = 0) : name ∉ ns ∧ twiceL parts = false ∧ m < 16 ∧ parts.length ≤ 8 := by
  unfold putE at h
  split at h
  · cases h
  · next h1 =>
    split at h
    · cases h
    · next h2 =>
      split at h
      · cases h
      · next h3 => exact ⟨fun c => h1 (memB_iff.2 c), by simpa using h2, by omega, by omega⟩
theorem readTo_good (l : List (Int × ByteArray)) : ∀ xs, FltOk xs → FltOk (readTo xs l).1 := by
  induction l with
  | nil => intro xs h; exact h
  | cons x l ih =>
    intro xs h
    obtain ⟨i, b⟩ := x
    simp only [readTo]
    cases hn : nodeOf b with
    | none => exact h
    | some v =>
      simp only
      by_cases c : putE (xs.map Ndv.name) xs.length v.name v.parts = 0
      · rw [if_pos c]
        obtain ⟨c1, c2, c3, c4⟩ := putE_zero c
        refine ih _ ⟨by simp; omega, fun y hy => ?_, ?_⟩
        · rcases List.mem_append.1 hy with hy | hy
          · exact h.all y hy
          · have : y = v := by simpa using hy
            subst this
            exact ⟨nodeOf_ok hn, c4, c2⟩
        · rw [List.map_append, List.nodup_append]
          refine ⟨h.nodup, by simp, fun a ha b hb => ?_⟩
          have : b = v.name := by simpa using hb
          subst this
          exact fun e => c1 (by rw [← e]; exact ha)
      · rw [if_neg c]; exact h
theorem readOf_good (s : ByteArray) : FltOk (readOf s).1 := by
  unfold readOf
  split
  · exact fltOk_nil
  · exact readTo_good _ _ fltOk_nil
theorem capOk_right {v : V4} (h : v.right = true) : CapOk v := by
  simp only [V4.right, okn, Bool.and_eq_true, decide_eq_true_eq] at h
  exact ⟨h.1.1.1.1, h.1.1.1.2, h.1.1.2.1, h.1.1.2.2, h.1.2.1, h.1.2.2, h.2.1, h.2.2⟩
/-- the place of a text in a row; -1: it isn't there -/
def idxN : List ByteArray → ByteArray → Nat → Int
  | [], _, _ => -1
  | n :: ns, s, k => if n = s then (k : Int) else idxN ns s (k + 1)
theorem idxN_no {ns : List ByteArray} {s : ByteArray} (h : s ∉ ns) (k : Nat) : idxN ns s k = -1 := by
  induction ns generalizing k with
  | nil => rfl
  | cons n ns ih =>
    simp only [idxN]
    rw [if_neg (fun e => h (by rw [e]; exact List.mem_cons_self ..)), ih (fun c => h (List.mem_cons_of_mem _ c))]
theorem idxN_at {ns : List ByteArray} {s : ByteArray} {i : Nat} (hn : ns.Nodup) (h : ns[i]? = some s) (k : Nat) : idxN ns s k = ((k + i : Nat) : Int) := by
  induction ns generalizing k i with
  | nil => simp at h
  | cons n ns ih =>
    simp only [idxN]
    cases i with
    | zero =>
      have : n = s := by simpa using h
      rw [if_pos this]; rfl
    | succ i =>
      have h' : ns[i]? = some s := by simpa using h
      have hne : n ≠ s := fun e => by
        have := (List.nodup_cons.1 hn).1
        exact this (by rw [e]; exact List.mem_of_getElem? h')
      rw [if_neg hne, ih (List.nodup_cons.1 hn).2 h', show k + 1 + i = k + (i + 1) by omega]
theorem nodup_last {ns : List ByteArray} {s : ByteArray} {i : Nat} (hn : ns.Nodup) (h : ns[i]? = some s) : ∀ j, i < j → ns[j]? ≠ some s := fun j hj e => by
  have h1 := (List.getElem?_eq_some_iff.1 h)
  have h2 := (List.getElem?_eq_some_iff.1 e)
  obtain ⟨a, ha⟩ := h1
  obtain ⟨b, hb⟩ := h2
  have := List.getElem_inj (h₀ := a) (h₁ := b) hn |>.1 (ha.trans hb.symm)
  omega
theorem len_flt {w : World} {fb mb base : Nat} {vs : List Ndv} (h : Flt w fb mb base vs) : Calls Tryd.prog 38 #[.pointer (some ⟨fb, 0, none⟩)] w fun e w' => e = .returned (.int .i64 (vs.length : Int)) ∧ w' = w := by
  obtain ⟨nv, xs, h1, rfl, h3⟩ := h.ex
  rw [List.length_map]
  exact len_any w fb mb base nv xs h1
theorem in_flt {w : World} {fb mb base : Nat} {vs : List Ndv} (h : Flt w fb mb base vs) (hok : FltOk vs) (p : ByteArray) : Calls Tryd.prog 58 #[.pointer (some ⟨fb, 0, none⟩), .string p] w (FinPost vs p w) := by
  obtain ⟨nv, xs, h1, rfl, h3⟩ := h.ex
  have := hok.len
  rw [List.length_map] at this
  exact fin_any w fb mb base nv xs p h1 (by omega)
theorem tot_flt {w : World} {fb mb base : Nat} {vs : List Ndv} (h : Flt w fb mb base vs) (hok : FltOk vs) (p : ByteArray) : Calls Tryd.prog 60 #[.pointer (some ⟨fb, 0, none⟩), .string p] w (TotPost vs p w) := by
  obtain ⟨nv, xs, h1, rfl, h3⟩ := h.ex
  have := hok.len
  rw [List.length_map] at this
  exact tot_any w fb mb base nv xs p h1 (by omega) fun x hx => capOk_right (hok.all x.pl (List.mem_map_of_mem hx)).ok.cap
theorem parts_flt {w : World} {fb mb base : Nat} {vs : List Ndv} (h : Flt w fb mb base vs) (hok : FltOk vs) : Calls Tryd.prog 59 #[.pointer (some ⟨fb, 0, none⟩)] w (FpaPost vs w) := by
  obtain ⟨nv, xs, h1, rfl, h3⟩ := h.ex
  have := hok.len
  rw [List.length_map] at this
  exact fpa_any w fb mb base nv xs h1 (by omega) fun x hx => ⟨(hok.all x.pl (List.mem_map_of_mem hx)).ok.one, (hok.all x.pl (List.mem_map_of_mem hx)).few⟩
theorem index_flt {w : World} {fb mb base : Nat} {vs : List Ndv} (h : Flt w fb mb base vs) (hok : FltOk vs) (s : ByteArray) (hs : s.size ≤ maxLen) : Calls Tryd.prog 57 #[.pointer (some ⟨fb, 0, none⟩), .string s] w fun e w' => e = .returned (.int .i64 (idxN (vs.map Ndv.name) s 0)) ∧ w' = w := by
  obtain ⟨nv, xs, h1, rfl, h3⟩ := h.ex
  have hns : (xs.map Nde.pl).map Ndv.name = xs.map Nde.name := by rw [List.map_map]; rfl
  have hnd := hok.nodup
  rw [hns] at hnd ⊢
  refine (index_any w fb mb base nv xs s h1 hs).mono ?_
  rintro e w' ⟨⟨i, rfl, hi⟩, rfl⟩
  refine ⟨?_, rfl⟩
  rcases hi with ⟨rfl, hi⟩ | ⟨hm, hi⟩
  · rw [idxN_no hi]
  · obtain ⟨j, hj, e⟩ := List.mem_iff_getElem.1 hm
    have hj' : (xs.map Nde.name)[j]? = some s := by rw [List.getElem?_eq_getElem hj, e]
    rw [mapD_at _ s j hj' (nodup_last hnd hj')] at hi
    rw [idxN_at hnd hj', Nat.zero_add]
    cases hi
    rfl
end Go.Proofs.YteoihdkaoipocaaDoor

/- (*fleet.Fleet).Text: the fleet's text. -/
namespace Go.Proofs.YteoihdkaoipocaaDoor
open Go.RowKit Go.Maps Go.Shelf

def joinP (ps : List ByteArray) : List UInt8 := Lib.join (ps.map (·.data.toList)) [32]
/-- a node's line -/
def lineV (v : Ndv) : List UInt8 := v.name.data.toList ++ [32] ++ txtV v.cap ++ [32] ++ joinP v.parts ++ [10]
def textOf (vs : List Ndv) : List UInt8 := vs.flatMap lineV
theorem textOf_step {vs : List Ndv} {k : Nat} {v : Ndv} (h : vs[k]? = some v) : textOf (vs.take (k + 1)) = textOf (vs.take k) ++ lineV v := by
  unfold textOf
  rw [take_step h, List.flatMap_append]
  simp
theorem inter_len (sep : List UInt8) (m : Nat) : ∀ (xs : List (List UInt8)), (∀ x, x ∈ xs → x.length ≤ m) → (sep.intercalate xs).length ≤ xs.length * (m + sep.length)
  | [], _ => by simp [List.intercalate]
  | [x], h => by
    have := h x (by simp)
    simp [List.intercalate]
    omega
  | x :: y :: r, h => by
    have h1 := h x (by simp)
    have h2 := inter_len sep m (y :: r) fun z hz => h z (by simp at hz ⊢; exact .inr hz)
    have e : sep.intercalate (x :: y :: r) = x ++ sep ++ sep.intercalate (y :: r) := by simp [List.intercalate]
    rw [e, List.length_append, List.length_append, List.length_cons, Nat.add_mul]
    omega
theorem joinP_len {v : Ndv} (h : NdvAll v) : (joinP v.parts).length ≤ 136 := by
  have := inter_len [32] 16 (v.parts.map (·.data.toList)) fun x hx => by
    obtain ⟨p, hp, rfl⟩ := List.mem_map.1 hx
    have := isName_le (h.ok.parts p hp)
    rw [toL_len]; exact this
  rw [List.length_map] at this
  have h8 := h.few
  show (List.intercalate [32] _).length ≤ 136
  have : v.parts.length * (16 + [(32 : UInt8)].length) ≤ 8 * 17 := Nat.mul_le_mul h8 (Nat.le_refl _)
  omega
theorem v64_cap {v : V4} (h : CapOk v) : V64 v := by
  obtain ⟨h1, h2, h3, h4, h5, h6, h7, h8⟩ := h
  exact ⟨⟨by omega, by omega⟩, ⟨by omega, by omega⟩, ⟨by omega, by omega⟩, ⟨by omega, by omega⟩⟩
theorem lineV_len {v : Ndv} (h : NdvAll v) : (lineV v).length ≤ 240 := by
  have h1 := isName_le h.ok.name
  have h2 := txtV_len (v64_cap (capOk_right h.ok.cap))
  have h3 := joinP_len h
  have h4 : v.name.data.toList.length = v.name.size := toL_len v.name
  simp only [lineV, List.length_append, List.length_cons, List.length_nil]
  omega
theorem textOf_len {vs : List Ndv} (h : ∀ v, v ∈ vs → NdvAll v) : (textOf vs).length ≤ vs.length * 240 := by
  induction vs with
  | nil => simp [textOf]
  | cons v vs ih =>
    have h1 := lineV_len (h v (by simp))
    have h2 := ih fun v hv => h v (by simp [hv])
    simp only [textOf, List.flatMap_cons, List.length_append, List.length_cons] at h2 ⊢
    rw [Nat.add_mul]
    omega
theorem isb_low {B b : Nat} {bs : List Value} {w w' : World} (h : Lib.IsBuilder 134 5 B b bs w) (hb : Below w.heap.size w w') : Lib.IsBuilder 134 5 B b bs w' := by
  have key : ∀ p, Lib.BuilderAt 134 5 B b p bs w → Lib.BuilderAt 134 5 B b p bs w' := fun p ⟨h1, v, h2, h3, h4⟩ =>
    ⟨h1, v, blk_below hb h2 (blk_lt h2), by
      refine ⟨h3.1, ?_⟩
      rcases h3.2 with h | ⟨g, cap, cur, hv, hg, hh, hr⟩
      · exact .inl h
      · exact .inr ⟨g, cap, cur, hv, hg, blk_below hb hh (blk_lt hh), hr⟩, h4⟩
  rcases h with h | h
  · exact .inl (key _ h)
  · exact .inr (key _ h)
theorem join_call {w : World} {b off pn pc : Nat} {ps : List ByteArray} (h : StrsAt w (some ⟨b, off, none⟩) pn ps) (hle : pn ≤ pc) (hlt : b < w.heap.size) (h8 : pn ≤ 8) (hl : (joinP ps).length ≤ 136) :
    Calls Tryd.prog 77 #[.slice (some ⟨b, off, none⟩) pn pc, .string { data := #[32] }] w fun e w' => e = .returned (.string (ofL (joinP ps))) ∧ Below w.heap.size w w' := by
  have hlen := h.len
  have := Tryd.strings_Join b off pc ps { data := #[32] } w (fun j x hx => by
    obtain ⟨b', off', e, _, hc⟩ := h.cell j x hx
    cases e
    exact hc) hlt (by omega) (by omega) (by show (joinP ps).length ≤ _; omega)
  rw [hlen] at this
  exact this
theorem ofL_self (s : ByteArray) : ofL s.data.toList = s := toL_inj (by rw [ofL_toL])
theorem line_eq (nm : ByteArray) (cp : V4) (ps : List ByteArray) : nm ++ ({ data := #[32] } : ByteArray) ++ ofL (txtV cp) ++ ({ data := #[32] } : ByteArray) ++ ofL (joinP ps) ++ ({ data := #[10] } : ByteArray) = ofL (lineV ⟨nm, cp, ps⟩) := by
  rw [show ({ data := #[32] } : ByteArray) = ofL [32] from rfl, show ({ data := #[10] } : ByteArray) = ofL [10] from rfl]
  conv => lhs; rw [← ofL_self nm]
  rw [ofL_app, ofL_app, ofL_app, ofL_app, ofL_app]
  rfl
structure FtW (w : World) (l : List UInt8) (W : World) : Prop where
  low : Below w.heap.size w W
  b : Lib.IsBuilder 134 5 w.heap.size w.heap.size (Lib.byteCells l) W
set_option maxRecDepth 100000 in
set_option maxHeartbeats 3200000 in
theorem ftext_any {w : World} {fb mb base : Nat} {vs : List Ndv} (hF : Flt w fb mb base vs) (hok : FltOk vs) (ht : Tb w) : Calls Tryd.prog 56 #[.pointer (some ⟨fb, 0, none⟩)] w fun e w' => e = .returned (.string (ofL (textOf vs))) ∧ Below w.heap.size w w' := by
  obtain ⟨n, hn⟩ : ∃ n, n = vs.length := ⟨_, rfl⟩
  have hW0 : FtW w (textOf (vs.take 0)) (w.alloc (.cells #[.pointer none, .slice none 0 0] 134 (0, 0))) :=
    ⟨(Below.refl _ _).alloc (Nat.le_refl _) _, .inl ⟨Nat.le_refl _, _, blk_new _ _, ⟨rfl, .inl ⟨rfl, rfl⟩⟩, by simp [Value.ownBlock]⟩⟩
  have hlc := len_flt (hF.below hW0.low)
  have hn16 : n ≤ 16 := by rw [hn]; exact hok.len
  rw [← hn] at hlc
  replace hF := Lib.hid hF; replace hn := Lib.hid hn; replace hlc := Lib.hid hlc; replace hW0 := Lib.hid hW0; replace hok := Lib.hid hok; replace ht := Lib.hid ht
  go_enter Tryd.func56, Tryd.ntmps56
  go_wp2_with fail
  refine hlc.out.mono ?_
  rintro e w1 ⟨rfl, rfl⟩
  go_wp2
  go_loopw [4, 5, 8] (fun _ _ i wr => ∃ k : Nat, i = .int .i64 k ∧ k ≤ n ∧ Hid (FtW w (textOf (vs.take k)) wr)) (fun _ _ i _ => n - (intOf i).toNat)
  case atStart => exact ⟨0, rfl, Nat.zero_le _, hW0.out⟩
  case round =>
    obtain ⟨k, rfl, hk, hM⟩ := hrel
    by_cases hc : k < n
    · have hc1 : (k : Int) < n := by omega
      have hk0 : (0 : Int) ≤ (k : Int) := by omega
      obtain ⟨v, hv⟩ : ∃ v, vs[k]? = some v := ⟨_, List.getElem?_eq_getElem (by have := hn.out; omega)⟩
      have hva := hok.out.all v (List.mem_of_getElem? hv)
      have hFr := hF.out.below hM.out.low
      obtain ⟨nv, xs, h1, h2, h3⟩ := hFr.ex
      have hnx : n = xs.length := by rw [hn.out, ← h2, List.length_map]
      obtain ⟨x, hx⟩ : ∃ x, xs[k]? = some x := ⟨_, List.getElem?_eq_getElem (by omega)⟩
      obtain ⟨g, cap, rfl⟩ := Joins.ownsRow_form h1.row (by omega)
      obtain ⟨g', e1, _, _, hcell⟩ := h1.cell hx
      have e2 : g = g' := by simpa [Value.ownBlock] using e1
      subst e2
      have hvx : v = x.pl := by
        have := pl_at hx
        rw [h2, hv] at this
        exact Option.some.inj this
      subst hvx
      have hxo := (h1.ok x (List.mem_of_getElem? hx)).1
      obtain ⟨nm, ⟨ca, cb, cc, cd⟩, po, pn, pc, ps⟩ := x
      have hpn : ps.length = pn := hxo.parts.len
      have hone : 1 ≤ ps.length := hva.ok.one
      have hfew : ps.length ≤ 8 := hva.few
      have hple : pn ≤ pc := hxo.ple
      obtain ⟨y0, hy0⟩ := hxo.parts.get (i := 0) (by show 0 < pn; omega)
      obtain ⟨b, off, e, hbl, _⟩ := hxo.parts.cell 0 y0 hy0
      have e' : po = some ⟨b, off, none⟩ := e
      subst e'
      have z0 : wr.cell? ⟨g, k * 6, none⟩ = some (.string nm) := hcell 0 (by omega)
      have z1 : wr.cell? ⟨g, k * 6 + 1, none⟩ = some (.int .i64 ca) := hcell 1 (by omega)
      have z2 : wr.cell? ⟨g, k * 6 + 2, none⟩ = some (.int .i64 cb) := hcell 2 (by omega)
      have z3 : wr.cell? ⟨g, k * 6 + 3, none⟩ = some (.int .i64 cc) := hcell 3 (by omega)
      have z4 : wr.cell? ⟨g, k * 6 + 4, none⟩ = some (.int .i64 cd) := hcell 4 (by omega)
      have z5 : wr.cell? ⟨g, k * 6 + 5, none⟩ = some (.slice (some ⟨b, off, none⟩) pn pc) := hcell 5 (by omega)
      have f0 : wr.cell? ⟨fb, 0, none⟩ = some (.slice (some ⟨g, 0, none⟩) n cap) := by rw [hnx]; exact blk_cell h1.head 0
      obtain ⟨W3, hW3⟩ : ∃ W3, W3 = wr.alloc (.cells (⟨nm, ⟨ca, cb, cc, cd⟩, some ⟨b, off, none⟩, pn, pc, ps⟩ : Nde).cells 48 (0, 0)) := ⟨_, rfl⟩
      have hlow3 : Below wr.heap.size wr W3 := by rw [hW3]; exact (Below.refl _ _).alloc (Nat.le_refl _) _
      have hx3 : W3.heap[wr.heap.size]? = some (.cells (⟨nm, ⟨ca, cb, cc, cd⟩, some ⟨b, off, none⟩, pn, pc, ps⟩ : Nde).cells 48 (0, 0)) := by rw [hW3]; exact blk_new _ _
      have hwl : w.heap.size < wr.heap.size := by
        rcases hM.out.b with ⟨_, _, h, _⟩ | ⟨_, _, h, _⟩ <;> exact blk_lt h
      have hv64 : V64 ⟨ca, cb, cc, cd⟩ := v64_cap (capOk_right hva.ok.cap)
      have htl := txtV_len hv64
      have hjl : (joinP ps).length ≤ 136 := joinP_len hva
      have hnl : nm.size ≤ 16 := isName_le hva.ok.name
      obtain ⟨A, hA⟩ : ∃ A, A = ofL (txtV ⟨ca, cb, cc, cd⟩) := ⟨_, rfl⟩
      obtain ⟨J, hJ⟩ : ∃ J, J = ofL (joinP ps) := ⟨_, rfl⟩
      have hAs : A.size ≤ 83 := by rw [hA, ofL_size]; exact htl
      have hJs : J.size ≤ 136 := by rw [hJ, ofL_size]; exact hjl
      have q1 : ¬ 9223372036854775807 < nm.size + 1 := by omega
      have q2 : ¬ 9223372036854775807 < nm.size + 1 + A.size := by omega
      have q3 : ¬ 9223372036854775807 < nm.size + 1 + A.size + 1 := by omega
      have q4 : ¬ 9223372036854775807 < nm.size + 1 + A.size + 1 + J.size := by omega
      have q5 : ¬ 9223372036854775807 < nm.size + 1 + A.size + 1 + J.size + 1 := by omega
      have hS : ∀ W' : World, W'.heap[wr.heap.size]? = some (.cells (⟨nm, ⟨ca, cb, cc, cd⟩, some ⟨b, off, none⟩, pn, pc, ps⟩ : Nde).cells 48 (0, 0)) → W'.cell? ⟨wr.heap.size, 0, none⟩ = some (.string nm) ∧ W'.cell? ⟨wr.heap.size, 1, none⟩ = some (.int .i64 ca) ∧ W'.cell? ⟨wr.heap.size, 2, none⟩ = some (.int .i64 cb) ∧ W'.cell? ⟨wr.heap.size, 3, none⟩ = some (.int .i64 cc) ∧ W'.cell? ⟨wr.heap.size, 4, none⟩ = some (.int .i64 cd) ∧ W'.cell? ⟨wr.heap.size, 5, none⟩ = some (.slice (some ⟨b, off, none⟩) pn pc) := fun W' h =>
        ⟨blk_cell h 0, blk_cell h 1, blk_cell h 2, blk_cell h 3, blk_cell h 4, blk_cell h 5⟩
      have hst : textOf (vs.take (k + 1)) = textOf (vs.take k) ++ lineV _ := textOf_step hv
      have hT : (textOf (vs.take k)).length ≤ 16 * 240 := by
        refine Nat.le_trans (textOf_len fun v hv => hok.out.all v (List.mem_of_mem_take hv)) ?_
        rw [List.length_take]
        exact Nat.mul_le_mul (by have := hn.out; omega) (Nat.le_refl _)
      have hc75 : ∀ W, Tb W → Calls Tryd.prog 75 #[.agg #[.int .i64 ca, .int .i64 cb, .int .i64 cc, .int .i64 cd]] W fun e w' => e = .returned (.string A) ∧ Below W.heap.size W w' := fun W ht => by rw [hA]; exact vtext_any ⟨ca, cb, cc, cd⟩ hv64 W ht
      have hc77 : ∀ W, StrsAt W (some ⟨b, off, none⟩) pn ps → b < W.heap.size → Calls Tryd.prog 77 #[.slice (some ⟨b, off, none⟩) pn pc, .string { data := #[32] }] W fun e w' => e = .returned (.string J) ∧ Below W.heap.size W w' := fun W hp hb => by rw [hJ]; exact join_call hp hple hb (by omega) hjl
      have hSeq : nm ++ ({ data := #[32] } : ByteArray) ++ A ++ ({ data := #[32] } : ByteArray) ++ J ++ ({ data := #[10] } : ByteArray) = ofL (lineV ⟨nm, ⟨ca, cb, cc, cd⟩, ps⟩) := by rw [hA, hJ]; exact line_eq nm _ ps
      have hll := lineV_len hva
      have hc98 : ∀ W, Lib.IsBuilder 134 5 w.heap.size w.heap.size (Lib.byteCells (textOf (vs.take k))) W → w.heap.size ≤ W.heap.size → Calls Tryd.prog 98 #[.pointer (some ⟨w.heap.size, 0, none⟩), .string (nm ++ ({ data := #[32] } : ByteArray) ++ A ++ ({ data := #[32] } : ByteArray) ++ J ++ ({ data := #[10] } : ByteArray))] W fun e w' => (∃ m, e = .returned (.tuple #[.int .i64 m, .nilIface])) ∧ Lib.IsBuilder 134 5 w.heap.size w.heap.size (Lib.byteCells (textOf (vs.take (k + 1)))) w' ∧ Below w.heap.size W w' ∧ Lib.OthersKept 5 (some w.heap.size) W w' := fun W hb hs => by
        rw [hSeq]
        have hsz : (ofL (lineV ⟨nm, ⟨ca, cb, cc, cd⟩, ps⟩)).size ≤ 240 := by rw [ofL_size]; exact hll
        refine (bwrite_any w.heap.size w.heap.size _ (ofL (lineV ⟨nm, ⟨ca, cb, cc, cd⟩, ps⟩)) W hb (by rw [Lib.byteCells_length]; omega) hs).mono ?_
        rintro e w' ⟨rfl, ⟨h1, h2⟩, h3⟩
        refine ⟨⟨_, rfl⟩, .inr ?_, h2, h3⟩
        rw [hst, byteCells_app]
        have e : Lib.strCells (ofL (lineV ⟨nm, ⟨ca, cb, cc, cd⟩, ps⟩)) = Lib.byteCells (lineV ⟨nm, ⟨ca, cb, cc, cd⟩, ps⟩) := by
          unfold Lib.strCells Lib.byteCells
          rw [ofL_toL]
        rw [e] at h1
        exact h1
      have hcur : Below W3.heap.size W3 W3.drew := (Below.refl _ _).drew
      have hB := isb_low hM.out.b (hlow3.trans (hcur.mono hlow3.size))
      have hX : W3.drew.heap[wr.heap.size]? = some (.cells (⟨nm, ⟨ca, cb, cc, cd⟩, some ⟨b, off, none⟩, pn, pc, ps⟩ : Nde).cells 48 (0, 0)) := hx3
      have hP := ((hxo.low hlow3).low hcur).parts
      have hTb := ((ht.out.low hM.out.low).low hlow3).low hcur
      have hbl3 : b < W3.drew.heap.size := Nat.lt_of_lt_of_le hbl (Nat.le_trans hlow3.size hcur.size)
      have hlw := hM.out.low.trans ((hlow3.trans (hcur.mono hlow3.size)).mono hM.out.low.size)
      obtain ⟨c0, c1, c2, c3, c4, c5⟩ := hS W3 hx3
      replace hv := Lib.hid hv; replace hva := Lib.hid hva; replace hFr := Lib.hid hFr; replace h1 := Lib.hid h1; replace h2 := Lib.hid h2; replace h3 := Lib.hid h3; replace hnx := Lib.hid hnx; replace hx := Lib.hid hx; replace hcell := Lib.hid hcell; replace hxo := Lib.hid hxo; replace hpn := Lib.hid hpn; replace hone := Lib.hid hone; replace hfew := Lib.hid hfew; replace hy0 := Lib.hid hy0; replace hlow3 := Lib.hid hlow3; replace hx3 := Lib.hid hx3; replace hv64 := Lib.hid hv64; replace htl := Lib.hid htl; replace hjl := Lib.hid hjl; replace hA := Lib.hid hA; replace hJ := Lib.hid hJ; replace hS := Lib.hid hS; replace hst := Lib.hid hst; replace hT := Lib.hid hT; replace hcur := Lib.hid hcur; replace hB := Lib.hid hB; replace hX := Lib.hid hX; replace hP := Lib.hid hP; replace hTb := Lib.hid hTb; replace hlw := Lib.hid hlw; replace e1 := Lib.hid e1; replace hc75 := Lib.hid hc75; replace hc77 := Lib.hid hc77; replace hc98 := Lib.hid hc98; replace hSeq := Lib.hid hSeq; replace hll := Lib.hid hll; replace hbl3 := Lib.hid hbl3
      have hW3' := Lib.hid hW3
      clear hW3
      go_upto_region 6 with fail
      rw [← hW3'.out]
      clear z0 z1 z2 z3 z4 z5 f0
      go_region_held3 (fun W' => W'.cell? ⟨wr.heap.size, 0, none⟩ = some (.string nm) ∧ W'.cell? ⟨wr.heap.size, 1, none⟩ = some (.int .i64 ca) ∧ W'.cell? ⟨wr.heap.size, 2, none⟩ = some (.int .i64 cb) ∧ W'.cell? ⟨wr.heap.size, 3, none⟩ = some (.int .i64 cc) ∧ W'.cell? ⟨wr.heap.size, 4, none⟩ = some (.int .i64 cd) ∧ W'.cell? ⟨wr.heap.size, 5, none⟩ = some (.slice (some ⟨b, off, none⟩) pn pc))
        (first
          | with_reducible exact hS.out _ hX.out)
        (first
          | (go_at_call 75
             (with_reducible refine (hc75.out _ hTb.out).mono ?_)
             rintro e wz ⟨rfl, hbz⟩
             replace hX := Lib.hid (blk_below hbz hX.out (blk_lt hX.out))
             replace hB := Lib.hid (isb_low hB.out hbz)
             replace hP := Lib.hid (hP.out.low hbz)
             replace hTb := Lib.hid (hTb.out.low hbz)
             replace hbl3 := Lib.hid (Nat.lt_of_lt_of_le hbl3.out hbz.size)
             replace hlw := Lib.hid (hlw.out.trans (hbz.mono hlw.out.size))
             replace hbz := Lib.hid hbz)
          | (go_at_call 77
             (with_reducible refine (hc77.out _ hP.out hbl3.out).mono ?_)
             rintro e wz ⟨rfl, hbz⟩
             replace hX := Lib.hid (blk_below hbz hX.out (blk_lt hX.out))
             replace hB := Lib.hid (isb_low hB.out hbz)
             replace hP := Lib.hid (hP.out.low hbz)
             replace hTb := Lib.hid (hTb.out.low hbz)
             replace hbl3 := Lib.hid (Nat.lt_of_lt_of_le hbl3.out hbz.size)
             replace hlw := Lib.hid (hlw.out.trans (hbz.mono hlw.out.size))
             replace hbz := Lib.hid hbz)
          | (go_at_call 98
             (with_reducible refine (hc98.out _ hB.out hlw.out.size).mono ?_)
             rintro e wz ⟨⟨m98, rfl⟩, hB', hbz, hoth⟩
             replace hX := Lib.hid (hoth _ _ hX.out (fun e => by injection e with e; omega) (fun c fr e => by injection e with _ e; exact absurd e (by decide)))
             replace hB := Lib.hid hB'
             replace hlw := Lib.hid (hlw.out.trans hbz)
             clear hB'
             replace hbz := Lib.hid hbz
             replace hoth := Lib.hid hoth))
      all_goals
        have hC : FtW w (textOf (vs.take (k + 1))) wz := ⟨hlw.out, hB.out⟩
        replace hC := Lib.hid hC
        go_wp2
        go_roundw
        case rel => exact ⟨k + 1, by go_num, by omega, hC.out⟩
        case measure => simp [intOf]; omega
    · have hc1 : ¬ (k : Int) < n := by omega
      have hkn : vs.take k = vs := List.take_of_length_le (by have := hn.out; omega)
      have hb := hM.out.b
      rw [hkn] at hb
      have hlow := hM.out.low
      have hcl := Tryd.Builder_String_any w.heap.size w.heap.size (textOf vs) wr hb hlow.size
      replace hkn := Lib.hid hkn; replace hb := Lib.hid hb; replace hlow := Lib.hid hlow; replace hcl := Lib.hid hcl
      go_wp2_with fail
      refine hcl.out.mono ?_
      rintro e w2 ⟨rfl, hb2⟩
      replace hb2 := Lib.hid hb2
      go_wp2
      go_ret
      exact ⟨rfl, hlow.out.trans hb2.out⟩
end Go.Proofs.YteoihdkaoipocaaDoor

/- The parts of a fleet, plain: sorted and each once, whichever way. -/
namespace Go.Proofs.YteoihdkaoipocaaDoor
open Go.RowKit

abbrev Tx := List UInt8
theorem tx_irr (a : Tx) : ¬ a < a := List.lt_irrefl a
theorem tx_trans {a b c : Tx} (h1 : a < b) (h2 : b < c) : a < c := List.lt_trans h1 h2
theorem tx_not {a b : Tx} (h : ¬ a < b) (hne : a ≠ b) : b < a := by
  by_cases h2 : b < a
  · exact h2
  · exact absurd (List.le_antisymm (List.not_lt.1 h2) (List.not_lt.1 h)) hne
theorem tx_le {a b : Tx} (h : a ≤ b) (hne : a ≠ b) : a < b := tx_not (List.not_lt.2 h) hne.symm
theorem tx_le_trans {a b c : Tx} (h1 : a ≤ b) (h2 : b ≤ c) : a ≤ c := List.le_trans h1 h2
theorem strict_ext : ∀ (l m : List Tx), l.Pairwise (· < ·) → m.Pairwise (· < ·) → (∀ x, x ∈ l ↔ x ∈ m) → l = m
  | [], [], _, _, _ => rfl
  | [], b :: m, _, _, h => absurd ((h b).2 (by simp)) (by simp)
  | a :: l, [], _, _, h => absurd ((h a).1 (by simp)) (by simp)
  | a :: l, b :: m, h1, h2, h => by
    obtain ⟨p1, p2⟩ := List.pairwise_cons.1 h1
    obtain ⟨q1, q2⟩ := List.pairwise_cons.1 h2
    have e : a = b := by
      rcases List.mem_cons.1 ((h a).1 (by simp)) with e | e
      · exact e
      · rcases List.mem_cons.1 ((h b).2 (by simp)) with e' | e'
        · exact e'.symm
        · exact absurd (tx_trans (q1 a e) (p1 b e')) (tx_irr b)
    subst e
    rw [strict_ext l m p2 q2 fun x => ⟨fun hx => ?_, fun hx => ?_⟩]
    · rcases List.mem_cons.1 ((h x).1 (List.mem_cons_of_mem _ hx)) with e | e
      · subst e; exact absurd (p1 x hx) (tx_irr x)
      · exact e
    · rcases List.mem_cons.1 ((h x).2 (List.mem_cons_of_mem _ hx)) with e | e
      · subst e; exact absurd (q1 x hx) (tx_irr x)
      · exact e
theorem comp_upTo (d : Array Tx) (hs : ∀ i j, i < j → j < d.size → d[i]! ≤ d[j]!) : ∀ m, m ≤ d.size → (Lib.compactUpTo d m).Pairwise (· < ·) ∧ ∀ x, x ∈ Lib.compactUpTo d m ↔ ∃ j, j < m ∧ d[j]! = x := by
  intro m
  induction m with
  | zero => intro _; simp [Lib.compactUpTo]
  | succ m ih =>
    intro hm
    obtain ⟨h1, h2⟩ := ih (by omega)
    rw [Lib.compactUpTo_succ]
    by_cases h0 : m = 0
    · subst h0
      have hk : Lib.keeps d 0 = true := Lib.keeps_lt_one d 0 (by omega)
      rw [hk]
      refine ⟨by simp [Lib.compactUpTo], fun x => ?_⟩
      simp [Lib.compactUpTo]
      exact ⟨fun h => h.symm, fun h => h.symm⟩
    · by_cases he : d[m]! = d[m - 1]!
      · rw [Lib.keeps_neg (by omega) he]
        simp only [Bool.false_eq_true, if_false, List.append_nil]
        refine ⟨h1, fun x => ?_⟩
        rw [h2]
        constructor
        · rintro ⟨j, hj, e⟩; exact ⟨j, by omega, e⟩
        · rintro ⟨j, hj, e⟩
          by_cases c : j = m
          · subst c; exact ⟨j - 1, by omega, by rw [← he]; exact e⟩
          · exact ⟨j, by omega, e⟩
      · rw [Lib.keeps_pos he]
        simp only [if_true]
        refine ⟨?_, fun x => ?_⟩
        · rw [List.pairwise_append]
          refine ⟨h1, by simp, fun a ha b hb => ?_⟩
          have hb' : b = d[m]! := by simpa using hb
          subst hb'
          obtain ⟨j, hj, rfl⟩ := (h2 a).1 ha
          have hl : d[m - 1]! < d[m]! := tx_le (hs (m - 1) m (by omega) (by omega)) (fun e => he e.symm)
          by_cases c : j = m - 1
          · rw [c]; exact hl
          · have := hs j (m - 1) (by omega) (by omega)
            by_cases c2 : d[j]! = d[m - 1]!
            · rw [c2]; exact hl
            · exact tx_trans (tx_le this c2) hl
        · rw [List.mem_append, h2]
          constructor
          · rintro (⟨j, hj, e⟩ | h)
            · exact ⟨j, by omega, e⟩
            · exact ⟨m, by omega, by simpa using (List.mem_singleton.1 h).symm⟩
          · rintro ⟨j, hj, e⟩
            by_cases c : j = m
            · subst c; exact .inr (by simp [e])
            · exact .inl ⟨j, by omega, e⟩
theorem partsOf_strict (vs : List Ndv) : (partsOf vs).Pairwise (· < ·) ∧ ∀ x, x ∈ partsOf vs ↔ x ∈ (rawParts vs).map (·.data.toList) := by
  unfold partsOf
  obtain ⟨Z, hZ⟩ : ∃ Z, Z = (rawParts vs).map (·.data.toList) := ⟨_, rfl⟩
  rw [← hZ]
  have hp : (Z.mergeSort fun x y => decide (x ≤ y)).Pairwise fun x y => decide (x ≤ y) = true :=
    List.pairwise_mergeSort (le := fun x y => decide (x ≤ y)) (fun a b c h1 h2 => decide_eq_true (tx_le_trans (of_decide_eq_true h1) (of_decide_eq_true h2))) (fun a b => by
      rcases List.le_total a b with h | h
      · rw [decide_eq_true h]; rfl
      · rw [decide_eq_true (p := b ≤ a) h]; simp) Z
  have hmem : ∀ x, x ∈ (Z.mergeSort fun x y => decide (x ≤ y)) ↔ x ∈ Z := fun x => List.mem_mergeSort
  obtain ⟨Y, hY⟩ : ∃ Y, Y = Z.mergeSort fun x y => decide (x ≤ y) := ⟨_, rfl⟩
  rw [← hY] at hp hmem ⊢
  have hs : ∀ i j, i < j → j < Y.toArray.size → Y.toArray[i]! ≤ Y.toArray[j]! := fun i j hij hj => by
    have hj' : j < Y.length := by simpa using hj
    have := List.pairwise_iff_getElem.1 hp i j (by omega) hj' hij
    rw [getElem!_pos Y.toArray i (by simp; omega), getElem!_pos Y.toArray j hj]
    simpa using this
  have h := comp_upTo Y.toArray hs Y.length (by simp)
  refine ⟨h.1, fun x => ?_⟩
  show x ∈ Lib.compactUpTo Y.toArray Y.length ↔ _
  rw [h.2, ← hmem]
  constructor
  · rintro ⟨j, hj, e⟩
    rw [getElem!_pos Y.toArray j (by simpa using hj)] at e
    rw [← e]
    simp
  · intro hx
    obtain ⟨j, hj, e⟩ := List.mem_iff_getElem.1 hx
    exact ⟨j, hj, by rw [getElem!_pos Y.toArray j (by simpa using hj)]; simpa using e⟩

/-- the document's way: each is put at its place -/
def ltB (a b : ByteArray) : Bool := decide (a.data.toList < b.data.toList)
def cntB (out : List ByteArray) (p : ByteArray) : Nat := (out.takeWhile fun x => ltB x p).length
def insB (out : List ByteArray) (p : ByteArray) : List ByteArray := if memB out p = true then out else out.take (cntB out p) ++ (p :: out.drop (cntB out p))
def StrictB (out : List ByteArray) : Prop := (out.map (·.data.toList)).Pairwise (· < ·)
theorem cntB_le (out : List ByteArray) (p : ByteArray) : cntB out p ≤ out.length := (List.takeWhile_prefix _).length_le
theorem cntB_lt {out : List ByteArray} {p : ByteArray} {j : Nat} {x : ByteArray} (hj : j < cntB out p) (hx : out[j]? = some x) : ltB x p = true := by
  induction out generalizing j with
  | nil => simp at hx
  | cons y out ih =>
    unfold cntB at hj
    rw [List.takeWhile_cons] at hj
    by_cases c : ltB y p = true
    · rw [if_pos c] at hj
      cases j with
      | zero => have : y = x := by simpa using hx
                rw [← this]; exact c
      | succ j => exact ih (j := j) (by simpa [cntB] using hj) (by simpa using hx)
    · rw [if_neg c] at hj; simp at hj
theorem cntB_at {out : List ByteArray} {p x : ByteArray} (hx : out[cntB out p]? = some x) : ltB x p = false := by
  induction out with
  | nil => simp at hx
  | cons y out ih =>
    unfold cntB at hx
    rw [List.takeWhile_cons] at hx
    by_cases c : ltB y p = true
    · rw [if_pos c] at hx
      exact ih (by simpa [cntB] using hx)
    · rw [if_neg c] at hx
      have : y = x := by simpa using hx
      rw [← this]; simpa using c
theorem cntB_eq {out : List ByteArray} {p : ByteArray} {n : Nat} (hn : n ≤ out.length) (h1 : ∀ j x, j < n → out[j]? = some x → ltB x p = true) (h2 : ∀ x, out[n]? = some x → ltB x p = false) : cntB out p = n := by
  rcases Nat.lt_trichotomy (cntB out p) n with h | h | h
  · obtain ⟨x, hx⟩ : ∃ x, out[cntB out p]? = some x := ⟨_, List.getElem?_eq_getElem (by omega)⟩
    have := h1 _ x h hx
    rw [cntB_at hx] at this
    cases this
  · exact h
  · obtain ⟨x, hx⟩ : ∃ x, out[n]? = some x := ⟨_, List.getElem?_eq_getElem (by have := cntB_le out p; omega)⟩
    have := h2 x hx
    rw [cntB_lt h hx] at this
    cases this
theorem insB_mem (out : List ByteArray) (p x : ByteArray) : x ∈ insB out p ↔ x ∈ out ∨ x = p := by
  unfold insB
  split
  · next h =>
    have := memB_iff.1 h
    exact ⟨fun h => .inl h, fun h => by rcases h with h | h; exact h; rw [h]; exact this⟩
  · rw [List.mem_append, List.mem_cons]
    have e := List.take_append_drop (cntB out p) out
    constructor
    · rintro (h | rfl | h)
      · exact .inl (List.mem_of_mem_take h)
      · exact .inr rfl
      · exact .inl (List.mem_of_mem_drop h)
    · rintro (h | rfl)
      · rw [← e] at h
        rcases List.mem_append.1 h with h | h
        · exact .inl h
        · exact .inr (.inr h)
      · exact .inr (.inl rfl)
theorem insB_strict {out : List ByteArray} (h : StrictB out) (p : ByteArray) : StrictB (insB out p) := by
  unfold insB
  split
  · exact h
  · next hm =>
    have hne : ∀ x, x ∈ out → x.data.toList ≠ p.data.toList := fun x hx e => hm (memB_iff.2 (by rw [← toL_inj e]; exact hx))
    unfold StrictB at h ⊢
    have e := List.take_append_drop (cntB out p) out
    rw [← e, List.map_append, List.pairwise_append] at h
    obtain ⟨h1, h2, h3⟩ := h
    rw [List.map_append, List.map_cons, List.pairwise_append]
    have hlo : ∀ a, a ∈ (out.take (cntB out p)).map (·.data.toList) → a < p.data.toList := fun a ha => by
      obtain ⟨x, hx, rfl⟩ := List.mem_map.1 ha
      obtain ⟨j, hj, e⟩ := List.mem_iff_getElem.1 hx
      rw [List.length_take] at hj
      have hj2 : out[j]? = some x := by rw [← e, List.getElem_take, List.getElem?_eq_getElem (by omega)]
      exact of_decide_eq_true (cntB_lt (p := p) (j := j) (by omega) hj2)
    have hhi : ∀ b, b ∈ (out.drop (cntB out p)).map (·.data.toList) → p.data.toList < b := fun b hb => by
      cases hd : out.drop (cntB out p) with
      | nil => rw [hd] at hb; simp at hb
      | cons y r =>
        have hy : out[cntB out p]? = some y := by
          have : (out.drop (cntB out p))[0]? = some y := by rw [hd]; rfl
          rwa [List.getElem?_drop, Nat.add_zero] at this
        have hy2 : p.data.toList < y.data.toList := tx_not (of_decide_eq_false (cntB_at hy)) (hne y (List.mem_of_getElem? hy))
        rw [hd] at hb h2
        rw [List.map_cons] at hb h2
        rcases List.mem_cons.1 hb with rfl | hb
        · exact hy2
        · exact tx_trans hy2 ((List.pairwise_cons.1 h2).1 b hb)
    refine ⟨h1, List.pairwise_cons.2 ⟨hhi, h2⟩, fun a ha b hb => ?_⟩
    rcases List.mem_cons.1 hb with rfl | hb
    · exact hlo a ha
    · exact tx_trans (hlo a ha) (hhi b hb)
def refParts (l : List ByteArray) : List ByteArray := l.foldl insB []
theorem refParts_snoc (l : List ByteArray) (p : ByteArray) : refParts (l ++ [p]) = insB (refParts l) p := by unfold refParts; rw [List.foldl_append]; rfl
theorem refParts_ok (l : List ByteArray) : StrictB (refParts l) ∧ ∀ x, x ∈ refParts l ↔ x ∈ l := by
  induction l using rev_ind with
  | h0 => exact ⟨List.Pairwise.nil, fun x => Iff.rfl⟩
  | h1 l x ih =>
    rw [refParts_snoc]
    refine ⟨insB_strict ih.1 x, fun y => ?_⟩
    rw [insB_mem, ih.2]
    simp
theorem refParts_eq (vs : List Ndv) : refParts (rawParts vs) = (partsOf vs).map ofL := by
  obtain ⟨h1, h2⟩ := refParts_ok (rawParts vs)
  obtain ⟨h3, h4⟩ := partsOf_strict vs
  have e := strict_ext _ _ h1 h3 fun x => by
    rw [h4]
    simp only [List.mem_map]
    constructor
    · rintro ⟨y, hy, rfl⟩; exact ⟨y, (h2 y).1 hy, rfl⟩
    · rintro ⟨y, hy, rfl⟩; exact ⟨y, (h2 y).2 hy, rfl⟩
  rw [← e, List.map_map]
  have : (ofL ∘ fun (x : ByteArray) => x.data.toList) = id := by
    funext x
    show ofL x.data.toList = x
    exact toL_inj (by rw [ofL_toL])
  rw [this, List.map_id]
end Go.Proofs.YteoihdkaoipocaaDoor

/- corveeref05.has, Twice, Texts; corveeref01.Same. -/
namespace Go.Proofs.YteoihdkaoipocaaDoor
open Go.RowKit Go.Maps Go.Shelf

theorem str_eq {p q : ByteArray} (h : p = q) : (p.toList == q.toList) = true := by rw [h]; simp
theorem str_ne {p q : ByteArray} (h : p ≠ q) : (p.toList == q.toList) = false := by
  simp only [beq_eq_false_iff_ne]
  intro e
  rw [Lib.toList_data, Lib.toList_data] at e
  exact h (toL_inj e)
theorem str_eqn {p q : ByteArray} (h : p = q) : (p.toList != q.toList) = false := by simp [bne, str_eq h]
theorem str_nen {p q : ByteArray} (h : p ≠ q) : (p.toList != q.toList) = true := by simp [bne, str_ne h]

set_option maxRecDepth 100000 in
set_option maxHeartbeats 800000 in
theorem has_any (so : Option Addr) (n c : Nat) (xs : List ByteArray) (x : ByteArray) (w : World) (h : StrsAt w so n xs) : Calls Tryd.prog 123 #[.slice so n c, .string x] w fun e w' => e = .returned (.bool (memB xs x)) ∧ w' = w := by
  have hlen := h.len
  have hmax := h.max
  replace h := Lib.hid h; replace hlen := Lib.hid hlen
  go_enter Tryd.func123, Tryd.ntmps123
  go_wp2
  go_loopw [5] (fun i wr => ∃ k : Nat, i = .int .i64 k ∧ k ≤ n ∧ Hid (∀ j, j < k → xs[j]? ≠ some x) ∧ wr = w) (fun i _ => n - (intOf i).toNat)
  case atStart => exact ⟨0, rfl, Nat.zero_le _, (fun j h => by omega), rfl⟩
  case round =>
    obtain ⟨k, rfl, hk, hall, rfl⟩ := hrel
    by_cases hc : k < n
    · have hc1 : (k : Int) < n := by omega
      have hk0 : (0 : Int) ≤ (k : Int) := by omega
      obtain ⟨y, hy⟩ := h.out.get hc
      obtain ⟨b, off, rfl, hb, a0⟩ := h.out.cell k y hy
      by_cases q : y = x
      · have d := str_eq q
        have hm : memB xs x = true := memB_iff.2 (by rw [← q]; exact List.mem_of_getElem? hy)
        replace hy := Lib.hid hy; replace q := Lib.hid q; replace hm := Lib.hid hm
        go_wp2
        go_ret
        exact ⟨by rw [hm.out]; rfl, rfl⟩
      · have d := str_ne q
        have hn : ∀ j, j < k + 1 → xs[j]? ≠ some x := fun j hj e => by
          by_cases c : j = k
          · subst c; rw [hy] at e; exact q (Option.some.inj e)
          · exact hall.out j (by omega) e
        replace hy := Lib.hid hy; replace q := Lib.hid q; replace hn := Lib.hid hn
        go_wp2
        go_roundw
        case rel => exact ⟨k + 1, by go_num, by omega, hn.out, trivial⟩
        case measure => simp [intOf]; omega
    · have hc1 : ¬ (k : Int) < n := by omega
      have hm : memB xs x = false := by
        rw [Bool.eq_false_iff]
        intro c
        obtain ⟨j, hj, e⟩ := List.mem_iff_getElem.1 (memB_iff.1 c)
        have hl := hlen.out
        exact hall.out j (by omega) (by rw [List.getElem?_eq_getElem hj, e])
      replace hm := Lib.hid hm
      go_wp2
      go_ret
      exact ⟨by rw [hm.out]; rfl, rfl⟩

def TwicePost (xs : List ByteArray) (w : World) (e : Ending) (w' : World) : Prop := e = .returned (.bool (twiceL xs)) ∧ Below w.heap.size w w'
set_option maxRecDepth 100000 in
set_option maxHeartbeats 1600000 in
theorem twice_any (so : Option Addr) (n c : Nat) (xs : List ByteArray) (w : World) (h : StrsAt w so n xs) : Calls Tryd.prog 36 #[.slice so n c] w (TwicePost xs w) := by
  have hlen := h.len
  have hmax := h.max
  replace h := Lib.hid h; replace hlen := Lib.hid hlen
  go_enter Tryd.func36, Tryd.ntmps36
  go_wp2
  go_loopw [3] (fun i wr => ∃ k : Nat, i = .int .i64 k ∧ k ≤ n ∧ Hid (¬ DupTo xs k) ∧ Hid (Below w.heap.size w wr)) (fun i _ => n - (intOf i).toNat)
  case atStart => exact ⟨0, rfl, Nat.zero_le _, (fun ⟨i, j, s, h1, h2, _⟩ => absurd h2 (Nat.not_lt_zero _)), Below.refl _ _⟩
  case round =>
    obtain ⟨k, rfl, hk, hD, hB⟩ := hrel
    by_cases hc : k < n
    · have hc1 : (k : Int) < n := by omega
      have hk0 : (0 : Int) ≤ (k : Int) := by omega
      obtain ⟨y, hy⟩ := h.out.get hc
      obtain ⟨b, off, rfl, hb, a0⟩ := h.out.cell k y hy
      replace hy := Lib.hid hy
      go_wp2
      go_loopw [4] (fun i wq => ∃ j : Nat, i = .int .i64 j ∧ j ≤ k ∧ Hid (∀ j', j' < j → xs[j']? ≠ some y) ∧ Hid (Below w.heap.size w wq)) (fun i _ => k - (intOf i).toNat)
      case atStart => exact ⟨0, rfl, Nat.zero_le _, (fun j' h => absurd h (Nat.not_lt_zero _)), hB.out⟩
      case round =>
        obtain ⟨j, rfl, hj, hN, hB2⟩ := hrel
        by_cases hj1 : j < k
        · have hc2 : (j : Int) < k := by omega
          have hj0 : (0 : Int) ≤ (j : Int) := by omega
          obtain ⟨z, hz⟩ := h.out.get (i := j) (by omega)
          obtain ⟨b2, off2, e2, hb2, c0⟩ := h.out.cell j z hz
          cases e2
          have q0 := (below_cell hB2.out hb).trans a0
          have q1 := (below_cell hB2.out hb).trans c0
          have hBd : Below w.heap.size w wr.drew := hB2.out.drew
          clear c0
          by_cases q : y = z
          · have d := str_eq q
            have ht : twiceL xs = true := by rw [twiceL_iff]; exact ⟨k, j, y, hj1, by rw [hlen.out]; exact hc, hy.out, by rw [q]; exact hz⟩
            replace hz := Lib.hid hz; replace q := Lib.hid q; replace ht := Lib.hid ht; replace hBd := Lib.hid hBd
            go_wp2
            go_quiet (fail)
            go_wp2
            go_ret
            exact ⟨by rw [ht.out]; rfl, ⟨hB2.out.os, hB2.out.tape, hB2.out.output, hB2.out.size, hB2.out.block⟩⟩
          · have d := str_ne q
            have hN2 : ∀ j', j' < j + 1 → xs[j']? ≠ some y := fun j' h e => by
              by_cases c : j' = j
              · subst c; rw [hz] at e; exact q (Option.some.inj e).symm
              · exact hN.out j' (by omega) e
            replace hz := Lib.hid hz; replace q := Lib.hid q; replace hN2 := Lib.hid hN2; replace hBd := Lib.hid hBd
            go_wp2
            go_quiet (fail)
            go_wp2
            go_roundw
            case rel => exact ⟨j + 1, by go_num, by omega, hN2.out, ⟨hB2.out.os, hB2.out.tape, hB2.out.output, hB2.out.size, hB2.out.block⟩⟩
            case measure => simp [intOf]; omega
        · have hc2 : ¬ (j : Int) < k := by omega
          have hD2 : ¬ DupTo xs (k + 1) := fun ⟨i, j', s, h1, h2, h3, h4⟩ => by
            by_cases c : i = k
            · subst c
              rw [hy.out] at h3
              exact hN.out j' (by omega) (by rw [h4, ← h3])
            · exact hD.out ⟨i, j', s, h1, by omega, h3, h4⟩
          replace hD2 := Lib.hid hD2
          go_wp2
          go_roundw
          case rel => exact ⟨k + 1, by go_num, by omega, hD2.out, hB2.out⟩
          case measure => simp [intOf]; omega
    · have hc1 : ¬ (k : Int) < n := by omega
      have ht : twiceL xs = false := by
        rw [Bool.eq_false_iff]
        intro c
        have hl := hlen.out
        have hkn : k = n := by omega
        exact hD.out (by rw [hkn, ← hl]; exact (twiceL_iff xs).1 c)
      replace ht := Lib.hid ht
      go_wp2
      go_ret
      exact ⟨by rw [ht.out]; rfl, hB.out⟩

def TextsPost (xs ys : List ByteArray) (w : World) (e : Ending) (w' : World) : Prop := e = .returned (.bool (decide (xs = ys))) ∧ Below w.heap.size w w'
set_option maxRecDepth 100000 in
set_option maxHeartbeats 1600000 in
theorem texts_any (ao bo : Option Addr) (n m c c' : Nat) (xs ys : List ByteArray) (w : World) (hx : StrsAt w ao n xs) (hy : StrsAt w bo m ys) : Calls Tryd.prog 61 #[.slice ao n c, .slice bo m c'] w (TextsPost xs ys w) := by
  have hlx := hx.len
  have hly := hy.len
  have hmx := hx.max
  by_cases q : n = m
  rotate_left
  · have d : ((n : Int) != (m : Int)) = true := by rw [bne_iff_ne]; omega
    have hne : decide (xs = ys) = false := decide_eq_false fun h => q (by rw [← hlx, ← hly, h])
    replace hx := Lib.hid hx; replace hy := Lib.hid hy; replace hlx := Lib.hid hlx; replace hly := Lib.hid hly; replace q := Lib.hid q; replace hne := Lib.hid hne
    go_enter Tryd.func61, Tryd.ntmps61
    go_wp2
    go_ret
    exact ⟨by rw [hne.out]; rfl, Below.refl _ _⟩
  subst q
  have d : ((n : Int) != (n : Int)) = false := by simp
  replace hx := Lib.hid hx; replace hy := Lib.hid hy; replace hlx := Lib.hid hlx; replace hly := Lib.hid hly
  go_enter Tryd.func61, Tryd.ntmps61
  go_wp2
  go_loopw [5] (fun i wr => ∃ k : Nat, i = .int .i64 k ∧ k ≤ n ∧ Hid (∀ j, j < k → xs[j]? = ys[j]?) ∧ Hid (Below w.heap.size w wr)) (fun i _ => n - (intOf i).toNat)
  case atStart => exact ⟨0, rfl, Nat.zero_le _, (fun j h => by omega), Below.refl _ _⟩
  case round =>
    obtain ⟨k, rfl, hk, hall, hB⟩ := hrel
    by_cases hc : k < n
    · have hc1 : (k : Int) < n := by omega
      have hk0 : (0 : Int) ≤ (k : Int) := by omega
      obtain ⟨y, hy1⟩ := hx.out.get hc
      obtain ⟨z, hz1⟩ := hy.out.get hc
      obtain ⟨b, off, rfl, hb, a0⟩ := hx.out.cell k y hy1
      obtain ⟨b', off', rfl, hb', a1⟩ := hy.out.cell k z hz1
      have b0 := (below_cell hB.out hb).trans a0
      have b1 := (below_cell hB.out hb').trans a1
      clear a0 a1
      by_cases q : y = z
      · have d2 := str_eqn q
        have d3 := str_eq q
        have hn : ∀ j, j < k + 1 → xs[j]? = ys[j]? := fun j hj => by
          by_cases e : j = k
          · subst e; rw [hy1, hz1, q]
          · exact hall.out j (by omega)
        replace hy1 := Lib.hid hy1; replace hz1 := Lib.hid hz1; replace q := Lib.hid q; replace hn := Lib.hid hn
        go_wp2
        go_quiet (fail)
        go_wp2
        go_roundw
        case rel => exact ⟨k + 1, by go_num, by omega, hn.out, ⟨hB.out.os, hB.out.tape, hB.out.output, hB.out.size, hB.out.block⟩⟩
        case measure => simp [intOf]; omega
      · have d2 := str_nen q
        have d3 := str_ne q
        have hne : decide (xs = ys) = false := decide_eq_false fun h => by
          rw [h, hz1] at hy1
          exact q (Option.some.inj hy1).symm
        replace hy1 := Lib.hid hy1; replace hz1 := Lib.hid hz1; replace q := Lib.hid q; replace hne := Lib.hid hne
        go_wp2
        go_quiet (fail)
        go_wp2
        go_ret
        exact ⟨by rw [hne.out]; rfl, ⟨hB.out.os, hB.out.tape, hB.out.output, hB.out.size, hB.out.block⟩⟩
    · have hc1 : ¬ (k : Int) < n := by omega
      have he : decide (xs = ys) = true := decide_eq_true (List.ext_getElem? fun j => by
        by_cases hj : j < n
        · exact hall.out j (by omega)
        · have h1 := hlx.out
          have h2 := hly.out
          rw [List.getElem?_eq_none (by omega), List.getElem?_eq_none (by omega)])
      replace he := Lib.hid he
      go_wp2
      go_ret
      exact ⟨by rw [he.out]; rfl, hB.out⟩
end Go.Proofs.YteoihdkaoipocaaDoor

/- The document's fleet in memory; its Index, In; corveeref01.Same. -/
namespace Go.Proofs.YteoihdkaoipocaaDoor
open Go.RowKit Go.Maps Go.Shelf

structure IntsAt (w : World) (so : Option Addr) (n : Nat) (xs : List Int) : Prop where
  len : xs.length = n
  max : n ≤ 9223372036854775807
  cell : ∀ i x, xs[i]? = some x → ∃ b off, so = some ⟨b, off, none⟩ ∧ b < w.heap.size ∧ w.cell? ⟨b, off + i, none⟩ = some (.int .i64 x)
theorem IntsAt.low {w w' : World} {so : Option Addr} {n : Nat} {xs : List Int} (h : IntsAt w so n xs) (hb : Below w.heap.size w w') : IntsAt w' so n xs :=
  ⟨h.len, h.max, fun i x hx => by
    obtain ⟨b, off, e, hlt, hc⟩ := h.cell i x hx
    exact ⟨b, off, e, Nat.lt_of_lt_of_le hlt hb.size, (below_cell hb hlt).trans hc⟩⟩
theorem IntsAt.get {w : World} {so : Option Addr} {n : Nat} {xs : List Int} (h : IntsAt w so n xs) {i : Nat} (hi : i < n) : ∃ x, xs[i]? = some x := ⟨_, List.getElem?_eq_getElem (by rw [h.len]; exact hi)⟩
theorem ints_of_own {w : World} {B : Nat} {v : Value} {xs : List Int} (h : OwnI w B v xs) : ∃ so c, v = .slice so xs.length c ∧ IntsAt w so xs.length xs := by
  rcases h.row.2 with ⟨hv, h0⟩ | ⟨g, cap, cur, hv, hg, hh, hn, hm, hr⟩
  · have : xs = [] := List.length_eq_zero_iff.1 h0
    subst this
    exact ⟨none, 0, hv, rfl, by simp, fun i x hx => by simp at hx⟩
  · refine ⟨some ⟨g, 0, none⟩, cap, hv, rfl, by have : maxLen = 9223372036854775807 := rfl; omega, fun i x hx => ⟨g, 0, rfl, blk_lt hh, ?_⟩⟩
    have hi := (List.getElem?_eq_some_iff.1 hx).1
    have hrow := h.row
    rw [hv] at hrow
    rw [Nat.zero_add, World.ownsRow.cellAt hrow i (by omega), intsV, List.getElem?_map, hx]; rfl
theorem strs_of_ownT {w : World} {B : Nat} {v : Value} {xs : List ByteArray} (h : OwnT w B v xs) : ∃ so c, v = .slice so xs.length c ∧ StrsAt w so xs.length xs := by
  rcases h.row.2 with ⟨hv, h0⟩ | ⟨g, cap, cur, hv, hg, hh, hn, hm, hr⟩
  · have : xs = [] := List.length_eq_zero_iff.1 h0
    subst this
    exact ⟨none, 0, hv, strs_none w⟩
  · refine ⟨some ⟨g, 0, none⟩, cap, hv, ?_⟩
    have hrow := h.row
    rw [hv] at hrow
    exact strs_of_own hrow (by have : maxLen = 9223372036854775807 := rfl; omega)

def SameiPost (xs ys : List Int) (w : World) (e : Ending) (w' : World) : Prop := e = .returned (.bool (decide (xs = ys))) ∧ Below w.heap.size w w'
set_option maxRecDepth 100000 in
set_option maxHeartbeats 1600000 in
theorem samei_any (ao bo : Option Addr) (n m c c' : Nat) (xs ys : List Int) (w : World) (hx : IntsAt w ao n xs) (hy : IntsAt w bo m ys) : Calls Tryd.prog 68 #[.slice ao n c, .slice bo m c'] w (SameiPost xs ys w) := by
  have hlx := hx.len
  have hly := hy.len
  have hmx := hx.max
  by_cases q : n = m
  rotate_left
  · have d : ((n : Int) != (m : Int)) = true := by rw [bne_iff_ne]; omega
    have hne : decide (xs = ys) = false := decide_eq_false fun h => q (by rw [← hlx, ← hly, h])
    replace hx := Lib.hid hx; replace hy := Lib.hid hy; replace hlx := Lib.hid hlx; replace hly := Lib.hid hly; replace q := Lib.hid q; replace hne := Lib.hid hne
    go_enter Tryd.func68, Tryd.ntmps68
    go_wp2
    go_ret
    exact ⟨by rw [hne.out]; rfl, Below.refl _ _⟩
  subst q
  have d : ((n : Int) != (n : Int)) = false := by simp
  replace hx := Lib.hid hx; replace hy := Lib.hid hy; replace hlx := Lib.hid hlx; replace hly := Lib.hid hly
  go_enter Tryd.func68, Tryd.ntmps68
  go_wp2
  go_loopw [5] (fun i wr => ∃ k : Nat, i = .int .i64 k ∧ k ≤ n ∧ Hid (∀ j, j < k → xs[j]? = ys[j]?) ∧ Hid (Below w.heap.size w wr)) (fun i _ => n - (intOf i).toNat)
  case atStart => exact ⟨0, rfl, Nat.zero_le _, (fun j h => by omega), Below.refl _ _⟩
  case round =>
    obtain ⟨k, rfl, hk, hall, hB⟩ := hrel
    by_cases hc : k < n
    · have hc1 : (k : Int) < n := by omega
      have hk0 : (0 : Int) ≤ (k : Int) := by omega
      obtain ⟨y, hy1⟩ := hx.out.get hc
      obtain ⟨z, hz1⟩ := hy.out.get hc
      obtain ⟨b, off, rfl, hb, a0⟩ := hx.out.cell k y hy1
      obtain ⟨b', off', rfl, hb', a1⟩ := hy.out.cell k z hz1
      have b0 := (below_cell hB.out hb).trans a0
      have b1 := (below_cell hB.out hb').trans a1
      clear a0 a1
      by_cases q : y = z
      · have d2 : (y != z) = false := by simp [q]
        have hn : ∀ j, j < k + 1 → xs[j]? = ys[j]? := fun j hj => by
          by_cases e : j = k
          · subst e; rw [hy1, hz1, q]
          · exact hall.out j (by omega)
        replace hy1 := Lib.hid hy1; replace hz1 := Lib.hid hz1; replace q := Lib.hid q; replace hn := Lib.hid hn
        go_wp2
        go_quiet (fail)
        go_wp2
        go_roundw
        case rel => exact ⟨k + 1, by go_num, by omega, hn.out, ⟨hB.out.os, hB.out.tape, hB.out.output, hB.out.size, hB.out.block⟩⟩
        case measure => simp [intOf]; omega
      · have d2 : (y != z) = true := by simp [q]
        have hne : decide (xs = ys) = false := decide_eq_false fun h => by
          rw [h, hz1] at hy1
          exact q (Option.some.inj hy1).symm
        replace hy1 := Lib.hid hy1; replace hz1 := Lib.hid hz1; replace q := Lib.hid q; replace hne := Lib.hid hne
        go_wp2
        go_quiet (fail)
        go_wp2
        go_ret
        exact ⟨by rw [hne.out]; rfl, ⟨hB.out.os, hB.out.tape, hB.out.output, hB.out.size, hB.out.block⟩⟩
    · have hc1 : ¬ (k : Int) < n := by omega
      have he : decide (xs = ys) = true := decide_eq_true (List.ext_getElem? fun j => by
        by_cases hj : j < n
        · exact hall.out j (by omega)
        · have h1 := hlx.out
          have h2 := hly.out
          rw [List.getElem?_eq_none (by omega), List.getElem?_eq_none (by omega)])
      replace he := Lib.hid he
      go_wp2
      go_ret
      exact ⟨by rw [he.out]; rfl, hB.out⟩

/-- the document's fleet: its nodes' row -/
structure FlR (W : World) (base : Nat) (nv : Value) (xs : List Nde) : Prop where
  row : W.ownsRow base 48 6 nv xs.length (flatv Nde.cells xs)
  ok : ∀ x, x ∈ xs → x.ok W ∧ PartsAt W x
theorem FlR.below {w w' : World} {base : Nat} {nv : Value} {xs : List Nde} (h : FlR w base nv xs) (hb : Below w.heap.size w w') : FlR w' base nv xs := by
  refine ⟨⟨h.row.1, ?_⟩, fun x hx => ⟨(h.ok x hx).1.low hb, fun b off e => ?_⟩⟩
  · rcases h.row.2 with h | ⟨g, cap, cur, hv, hg, hh, hr⟩
    · exact .inl h
    · exact .inr ⟨g, cap, cur, hv, hg, blk_below hb hh (blk_lt hh), hr⟩
  · obtain ⟨c, hc⟩ := (h.ok x hx).2 b off e
    exact ⟨c, blk_below hb hc (blk_lt hc)⟩
theorem FlR.cell {W : World} {base : Nat} {nv : Value} {xs : List Nde} (h : FlR W base nv xs) {k : Nat} {x : Nde} (hx : xs[k]? = some x) : ∃ g cap, nv = .slice (some ⟨g, 0, none⟩) xs.length cap ∧ g < W.heap.size ∧ base ≤ g ∧ ∀ j, j < 6 → W.cell? ⟨g, k * 6 + j, none⟩ = (x.cells)[j]? := by
  have hk := (List.getElem?_eq_some_iff.1 hx).1
  rcases h.row.2 with ⟨hv, h0⟩ | ⟨g, cap, cur, hv, hg, hh, hr⟩
  · have : xs.length = 0 := h0
    omega
  · subst hv
    refine ⟨g, cap, rfl, blk_lt hh, hg, fun j hj => ?_⟩
    rw [World.ownsRow.cellAt h.row (k * 6 + j) (by
      have : (k + 1) * 6 ≤ xs.length * 6 := Nat.mul_le_mul_right _ (by omega)
      omega), flatv_get nde_size xs hx hj]
theorem flr_len {w : World} {base : Nat} {nv : Value} {xs : List Nde} (h : FlR w base nv xs) : ∀ ty w, (Builtin.len_ #[42] ty #[nv]).run Tryd.prog w = .ok (.int .i64 (xs.length : Int)) w := fun ty w => by
  rcases Joins.ownsRow_forms h.row with ⟨rfl, h0⟩ | ⟨g, cap, rfl⟩
  · rw [h0]; simp [go_sem, Tryd.underlying42]
  · simp [go_sem, Tryd.underlying42]

set_option maxRecDepth 100000 in
set_option maxHeartbeats 1600000 in
theorem ridx_any (w : World) (base : Nat) (nv : Value) (xs : List Nde) (s : ByteArray) (hF : FlR w base nv xs) (hl63 : xs.length ≤ 4096) : Calls Tryd.prog 83 #[.agg #[nv], .string s] w fun e w' => e = .returned (.int .i64 (idxN (xs.map Nde.name) s 0)) ∧ Below w.heap.size w w' := by
  have hln := flr_len hF
  obtain ⟨n, hn⟩ : ∃ n, n = xs.length := ⟨_, rfl⟩
  rw [← hn] at hln hl63
  obtain ⟨W, hW⟩ : ∃ W, W = w.alloc (.cells #[nv] 44 (0, 0)) := ⟨_, rfl⟩
  have hb : Below w.heap.size w W := by rw [hW]; exact (Below.refl _ _).alloc (Nat.le_refl _) _
  have hbx : W.heap[w.heap.size]? = some (.cells #[nv] 44 (0, 0)) := by rw [hW]; exact blk_new _ _
  have hF1 := hF.below hb
  have f0 : W.cell? ⟨w.heap.size, 0, none⟩ = some nv := blk_cell hbx 0
  replace hF := Lib.hid hF; replace hn := Lib.hid hn; replace hb := Lib.hid hb; replace hbx := Lib.hid hbx; replace hF1 := Lib.hid hF1
  go_enter Tryd.func83, Tryd.ntmps83
  go_wp2
  rw [← hW]
  have hW' := Lib.hid hW
  clear hW
  go_loop [5] (fun i => ∃ k : Nat, i = .int .i64 k ∧ k ≤ n ∧ Hid (idxN (xs.map Nde.name) s 0 = idxN ((xs.map Nde.name).drop k) s k)) (fun i => n - (intOf i).toNat)
  case atStart => exact ⟨0, rfl, Nat.zero_le _, rfl⟩
  case round =>
    obtain ⟨k, rfl, hk, hI⟩ := hrel
    by_cases hc : k < n
    · have hc1 : (k : Int) < n := by omega
      have hk0 : (0 : Int) ≤ (k : Int) := by omega
      obtain ⟨x, hx⟩ : ∃ x, xs[k]? = some x := ⟨_, List.getElem?_eq_getElem (by have := hn.out; omega)⟩
      obtain ⟨g, cap, rfl, _, _, hcell⟩ := hF1.out.cell hx
      have c0 : W.cell? ⟨g, k * 6 + 0, none⟩ = some (.string x.name) := hcell 0 (by omega)
      rw [Nat.add_zero] at c0
      have hlt : (xs.map Nde.name)[k]? = some x.name := by rw [List.getElem?_map, hx]; rfl
      have hdr : (xs.map Nde.name).drop k = x.name :: (xs.map Nde.name).drop (k + 1) := by
        obtain ⟨h1, h2⟩ := List.getElem?_eq_some_iff.1 hlt
        rw [List.drop_eq_getElem_cons h1, h2]
      rw [← hn.out] at f0
      clear hln
      by_cases q : x.name = s
      · have d := str_eq q
        have hr : idxN (xs.map Nde.name) s 0 = (k : Int) := by rw [hI.out, hdr]; simp only [idxN]; rw [if_pos q]
        replace hx := Lib.hid hx; replace hcell := Lib.hid hcell; replace hlt := Lib.hid hlt; replace hdr := Lib.hid hdr; replace q := Lib.hid q; replace hr := Lib.hid hr
        go_wp2
        go_ret
        exact ⟨by rw [hr.out]; rfl, hb.out⟩
      · have d := str_ne q
        have hr : idxN (xs.map Nde.name) s 0 = idxN ((xs.map Nde.name).drop (k + 1)) s (k + 1) := by rw [hI.out, hdr]; simp only [idxN]; rw [if_neg q]
        replace hx := Lib.hid hx; replace hcell := Lib.hid hcell; replace hlt := Lib.hid hlt; replace hdr := Lib.hid hdr; replace q := Lib.hid q; replace hr := Lib.hid hr
        go_wp2
        go_round
        case rel => exact ⟨k + 1, by go_num, by omega, hr.out⟩
        case measure => simp [intOf]; omega
    · have hc1 : ¬ (k : Int) < n := by omega
      have hr : idxN (xs.map Nde.name) s 0 = -1 := by
        rw [hI.out, List.drop_eq_nil_of_le (by rw [List.length_map]; have := hn.out; omega)]; rfl
      replace hr := Lib.hid hr
      go_wp2
      go_ret
      exact ⟨by rw [hr.out]; rfl, hb.out⟩
end Go.Proofs.YteoihdkaoipocaaDoor

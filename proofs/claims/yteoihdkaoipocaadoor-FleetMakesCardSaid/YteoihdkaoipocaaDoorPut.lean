/- (*fleet.Fleet).put: a node behind the others. -/
import Derived.Test.YteoihdkaoipocaaDoorFlt
import Derived.StillTailTactics
import Derived.Deep.DeepCutAuto
import Derived.Deep.RegionWith
import Derived.Deep.CutBlock
import Derived.Deep.RegionLaw
import Derived.Deep.RegionHeld3
namespace Go.Proofs.YteoihdkaoipocaaDoor
open Go.RowKit Go.Maps

instance decBA : DecidableEq ByteArray := fun a b => decidable_of_iff (a.data.toList = b.data.toList) ⟨toL_inj, fun h => by rw [h]⟩
def memB (ns : List ByteArray) (s : ByteArray) : Bool := ns.any fun n => decide (n = s)
theorem memB_iff {ns : List ByteArray} {s : ByteArray} : memB ns s = true ↔ s ∈ ns := by
  unfold memB
  rw [List.any_eq_true]
  exact ⟨fun ⟨x, h1, h2⟩ => by rw [← of_decide_eq_true h2]; exact h1, fun h => ⟨s, h, decide_eq_true rfl⟩⟩
/-- does one text of a row stand there twice? -/
def twiceL : List ByteArray → Bool
  | [] => false
  | p :: ps => memB ps p || twiceL ps
/-- what a put answers -/
def putE (ns : List ByteArray) (m : Nat) (name : ByteArray) (parts : List ByteArray) : Int :=
  if memB ns name = true then 51 else if twiceL parts = true then 51 else if 16 ≤ m ∨ 8 < parts.length then 2 else 0
/-- what a put keeps -/
structure PutK (fb mb base lo : Nat) (w w' : World) : Prop where
  low : Below lo w w'
  same : ∀ (k : Nat) (o : Obj), w.heap[k]? = some o → k ≠ mb → k ≠ fb → (k < base ∨ ∀ c fr, o ≠ .cells c 48 fr) → w'.heap[k]? = some o
theorem zero3 (w : World) : (zeroValue 3).run Tryd.prog w = .ok (.int .i64 0) w := by kernel_rfl
theorem fl_look {w : World} {fb mb base : Nat} {nv : Value} {xs : List Nde} (h : FlW w fb mb base nv xs) (s : ByteArray) (hs : s.size ≤ maxLen) :
    ∃ c, (Instr.lookup 88 (.map (some mb)) (.string s) true).run Tryd.prog w = .ok (.tuple #[.int .i64 c, .bool (has (mapD (xs.map Nde.name)) (keyB s))]) w ∧ (mapD (xs.map Nde.name)).atKey (keyB s) (.lit (.int .i64 0)) = .lit (.int .i64 c) := by
  obtain ⟨v, ps, h1, h2⟩ := h.map.look_ok (string_keyed Tryd.underlying9) Tryd.underlying88 (zero3 w) (plainElem_int Tryd.underlying3 (by decide)) (WideMaps.keyOf_string_mk Tryd.underlying9 hs)
  obtain ⟨c, rfl, hc, _⟩ := plainElem_int_inv Tryd.underlying3 h2
  exact ⟨c, h1, congrArg Prod.fst hc⟩

theorem slice_upto_g {P : Program} {t e : TypeId} {i : TypeInfo} (hU : P.underlying t = some (.slice e)) (hi : P.info? e = some i) (ad : Addr) (len cap n : Nat) (x : Int) (hx : x = n) (hn : n ≤ cap) (w : World) :
    (Instr.slice t (.slice (some ad) len cap) none (some (.int .i64 x)) none).run P w = .ok (.slice (some ad) n cap) w := by
  subst hx
  have h1 : ∀ (y : Nat) (_ : n ≤ y) c, (Instr.sliceBound (.int .i64 (n : Int)) y c).run P w = .ok n w := fun y h c => by
    simp [Instr.sliceBound, asIntOf, h]
  simp [Instr.slice, Instr.sliceBounds, run_underlying hU, h1 cap hn, sizeOf, typeInfo, hi, Addr.add]
/-- do two of the first k texts agree? -/
def DupTo (l : List ByteArray) (k : Nat) : Prop := ∃ i j s, j < i ∧ i < k ∧ l[i]? = some s ∧ l[j]? = some s
theorem twiceL_iff (l : List ByteArray) : twiceL l = true ↔ DupTo l l.length := by
  induction l with
  | nil => exact ⟨fun h => (by cases h), fun ⟨i, j, s, h1, h2, _⟩ => absurd h2 (Nat.not_lt_zero _)⟩
  | cons p ps ih =>
    unfold twiceL
    rw [Bool.or_eq_true, ih, memB_iff]
    constructor
    · rintro (h | ⟨i, j, s, h1, h2, h3, h4⟩)
      · obtain ⟨i, hi, e⟩ := List.getElem_of_mem h
        exact ⟨i + 1, 0, p, by omega, by simp; omega, by simp [List.getElem?_eq_getElem hi, e], by simp⟩
      · exact ⟨i + 1, j + 1, s, by omega, by simp; omega, by simpa using h3, by simpa using h4⟩
    · rintro ⟨i, j, s, h1, h2, h3, h4⟩
      cases i with
      | zero => omega
      | succ i =>
        simp at h2 h3
        cases j with
        | zero => simp at h4; subst h4; exact .inl (List.mem_of_getElem? h3)
        | succ j => simp at h4; exact .inr ⟨i, j, s, by omega, h2, h3, h4⟩
theorem six_pos : 0 < 6 := Nat.succ_pos _
theorem info48 : (Tryd.prog.info? 48).map (fun i => (i.zero, i.size, i.bytes)) = some (some (.agg #[.string ByteArray.empty, .int .i64 0, .int .i64 0, .int .i64 0, .int .i64 0, .slice none 0 0]), 6, 72) := by kernel_rfl
theorem nde_one (x : Nde) : ∀ u ∈ x.cells.toList, u.oneCell' = true := by simp [Value.oneCell']
theorem fl_map_ne {w : World} {fb mb base k : Nat} {nv : Value} {xs : List Nde} {c : Array Value} {T : TypeId} {fr : Nat × Nat} (h : FlW w fb mb base nv xs) (hk : w.heap[k]? = some (.cells c T fr)) : k ≠ mb := fun e => by
  obtain ⟨es, clock, hb, _⟩ := h.map
  rw [e, hb] at hk; cases hk
theorem nde_new (w : World) (x : Nde) : ∀ j u, x.cells.toList[j]? = some u → (w.alloc (.cells x.cells 48 (0, 0))).cell? ((⟨w.heap.size, 0, none⟩ : Addr).add j) = some u := by
  intro j u hu
  rw [Addr.add_lit, Nat.zero_add, blk_cell (blk_new w _) j]
  simpa using hu
theorem owns_block {w : World} {base size n g : Nat} {e : TypeId} {v : Value} {xs : List Value} (h : w.ownsRow base e size v n xs) (hg : v.ownBlock = some g) : ∃ cur, w.heap[g]? = some (.cells cur e (0, 0)) := by
  rcases h.2 with ⟨hv, _⟩ | ⟨g', cap, cur, hv, _, hh, _⟩
  · rw [hv] at hg; simp [Value.ownBlock] at hg
  · rw [hv] at hg
    have e' : g' = g := by simpa [Value.ownBlock] using hg
    subst e'
    exact ⟨cur, hh⟩
theorem PutK.of_low {fb mb base lo : Nat} {w w' : World} (h : Below w.heap.size w w') (hb : lo ≤ w.heap.size) : PutK fb mb base lo w w' :=
  ⟨h.mono hb, fun _ _ hk _ _ _ => blk_below h hk (blk_lt hk)⟩
structure PtC (base fb : Nat) (w5 : World) (X : Nde) (nv : Value) (n : Nat) (xs : List Nde) (wx : World) : Prop where
  ex : ∃ v1 w9, w9.ownsRow base 48 6 v1 (n + 1) (flatv Nde.cells xs ++ X.cells.toList) ∧ ((w5.alloc (.cells X.cells 48 (0, 0))).drew).grownBy w9 nv.ownBlock ∧ wx = w9.setCell ⟨fb, 0, none⟩ v1
theorem step_append_own1 {P : Program} {ops : Array Oper} {o : Oper} {a : Act} {w : World} {K : Act → World → Prop} {Q : Exit → Act → World → Prop} {E : Prop} (hgd : o.guard = none) (s x : Operand) (t : TypeId)
    (ho : o.op = .call { callee := .builtin .append, args := #[s, x], argTypes := #[t, t] })
    (base : Nat) (e : TypeId) (i : TypeInfo) (z : Value) (size bytes : Nat) (ht : P.underlying t = some (.slice e)) (hi : P.info? e = some i) (hz : i.zero = some z)
    (hsize : i.size = size) (hby : i.bytes = bytes) (hzs : z.cells.size = size) (hsz : 0 < size)
    (v : Value) (n : Nat) (xs : List Value) (hs : a.eval s = v) (hown : w.ownsRow base e size v n xs)
    (ad : Addr) (c : Nat) (news : List Value) (hx : a.eval x = .slice (some ad) 1 c) (hl : news.length = 1 * size) (hnews : ∀ j u, news[j]? = some u → w.cell? (ad.add j) = some u) (h1 : ∀ u ∈ news, u.oneCell' = true)
    (h63 : n + 1 ≤ maxLen) (hbytes : (n + 1) * bytes ≤ 140737488355328) (hbase : base ≤ w.heap.size)
    (h : ∀ g cap w', w'.ownsRow base e size (.slice (some ⟨g, 0, none⟩) (n + 1) cap) (n + 1) (xs ++ news) → w.grownBy w' v.ownBlock → K (a.put o.dst (.slice (some ⟨g, 0, none⟩) (n + 1) cap)) w') :
    if Region.wanted o (yielded ops a.tmps) = true then Oper.wp P o a w K Q else E := by
  have hw : Region.wanted o (yielded ops a.tmps) = true := by simp [Region.wanted, hgd]
  rw [if_pos hw]
  exact wp_append_own w s x t ho base e i z size bytes ht hi hz hsize hby hzs hsz v n xs hs hown ad 1 c news hx hl hnews h1 h63 hbytes hbase fun v' w' h2 h3 _ => by
    obtain ⟨g, cap, rfl⟩ := Joins.ownsRow_form h2 (Nat.succ_pos _)
    exact h g cap w' h2 h3

structure TwC (W2 : World) (tb : Bool) (tv : Value) (wx : World) : Prop where
  tv : tv = .bool tb
  wx : wx = W2
structure LkC (W1 : World) (c : Int) (b : Bool) (cv bv : Value) (wx : World) : Prop where
  cv : cv = .int .i64 c
  bv : bv = .bool b
  wx : wx = W1.drew
theorem owns_setT {w : World} {base size n b : Nat} {e T : TypeId} {v : Value} {xs : List Value} {o : Array Value} (h : w.ownsRow base e size v n xs) (hb : w.heap[b]? = some (.cells o T (0, 0))) (hT : T ≠ e) (off : Nat) (u : Value) : (w.setCell ⟨b, off, none⟩ u).ownsRow base e size v n xs := by
  obtain ⟨h1, h2⟩ := h
  refine ⟨h1, ?_⟩
  rcases h2 with h | ⟨g, cap, cur, hv, hg, hh, hr⟩
  · exact .inl h
  · have hne : g ≠ b := fun c => by rw [c, hb] at hh; simp at hh; exact hT hh.2
    exact .inr ⟨g, cap, cur, hv, hg, blk_set_other hne _ hh, hr⟩
theorem put_end {w wc w5 w9 : World} {fb mb base lo n : Nat} {nv v1 : Value} {xs : List Nde} {x : Nde} (hF : FlW wc fb mb base nv xs) (hn : n = xs.length) (hbf : lo ≤ fb) (hbm : lo ≤ mb) (hlo : lo ≤ base) (hg5 : wc.drew.grownBy w5 (some mb))
    (hm5 : w5.ownsMap Tryd.prog 9 (plainElem (H := Unit) Tryd.prog 3) mb (n + 1) ((mapD (xs.map Nde.name)).put (keyB x.name) (.lit (.int .i64 (n : Int)))))
    (hg9 : ((w5.alloc (.cells x.cells 48 (0, 0))).drew).grownBy w9 nv.ownBlock) (ho9 : w9.ownsRow base 48 6 v1 (n + 1) (flatv Nde.cells xs ++ x.cells.toList)) (h9 : w9.heap[fb]? = some (.cells #[nv, .map (some mb)] 107 (0, 0)))
    (hx : x.ok wc) (hp : PartsAt wc x) (hbs : base ≤ w.heap.size) (hlow : Below w.heap.size w wc) :
    FlW (w9.setCell ⟨fb, 0, none⟩ v1) fb mb base v1 (xs ++ [x]) ∧ PutK fb mb base lo w (w9.setCell ⟨fb, 0, none⟩ v1) := by
  have hs5 : wc.heap.size ≤ w5.heap.size := hg5.size
  have hs9 : w5.heap.size + 1 ≤ w9.heap.size := by
    have := hg9.size
    rw [show ((w5.alloc (.cells x.cells 48 (0, 0))).drew).heap.size = w5.heap.size + 1 from World.size_alloc _ _] at this
    exact this
  have hown : ∀ k, nv.ownBlock = some k → base ≤ k ∧ ∃ cur, wc.heap[k]? = some (.cells cur 48 (0, 0)) := fun k e => ⟨(hF.row.lt k e).1, owns_block hF.row e⟩
  have keep : ∀ (k : Nat) (o : Obj), wc.heap[k]? = some o → k ≠ mb → k ≠ fb → (k < base ∨ ∀ c fr, o ≠ .cells c 48 fr) → (w9.setCell ⟨fb, 0, none⟩ v1).heap[k]? = some o := fun k o hk h1 h2 h3 => by
    have hlt := blk_lt hk
    refine blk_set_other h2 _ ?_
    refine (hg9.block k (by show k < (w5.alloc _).heap.size; rw [World.size_alloc]; omega) (fun e => ?_)).trans (blk_old _ ((hg5.block k hlt (fun e => h1 (by cases e; rfl))).trans hk))
    obtain ⟨e1, cur, e2⟩ := hown k e.symm
    rcases h3 with h3 | h3
    · omega
    · rw [hk] at e2
      exact h3 _ _ (Option.some.inj e2)
  have hsz : wc.heap.size ≤ (w9.setCell ⟨fb, 0, none⟩ v1).heap.size := by
    have : (w9.setCell ⟨fb, 0, none⟩ v1).heap.size = w9.heap.size := by simp [World.setCell]
    omega
  have hpart : ∀ y : Nde, y.ok wc → PartsAt wc y → y.ok (w9.setCell ⟨fb, 0, none⟩ v1) ∧ PartsAt (w9.setCell ⟨fb, 0, none⟩ v1) y := fun y hy hyp => by
    have key : ∀ b off, y.po = some ⟨b, off, none⟩ → ∃ c, wc.heap[b]? = some (.cells c 9 (0, 0)) ∧ (w9.setCell ⟨fb, 0, none⟩ v1).heap[b]? = some (.cells c 9 (0, 0)) := fun b off e => by
      obtain ⟨c, hc⟩ := hyp b off e
      refine ⟨c, hc, keep b _ hc (fl_map_ne hF hc) (fun e => ?_) (.inr fun c' fr e => by injection e with e1 e2 e3; exact absurd e2 (by decide))⟩
      rw [e, hF.head] at hc
      simp at hc
    refine ⟨⟨strs_keep hy.parts hsz fun b off e _ => ?_, hy.ple⟩, fun b off e => ?_⟩
    · obtain ⟨c, h1, h2⟩ := key b off e
      rw [h1, h2]
    · obtain ⟨c, _, h2⟩ := key b off e
      exact ⟨c, h2⟩
  refine ⟨⟨by rw [blk_set h9]; rfl, ?_, ?_, fun y hy => ?_⟩, ?_, fun k o hk h1 h2 h3 => keep k o (blk_below hlow hk (blk_lt hk)) h1 h2 h3⟩
  · have := owns_setT ho9 h9 (by decide) 0 v1
    rw [flatv_append, flatv_one, List.length_append, ← hn]
    exact this
  · rw [List.map_append, List.length_append, ← hn]
    have hmp := ((hm5.alloc (.cells x.cells 48 (0, 0))).drew.kept hg9 (fun e => by
      obtain ⟨_, cur, e2⟩ := hown mb e.symm
      exact fl_map_ne hF e2 rfl)).setCell (a := ⟨fb, 0, none⟩) (fun e => fl_map_ne hF hF.head e.symm) v1
    rw [show List.map Nde.name [x] = [x.name] from rfl, mapD_snoc, List.length_map, ← hn]
    exact hmp
  · rcases List.mem_append.1 hy with h | h
    · exact hpart y (hF.ok y h).1 (hF.ok y h).2
    · have : y = x := by simpa using h
      subst this
      exact hpart y hx hp
  · have hle : base ≤ wc.heap.size := Nat.le_trans hbs hlow.size
    have hle' : lo ≤ wc.heap.size := Nat.le_trans hlo hle
    have b1 : Below lo w wc.drew := (hlow.mono (Nat.le_trans hlo hbs)).drew
    have b2 : Below lo w w5 := b1.grown hg5 hle' (fun k e => by cases e; exact hbm)
    have b3 : Below lo w ((w5.alloc (.cells x.cells 48 (0, 0))).drew) := (b2.alloc (Nat.le_trans hle' hs5) _).drew
    have b4 : Below lo w w9 := b3.grown hg9 (by
      show lo ≤ (w5.alloc (.cells x.cells 48 (0, 0))).heap.size
      rw [World.size_alloc]; omega) (fun k e => Nat.le_trans hlo (hF.row.lt k e).1)
    exact b4.setCell hbf _
set_option maxRecDepth 100000 in
set_option maxHeartbeats 6400000 in
theorem put_any (w : World) (fb mb base lo : Nat) (nv : Value) (xs : List Nde) (x : Nde) (hF : FlW w fb mb base nv xs) (hx : x.ok w) (hp : PartsAt w x) (hn : x.name.size ≤ maxLen) (hpl : x.pn ≤ 4294967296) (hbf : lo ≤ fb) (hbm : lo ≤ mb) (hlo : lo ≤ base) (hbase : base ≤ w.heap.size) :
    Calls Tryd.prog 81 #[.pointer (some ⟨fb, 0, none⟩), x.val] w fun e w' => ∃ nv', e = .returned (.int .i64 (putE (xs.map Nde.name) xs.length x.name x.parts)) ∧ FlW w' fb mb base nv' (if putE (xs.map Nde.name) xs.length x.name x.parts = 0 then xs ++ [x] else xs) ∧ PutK fb mb base lo w w' := by
  obtain ⟨i9, hi9, hz9, hz91, hz92⟩ := info_parts info9
  obtain ⟨nm, cp, po, pn, pc, ps⟩ := x
  obtain ⟨W1, hW1⟩ : ∃ W1, W1 = w.alloc (.cells (⟨nm, cp, po, pn, pc, ps⟩ : Nde).cells 48 (0, 0)) := ⟨_, rfl⟩
  have hb1 : Below w.heap.size w W1 := by rw [hW1]; exact (Below.refl _ _).alloc (Nat.le_refl _) _
  have hF1 := hF.below hb1
  have hx1 : W1.heap[w.heap.size]? = some (.cells (⟨nm, cp, po, pn, pc, ps⟩ : Nde).cells 48 (0, 0)) := by rw [hW1]; exact blk_new _ _
  have hF1d : FlW W1.drew fb mb base nv xs := hF1.below ((Below.refl _ _).drew)
  obtain ⟨c, hlk, hat⟩ := fl_look hF1d nm hn
  obtain ⟨b, hb⟩ : ∃ b, b = has (mapD (xs.map Nde.name)) (keyB nm) := ⟨_, rfl⟩
  rw [← hb] at hlk
  have f0 := blk_cell hF1.head 0
  have f1 := blk_cell hF1.head 1
  have y0 := blk_cell hx1 0
  have y5 := blk_cell hx1 5
  simp at f0 f1 y0 y5
  replace hF := Lib.hid hF; replace hx := Lib.hid hx; replace hp := Lib.hid hp; replace hb1 := Lib.hid hb1; replace hF1 := Lib.hid hF1; replace hx1 := Lib.hid hx1; replace hF1d := Lib.hid hF1d; replace hat := Lib.hid hat; replace hb := Lib.hid hb
  have hW1' := Lib.hid hW1
  clear hW1
  go_enter Tryd.func81, Tryd.ntmps81
  go_wp2_with fail
  rw [← hW1'.out]
  go_step3
  go_upto_region 1 with fail
  go_cut [5, 6] (fun cv bv wx => LkC W1 c b cv bv wx)
  case first =>
    go_region_with (fail)
    all_goals
      go_wp2_with fail
      go_meet
      exact ⟨rfl, rfl, rfl⟩
  case rest =>
    obtain ⟨rfl, rfl, rfl⟩ := hcut
    cases b with
    | true =>
      have hE : putE (xs.map Nde.name) xs.length nm ps = 51 := by unfold putE; rw [if_pos (by rw [memB_iff]; exact (mapD_has _ _).1 hb.out.symm)]
      have hlow : Below w.heap.size w W1.drew := hb1.out.drew
      have hbs : base ≤ w.heap.size := hbase
      replace hE := Lib.hid hE; replace hlow := Lib.hid hlow; replace hbs := Lib.hid hbs
      go_wp2
      try rw [Exit.noGoto_ret]
      go_ret
      exact ⟨nv, by rw [hE.out]; rfl, by rw [hE.out]; exact hF1d.out, PutK.of_low hlow.out (Nat.le_trans hlo hbs.out)⟩
    | false =>
      have hnm : ¬ memB (xs.map Nde.name) nm = true := fun h => by
        have := (mapD_has _ _).2 (memB_iff.1 h)
        rw [← hb.out] at this; cases this
      obtain ⟨W2, hW2⟩ : ∃ W2, W2 = W1.drew := ⟨_, rfl⟩
      have hF2 : FlW W2 fb mb base nv xs := by rw [hW2]; exact hF1d.out
      have hx2 : W2.heap[w.heap.size]? = some (.cells (⟨nm, cp, po, pn, pc, ps⟩ : Nde).cells 48 (0, 0)) := by rw [hW2]; exact hx1.out
      have hps : StrsAt W2 po pn ps := by rw [hW2]; exact (hx.out.low (hb1.out.drew)).parts
      clear f0 f1 y0 y5 hlk
      have f0 := blk_cell hF2.head 0
      have f1 := blk_cell hF2.head 1
      have y0 := blk_cell hx2 0
      have y5 := blk_cell hx2 5
      simp at f0 f1 y0 y5
      obtain ⟨tb, htb⟩ : ∃ tb, tb = twiceL ps := ⟨_, rfl⟩
      have hpn := hps.len
      have hple : pn ≤ pc := hx.out.ple
      rw [← hW2]
      replace hnm := Lib.hid hnm; replace hF2 := Lib.hid hF2; replace hx2 := Lib.hid hx2; replace hps := Lib.hid hps; replace hW2 := Lib.hid hW2; replace htb := Lib.hid htb; replace hpn := Lib.hid hpn
      go_upto_block 0 with fail
      go_step3
      go_upto_block 0 with fail
      go_cut [7, 8, 9, 11] from 26 to 44 (fun tv _ _ _ wx => TwC W2 tb tv wx)
      case first =>
        go_wp2
        go_loopw [7, 8, 9, 11, 26] (fun tv _ _ _ i wr => ∃ k : Nat, tv = .bool false ∧ i = .int .i64 k ∧ k ≤ pn ∧ wr = W2 ∧ Hid (¬ DupTo ps k)) (fun _ _ _ _ i _ => pn - (intOf i).toNat)
        case atStart => exact ⟨0, rfl, rfl, Nat.zero_le _, rfl, fun ⟨i, j, s, h1, h2, _⟩ => absurd h2 (Nat.not_lt_zero _)⟩
        case round =>
          obtain ⟨k, rfl, rfl, hk, rfl, hD⟩ := hrel
          by_cases hk1 : k < pn
          · have hc1 : (k : Int) < pn := by omega
            have hk0 : (0 : Int) ≤ (k : Int) := by omega
            obtain ⟨p, hpk⟩ := hps.out.get hk1
            obtain ⟨b', off', rfl, hb', hcp⟩ := hps.out.cell k p hpk
            have hsl := fun w => slice_upto_g Tryd.underlying36 hi9 ⟨b', off', none⟩ pn pc k k rfl (by omega) w
            replace hpk := Lib.hid hpk
            go_wp2
            go_loopw [7, 11, 36] (fun tv _ i wq => ∃ j : Nat, tv = .bool false ∧ i = .int .i64 j ∧ j ≤ k ∧ wq = wr ∧ Hid (∀ j', j' < j → ps[j']? ≠ some p)) (fun _ _ i _ => k - (intOf i).toNat)
            case atStart => exact ⟨0, rfl, rfl, Nat.zero_le _, rfl, fun j' h => absurd h (Nat.not_lt_zero _)⟩
            case round =>
              obtain ⟨j, rfl, rfl, hj, rfl, hN⟩ := hrel
              by_cases hj1 : j < k
              · have hc2 : (j : Int) < k := by omega
                have hj0 : (0 : Int) ≤ (j : Int) := by omega
                obtain ⟨q, hqj⟩ := hps.out.get (i := j) (by omega)
                obtain ⟨b2, off2, e2, hb2, hcq⟩ := hps.out.cell j q hqj
                cases e2
                by_cases hpq : p = q
                · have d : (p.toList == q.toList) = true := by rw [hpq]; simp
                  have ht : tb = true := by rw [htb.out, twiceL_iff]; exact ⟨k, j, p, hj1, by rw [hpn.out]; exact hk1, hpk.out, by rw [hpq]; exact hqj⟩
                  replace hqj := Lib.hid hqj; replace hpq := Lib.hid hpq; replace ht := Lib.hid ht
                  go_wp2
                  go_meet
                  case rel => exact ⟨by rw [ht.out], rfl⟩
                · have d : (p.toList == q.toList) = false := by
                    simp only [beq_eq_false_iff_ne]
                    intro e
                    rw [Lib.toList_data, Lib.toList_data] at e
                    exact hpq (toL_inj e)
                  have hN2 : ∀ j', j' < j + 1 → ps[j']? ≠ some p := fun j' h e => by
                    by_cases c : j' = j
                    · subst c; rw [hqj] at e; exact hpq (Option.some.inj e).symm
                    · exact hN.out j' (by omega) e
                  replace hqj := Lib.hid hqj; replace hpq := Lib.hid hpq; replace hN2 := Lib.hid hN2
                  go_wp2
                  go_roundw
                  case rel => exact ⟨j + 1, rfl, by go_num, by omega, trivial, hN2.out⟩
                  case measure => simp [intOf]; omega
              · have hc2 : ¬ (j : Int) < k := by omega
                have hD2 : ¬ DupTo ps (k + 1) := fun ⟨i, j', s, h1, h2, h3, h4⟩ => by
                  by_cases c : i = k
                  · subst c
                    rw [hpk.out] at h3
                    exact hN.out j' (by omega) (by rw [h4, ← h3])
                  · exact hD.out ⟨i, j', s, h1, by omega, h3, h4⟩
                replace hD2 := Lib.hid hD2
                go_wp2
                go_roundw
                case rel => exact ⟨k + 1, rfl, by go_num, by omega, trivial, hD2.out⟩
                case measure => simp [intOf]; omega
          · have hc1 : ¬ (k : Int) < pn := by omega
            have hkp : k = pn := by omega
            have ht : tb = false := by
              rw [htb.out, Bool.eq_false_iff]
              intro c
              exact hD.out (by rw [hkp, ← hpn.out]; exact (twiceL_iff ps).1 c)
            replace ht := Lib.hid ht; replace hkp := Lib.hid hkp
            go_wp2
            go_meet
            case rel => exact ⟨by rw [ht.out], rfl⟩
      case rest =>
        obtain ⟨rfl, rfl⟩ := hcut
        have hlow : Below w.heap.size w wc := by rw [hW2.out]; exact hb1.out.drew
        have hbs : base ≤ w.heap.size := hbase
        cases tb with
        | true =>
          have hE : putE (xs.map Nde.name) xs.length nm ps = 51 := by unfold putE; rw [if_neg hnm.out, if_pos htb.out.symm]
          replace hE := Lib.hid hE; replace hlow := Lib.hid hlow; replace hbs := Lib.hid hbs
          go_wp2
          try rw [Exit.noGoto_ret]
          go_ret
          exact ⟨nv, by rw [hE.out]; rfl, by rw [hE.out]; exact hF2.out, PutK.of_low hlow.out (Nat.le_trans hlo hbs.out)⟩
        | false =>
          have hln : ∀ ty w, (Builtin.len_ #[42] ty #[nv]).run Tryd.prog w = .ok (.int .i64 (xs.length : Int)) w := fun ty w => by
            rcases Joins.ownsRow_forms hF2.out.row with ⟨rfl, h0⟩ | ⟨g, cap, rfl⟩
            · rw [h0]; simp [go_sem, Tryd.underlying42]
            · simp [go_sem, Tryd.underlying42]
          obtain ⟨n, hnl⟩ : ∃ n, n = xs.length := ⟨_, rfl⟩
          rw [← hnl] at hln
          replace hnl := Lib.hid hnl; replace hlow := Lib.hid hlow; replace hbs := Lib.hid hbs
          by_cases q1 : 16 ≤ n
          · have d1 : decide ((16 : Int) ≤ n) = true := decide_eq_true (by omega)
            have d1' : decide (16 ≤ n) = true := decide_eq_true q1
            have hE : putE (xs.map Nde.name) xs.length nm ps = 2 := by
              unfold putE; rw [if_neg hnm.out, if_neg (by rw [← htb.out]; simp), if_pos (.inl (by rw [← hnl.out]; exact q1))]
            replace hE := Lib.hid hE
            go_wp2
            try rw [Exit.noGoto_ret]
            go_ret
            exact ⟨nv, by rw [hE.out]; rfl, by rw [hE.out]; exact hF2.out, PutK.of_low hlow.out (Nat.le_trans hlo hbs.out)⟩
          have d1 : decide ((16 : Int) ≤ n) = false := decide_eq_false (by omega)
          have d1' : decide (16 ≤ n) = false := decide_eq_false q1
          by_cases q2 : 8 < pn
          · have d2 : decide ((8 : Int) < pn) = true := decide_eq_true (by omega)
            have d2' : decide (8 < pn) = true := decide_eq_true q2
            have hE : putE (xs.map Nde.name) xs.length nm ps = 2 := by
              unfold putE; rw [if_neg hnm.out, if_neg (by rw [← htb.out]; simp), if_pos (.inr (by rw [hpn.out]; exact q2))]
            replace hE := Lib.hid hE
            go_wp2
            try rw [Exit.noGoto_ret]
            go_ret
            exact ⟨nv, by rw [hE.out]; rfl, by rw [hE.out]; exact hF2.out, PutK.of_low hlow.out (Nat.le_trans hlo hbs.out)⟩
          have d2 : decide ((8 : Int) < pn) = false := decide_eq_false (by omega)
          have d2' : decide (8 < pn) = false := decide_eq_false q2
          have hE : putE (xs.map Nde.name) xs.length nm ps = 0 := by
            unfold putE; rw [if_neg hnm.out, if_neg (by rw [← htb.out]; simp), if_neg (by rw [← hnl.out, hpn.out]; omega)]
          replace hE := Lib.hid hE
          have hown : wc.drew.ownsMap Tryd.prog 9 (plainElem (H := Unit) Tryd.prog 3) mb n (mapD (xs.map Nde.name)) := by rw [hnl.out]; exact hF2.out.map
          have hnlt : n < maxLen := by have : maxLen = 9223372036854775807 := rfl; omega
          have hkey : keyOf Tryd.prog 9 (.string nm) = some (keyB nm) := WideMaps.keyOf_string_mk Tryd.underlying9 hn
          have hwf : (Lit.int .i64 (n : Int)).wf = true := WalkArith.wf_i64 (by omega)
          replace hown := Lib.hid hown; replace hnlt := Lib.hid hnlt; replace hkey := Lib.hid hkey; replace hwf := Lib.hid hwf
          go_upto_region 19 with fail
          go_still_tail 11, (by kernel_rfl)
          change wpList _ _ _ _ _ wc.drew
          go_upto_region 20 with (at_mapUpdate; refine wpList_mapUpdate_own _ rfl _ _ _ 88 rfl 9 3 (string_keyed Tryd.underlying9) Tryd.underlying88 _ mb n _ rfl hown.out hnlt.out _ _ (keyB nm) rfl rfl hkey.out _ [] (plainElem_int Tryd.underlying3 hwf.out) ?_; intro w5 hown5 hgrow5; replace hown5 := Lib.hid hown5; replace hgrow5 := Lib.hid hgrow5)
          have k5 : ∀ (k : Nat) (c : Array Value) (T : TypeId) (fr : Nat × Nat), wc.heap[k]? = some (.cells c T fr) → w5.heap[k]? = some (.cells c T fr) := fun k c T fr h =>
            (hgrow5.out.block k (blk_lt h) (fun e => fl_map_ne hF2.out h (by cases e; rfl))).trans h
          have h5 := k5 _ _ _ _ hF2.out.head
          have hx5 := k5 _ _ _ _ hx2.out
          have hrow5 : w5.ownsRow base 48 6 nv n (flatv Nde.cells xs) := by
            refine ⟨by rw [hnl.out]; exact hF2.out.row.1, ?_⟩
            rcases hF2.out.row.2 with ⟨e1, e2⟩ | ⟨g, cap, cur, hv, hg, hh, hr⟩
            · exact .inl ⟨e1, by rw [hnl.out]; exact e2⟩
            · exact .inr ⟨g, cap, cur, by rw [hnl.out]; exact hv, hg, k5 _ _ _ _ hh, by rw [hnl.out]; exact hr⟩
          have hs5 := hgrow5.out.size
          clear f0 f1 y0 y5
          have f0 := blk_cell h5 0
          have y0 := blk_cell hx5 0
          have y1 := blk_cell hx5 1
          have y2 := blk_cell hx5 2
          have y3 := blk_cell hx5 3
          have y4 := blk_cell hx5 4
          have y5 := blk_cell hx5 5
          simp at f0 y0 y1 y2 y3 y4 y5
          have lf5 := blk_lt h5
          have lx5 := blk_lt hx5
          obtain ⟨i48, hi48, hz48, hz481, hz482⟩ := info_parts info48
          have hownA : ((w5.alloc (.cells (⟨nm, cp, po, pn, pc, ps⟩ : Nde).cells 48 (0, 0))).drew).ownsRow base 48 6 nv n (flatv Nde.cells xs) := hrow5.alloc (.cells (⟨nm, cp, po, pn, pc, ps⟩ : Nde).cells 48 (0, 0))
          have hnews : ∀ j u, (⟨nm, cp, po, pn, pc, ps⟩ : Nde).cells.toList[j]? = some u → ((w5.alloc (.cells (⟨nm, cp, po, pn, pc, ps⟩ : Nde).cells 48 (0, 0))).drew).cell? ((⟨w5.heap.size, 0, none⟩ : Addr).add j) = some u := nde_new w5 (⟨nm, cp, po, pn, pc, ps⟩ : Nde)
          have hone := nde_one (⟨nm, cp, po, pn, pc, ps⟩ : Nde)
          have h63 := maxLen_ge (n := n) (by omega)
          have hby : (n + 1) * 72 ≤ 140737488355328 := by omega
          have hbas : base ≤ ((w5.alloc (.cells (⟨nm, cp, po, pn, pc, ps⟩ : Nde).cells 48 (0, 0))).drew).heap.size := by
            have := hbs.out; have := hlow.out.size; have : wc.drew.heap.size = wc.heap.size := rfl
            show base ≤ (w5.alloc (.cells (⟨nm, cp, po, pn, pc, ps⟩ : Nde).cells 48 (0, 0))).heap.size
            rw [World.size_alloc]; omega
          have hfree : ∀ w9 : World, ((w5.alloc (.cells (⟨nm, cp, po, pn, pc, ps⟩ : Nde).cells 48 (0, 0))).drew).grownBy w9 nv.ownBlock → w9.heap[fb]? = some (.cells #[nv, .map (some mb)] 107 (0, 0)) := fun w9 hg => by
            refine (hg.block fb (by have := blk_lt h5; show fb < (w5.alloc (.cells (⟨nm, cp, po, pn, pc, ps⟩ : Nde).cells 48 (0, 0))).heap.size; rw [World.size_alloc]; omega) (fun e => ?_)).trans (blk_old (.cells (⟨nm, cp, po, pn, pc, ps⟩ : Nde).cells 48 (0, 0)) h5)
            obtain ⟨cur, hc⟩ := owns_block hrow5 e.symm
            rw [h5] at hc; simp at hc
          replace h5 := Lib.hid h5; replace hx5 := Lib.hid hx5; replace hrow5 := Lib.hid hrow5; replace hs5 := Lib.hid hs5; replace hownA := Lib.hid hownA; replace hnews := Lib.hid hnews; replace hone := Lib.hid hone; replace h63 := Lib.hid h63; replace hby := Lib.hid hby; replace hbas := Lib.hid hbas; replace hfree := Lib.hid hfree; replace k5 := Lib.hid k5
          simp only [Act.put]
          go_cut [] (fun wx => PtC base fb w5 (⟨nm, cp, po, pn, pc, ps⟩ : Nde) nv n xs wx)
          case first =>
            go_region_law
              (first
                | (refine step_append_own1 (by rfl) _ _ _ (by rfl) base 48 i48 _ 6 72 Tryd.underlying42 hi48 hz48 hz481 hz482 rfl six_pos nv n _ (by rfl) hownA.out ⟨w5.heap.size, 0, none⟩ 1 (⟨nm, cp, po, pn, pc, ps⟩ : Nde).cells.toList (by rfl) (by rfl) hnews.out hone.out h63.out hby.out hbas.out ?_
                   intro g9 cap9 w9 hown9 hgrow9
                   have q9 := hfree.out w9 hgrow9
                   have f9 := blk_cell q9 0
                   have z9 := blk_free q9 0
                   simp at f9
                   have l9 := blk_lt q9
                   replace q9 := Lib.hid q9; replace hown9 := Lib.hid hown9; replace hgrow9 := Lib.hid hgrow9))
            all_goals
              go_wp2_with fail
              go_meet
              exact ⟨_, w9, hown9.out, hgrow9.out, rfl⟩
          case rest =>
            obtain ⟨v1, w9, hown9, hgrow9, rfl⟩ := hcut.ex
            clear hcut
            have hFx := put_end hF2.out hnl.out hbf hbm hlo hgrow5.out hown5.out hgrow9 hown9 (hfree.out w9 hgrow9) (show Nde.ok wc ⟨nm, cp, po, pn, pc, ps⟩ from ⟨hps.out, hx.out.ple⟩) (fun b off e => by
              obtain ⟨c, hc⟩ := hp.out b off e
              exact ⟨c, blk_below hlow.out hc (blk_lt hc)⟩) hbs.out hlow.out
            have hF9 := hFx.1
            have hK9 := hFx.2
            replace hF9 := Lib.hid hF9; replace hK9 := Lib.hid hK9; replace hown9 := Lib.hid hown9; replace hgrow9 := Lib.hid hgrow9; replace hFx := Lib.hid hFx
            go_wp2
            try rw [Exit.noGoto_ret]
            go_ret
            all_goals first
              | exact ⟨rfl, ⟨v1, hF9.out⟩, hK9.out⟩
              | exact absurd hE.out (by assumption)
end Go.Proofs.YteoihdkaoipocaaDoor

/- corveeref05.Read: the fleet of a text. -/
import Derived.Test.YteoihdkaoipocaaDoorRnd
namespace Go.Proofs.YteoihdkaoipocaaDoor
open Go.RowKit Go.Maps Go.Shelf

theorem said_app (a b : List (List UInt8)) (n : Nat) : said n (a ++ b) = said n a ++ said (n + a.length) b := by
  induction a generalizing n with
  | nil => simp [said]
  | cons p a ih =>
    simp only [List.cons_append, said, List.length_cons]
    rw [ih, show n + 1 + a.length = n + (a.length + 1) by omega]
    split <;> simp
theorem said_step {ls : List (List UInt8)} {k : Nat} {p : List UInt8} (h : ls[k]? = some p) : said 0 (ls.take (k + 1)) = said 0 (ls.take k) ++ (if saysB p = true then [(((k : Int) + 1), ofL p)] else []) := by
  have hk := (List.getElem?_eq_some_iff.1 h).1
  rw [take_step h, said_app, List.length_take, Nat.min_eq_left (by omega), Nat.zero_add]
  simp only [said]
theorem said_cut (ls : List (List UInt8)) (k : Nat) : said 0 ls = said 0 (ls.take k) ++ said (0 + (ls.take k).length) (ls.drop k) := by
  rw [← said_app, List.take_append_drop]
/-- the nodes read of the first k lines -/
def rdK (s : ByteArray) (k : Nat) : List Ndv × Int × Int := readTo [] (said 0 ((cutAll 10 s.data.toList).take k))
theorem rdK_stop {s : ByteArray} {k : Nat} (h : (rdK s k).2.1 ≠ 0) : readTo [] (linesOf s) = rdK s k := by
  unfold linesOf
  rw [said_cut _ k, readTo_stop _ _ _ h]; rfl
theorem rdK_end {s : ByteArray} {k : Nat} (h : (cutAll 10 s.data.toList).length ≤ k) : readTo [] (linesOf s) = rdK s k := by
  unfold linesOf rdK
  rw [List.take_of_length_le h]
theorem rdK_skip {s : ByteArray} {k : Nat} {p : List UInt8} (h : (cutAll 10 s.data.toList)[k]? = some p) (hs : saysB p = false) : rdK s (k + 1) = rdK s k := by
  unfold rdK
  rw [said_step h, if_neg (by rw [hs]; simp), List.append_nil]
theorem rdK_line {s : ByteArray} {k : Nat} {p : List UInt8} (h : (cutAll 10 s.data.toList)[k]? = some p) (hs : saysB p = true) (h0 : (rdK s k).2.1 = 0) : rdK s (k + 1) = readTo (rdK s k).1 [(((k : Int) + 1), ofL p)] := by
  unfold rdK at h0 ⊢
  rw [said_step h, if_pos hs, readTo_app _ _ _ h0]
structure RrW (w : World) (b : Nat) (ls : List ByteArray) (vs : List Ndv) (nv : Value) (xs : List Nde) (W : World) : Prop where
  low : Below w.heap.size w W
  res : W.heap[w.heap.size]? = some (.cells #[.slice none 0 0] 44 (0, 0))
  f : W.heap[w.heap.size + 1]? = some (.cells #[nv] 44 (0, 0))
  row : FlR W (w.heap.size + 2) nv xs
  pls : xs.map Nde.pl = vs
  po : ∀ x, x ∈ xs → ∀ b off, x.po = some ⟨b, off, none⟩ → w.heap.size + 2 ≤ b
  strs : StrsAt W (some ⟨b, 0, none⟩) ls.length ls
  blk : ∃ c, W.heap[b]? = some (.cells c 9 (0, 0))
  bge : w.heap.size + 2 ≤ b
theorem RrW.below {w W W' : World} {b : Nat} {ls : List ByteArray} {vs : List Ndv} {nv : Value} {xs : List Nde} (h : RrW w b ls vs nv xs W) (hb : Below W.heap.size W W') : RrW w b ls vs nv xs W' := by
  obtain ⟨c, hc⟩ := h.blk
  exact ⟨h.low.trans (hb.mono h.low.size), blk_below hb h.res (blk_lt h.res), blk_below hb h.f (blk_lt h.f), h.row.below hb, h.pls, h.po, h.strs.low hb, ⟨c, blk_below hb hc (blk_lt hc)⟩, h.bge⟩
def RreadPost (s : ByteArray) (w : World) (e : Ending) (w' : World) : Prop :=
  ∃ nv xs, e = .returned (.tuple #[.agg #[nv], .int .i64 (readOf s).2.1, .int .i64 (readOf s).2.2]) ∧ Below w.heap.size w w' ∧ FlR w' w.heap.size nv xs ∧ ((readOf s).2.1 = 0 → xs.map Nde.pl = (readOf s).1)
theorem flr_nil (w : World) (B : Nat) : FlR w B (.slice none 0 0) [] := ⟨⟨rfl, .inl ⟨rfl, rfl⟩⟩, fun x h => (by cases h)⟩
theorem flr_set {W : World} {B b o : Nat} {nv v : Value} {xs : List Nde} {c : Array Value} {T : TypeId} {fr : Nat × Nat} (h : FlR W B nv xs) (hb : W.heap[b]? = some (.cells c T fr)) (h48 : T ≠ 48) (h9 : T ≠ 9) : FlR (W.setCell ⟨b, o, none⟩ v) B nv xs := by
  have key : ∀ (k : Nat) (c' : Array Value) (T' : TypeId) (fr' : Nat × Nat), T' ≠ T → W.heap[k]? = some (.cells c' T' fr') → (W.setCell ⟨b, o, none⟩ v).heap[k]? = some (.cells c' T' fr') := fun k c' T' fr' hne hk =>
    blk_set_other (fun e => by rw [e, hb] at hk; injection hk with hk; injection hk with _ hk; exact hne hk.symm) _ hk
  refine ⟨⟨h.row.1, ?_⟩, fun x hx => ?_⟩
  · rcases h.row.2 with h | ⟨g, cap, cur, hv, hgb, hh, hr⟩
    · exact .inl h
    · exact .inr ⟨g, cap, cur, hv, hgb, key _ _ _ _ (fun e => h48 e.symm) hh, hr⟩
  · have hk : ∀ b' off, x.po = some ⟨b', off, none⟩ → ∃ c, W.heap[b']? = some (.cells c 9 (0, 0)) ∧ (W.setCell ⟨b, o, none⟩ v).heap[b']? = some (.cells c 9 (0, 0)) := fun b' off e => by
      obtain ⟨c, hc⟩ := (h.ok x hx).2 b' off e
      exact ⟨c, hc, key _ _ _ _ (fun e => h9 e.symm) hc⟩
    refine ⟨⟨strs_keep (h.ok x hx).1.parts (by simp [World.setCell]) fun b' off e _ => ?_, (h.ok x hx).1.ple⟩, fun b' off e => ?_⟩
    · obtain ⟨c, h1, h2⟩ := hk b' off e
      rw [h1, h2]
    · obtain ⟨c, _, h2⟩ := hk b' off e
      exact ⟨c, h2⟩
theorem flr_mono {w : World} {B B' : Nat} {nv : Value} {xs : List Nde} (h : FlR w B nv xs) (hb : B' ≤ B) : FlR w B' nv xs := ⟨owns_mono h.row hb, h.ok⟩
theorem rread_long (s : ByteArray) (w : World) (hs : 4096 < s.size) : Calls Tryd.prog 31 #[.string s] w (RreadPost s w) := by
  have hr : readOf s = ([], 2, 0) := if_pos hs
  have d1 : decide ((4096 : Int) < s.size) = true := decide_eq_true (by omega)
  have d1' : decide (4096 < s.size) = true := decide_eq_true (by omega)
  replace hr := Lib.hid hr
  go_enter Tryd.func31, Tryd.ntmps31
  go_wp2
  refine bodyPost_ret (v := .tuple #[.agg #[.slice none 0 0], .int .i64 2, .int .i64 0]) (by simp [results, Tryd.results31, go_sem]) rfl ?_
  refine ⟨.slice none 0 0, [], by rw [hr.out], ?_, flr_nil _ _, fun h => by rw [hr.out] at h; cases h⟩
  exact ((Below.refl _ _).alloc (Nat.le_refl _) _).alloc (by simp) _
theorem idxN_ge {ns : List ByteArray} {s : ByteArray} (h : s ∈ ns) (k : Nat) : 0 ≤ idxN ns s k := by
  induction ns generalizing k with
  | nil => cases h
  | cons n ns ih =>
    simp only [idxN]
    split
    · omega
    · next hne =>
      refine ih ?_ _
      rcases List.mem_cons.1 h with h | h
      · exact absurd h.symm hne
      · exact h
theorem rr_put {w W4 w9 : World} {b m : Nat} {ls : List ByteArray} {vs : List Ndv} {nv v1 : Value} {xs : List Nde} {x : Nde} (h : RrW w b ls vs nv xs W4) (hx : x.ok W4) (hp : PartsAt W4 x) (hpo : ∀ b off, x.po = some ⟨b, off, none⟩ → w.heap.size + 2 ≤ b) (hm : m = xs.length)
    (hg : (W4.alloc (.cells x.cells 48 (0, 0))).grownBy w9 nv.ownBlock) (ho : w9.ownsRow (w.heap.size + 2) 48 6 v1 (m + 1) (flatv Nde.cells xs ++ x.cells.toList)) : RrW w b ls (vs ++ [x.pl]) v1 (xs ++ [x]) (w9.setCell ⟨w.heap.size + 1, 0, none⟩ v1) := by
  have hs9 : W4.heap.size + 1 ≤ w9.heap.size := by have := hg.size; rwa [World.size_alloc] at this
  have hown : ∀ k, nv.ownBlock = some k → w.heap.size + 2 ≤ k ∧ ∃ cur, W4.heap[k]? = some (.cells cur 48 (0, 0)) := fun k e => ⟨(h.row.row.lt k e).1, owns_block h.row.row e⟩
  have key9 : ∀ (k : Nat) (c : Array Value) (T : TypeId) (fr : Nat × Nat), T ≠ 48 → W4.heap[k]? = some (.cells c T fr) → w9.heap[k]? = some (.cells c T fr) := fun k c T fr hT hk =>
    (hg.block k (by have := blk_lt hk; rw [World.size_alloc]; omega) (fun e => by
      obtain ⟨_, cur, e2⟩ := hown k e.symm
      rw [hk] at e2
      injection e2 with e2
      injection e2 with _ e2
      exact hT e2)).trans (blk_old _ hk)
  have hf9 := key9 _ _ _ _ (by decide) h.f
  have key : ∀ (k : Nat) (c : Array Value) (T : TypeId) (fr : Nat × Nat), T ≠ 48 → k ≠ w.heap.size + 1 → W4.heap[k]? = some (.cells c T fr) → (w9.setCell ⟨w.heap.size + 1, 0, none⟩ v1).heap[k]? = some (.cells c T fr) := fun k c T fr hT hne hk => blk_set_other hne _ (key9 k c T fr hT hk)
  have hsz : W4.heap.size ≤ (w9.setCell ⟨w.heap.size + 1, 0, none⟩ v1).heap.size := by
    have : (w9.setCell ⟨w.heap.size + 1, 0, none⟩ v1).heap.size = w9.heap.size := by simp [World.setCell]
    omega
  have hpart : ∀ y : Nde, y.ok W4 → PartsAt W4 y → (∀ b off, y.po = some ⟨b, off, none⟩ → w.heap.size + 2 ≤ b) → y.ok (w9.setCell ⟨w.heap.size + 1, 0, none⟩ v1) ∧ PartsAt (w9.setCell ⟨w.heap.size + 1, 0, none⟩ v1) y := fun y hy hyp hyb => by
    have k2 : ∀ b off, y.po = some ⟨b, off, none⟩ → ∃ c, W4.heap[b]? = some (.cells c 9 (0, 0)) ∧ (w9.setCell ⟨w.heap.size + 1, 0, none⟩ v1).heap[b]? = some (.cells c 9 (0, 0)) := fun b off e => by
      obtain ⟨c, hc⟩ := hyp b off e
      have := hyb b off e
      exact ⟨c, hc, key b _ _ _ (by decide) (by omega) hc⟩
    refine ⟨⟨strs_keep hy.parts hsz fun b off e _ => ?_, hy.ple⟩, fun b off e => ?_⟩
    · obtain ⟨c, h1, h2⟩ := k2 b off e
      rw [h1, h2]
    · obtain ⟨c, _, h2⟩ := k2 b off e
      exact ⟨c, h2⟩
  have hlow9 : Below w.heap.size w w9 := (h.low.alloc h.low.size _).grown hg (by have := h.low.size; rw [World.size_alloc]; omega) (fun k e => by have := (hown k e).1; omega)
  obtain ⟨c, hc⟩ := h.blk
  have hbk := key b _ _ _ (by decide) (by have := h.bge; omega) hc
  refine ⟨hlow9.setCell (Nat.le_succ _) _, key _ _ _ _ (by decide) (by omega) h.res, by rw [blk_set hf9]; rfl, ⟨?_, fun y hy => ?_⟩, by rw [List.map_append, h.pls]; rfl, fun y hy => ?_, ?_, ⟨c, hbk⟩, h.bge⟩
  · rw [flatv_append, flatv_one, List.length_append, ← hm]
    exact owns_setT ho hf9 (by decide) 0 v1
  · rcases List.mem_append.1 hy with hh | hh
    · exact hpart y (h.row.ok y hh).1 (h.row.ok y hh).2 (h.po y hh)
    · have : y = x := by simpa using hh
      subst this
      exact hpart y hx hp hpo
  · rcases List.mem_append.1 hy with hh | hh
    · exact h.po y hh
    · have : y = x := by simpa using hh
      subst this
      exact hpo
  · exact strs_keep h.strs hsz fun b' off e _ => by cases e; rw [hbk, hc]
set_option maxRecDepth 100000 in
set_option maxHeartbeats 6400000 in
theorem rread_short (s : ByteArray) (w : World) (hs : ¬ 4096 < s.size) : Calls Tryd.prog 31 #[.string s] w (RreadPost s w) := by
  have hr : readOf s = readTo [] (linesOf s) := if_neg hs
  have d1 : decide ((4096 : Int) < s.size) = false := decide_eq_false (by omega)
  have d1' : decide (4096 < s.size) = false := decide_eq_false (by omega)
  obtain ⟨i48, hi48, hz48, hz481, hz482⟩ := info_parts info48
  obtain ⟨W0, hW0⟩ : ∃ W0, W0 = (w.alloc (.cells #[.slice none 0 0] 44 (0, 0))).alloc (.cells #[.slice none 0 0] 44 (0, 0)) := ⟨_, rfl⟩
  have hb0 : Below w.heap.size w W0 := by rw [hW0]; exact ((Below.refl _ _).alloc (Nat.le_refl _) _).alloc (by simp) _
  have hr0 : W0.heap[w.heap.size]? = some (.cells #[.slice none 0 0] 44 (0, 0)) := by rw [hW0]; exact blk_old _ (blk_new _ _)
  have hr1 : W0.heap[w.heap.size + 1]? = some (.cells #[.slice none 0 0] 44 (0, 0)) := by rw [hW0]; exact blk_at _ _ (by simp)
  have hz0 : W0.heap.size = w.heap.size + 2 := by rw [hW0]; simp
  have hct := rcut_any s 10 W0 (by omega)
  have h10 : (((10 : UInt8).toNat : Nat) : Int) = 10 := rfl
  rw [h10] at hct
  clear h10
  rw [hW0] at hct
  have hW0' := Lib.hid hW0
  clear hW0
  replace hb0 := Lib.hid hb0; replace hr0 := Lib.hid hr0; replace hr1 := Lib.hid hr1; replace hct := Lib.hid hct; replace hr := Lib.hid hr; replace hz0 := Lib.hid hz0
  go_enter Tryd.func31, Tryd.ntmps31
  go_wp2_with fail
  refine hct.out.mono ?_
  rintro e w1 ⟨so, n, c, rfl, hnc, hst, hsob, hb1⟩
  rw [← hW0'.out] at hb1 hsob
  have hlen := hst.len
  have hpos : 1 ≤ n := by rw [← hlen, List.length_map]; exact cutAll_pos _ _
  obtain ⟨y0, hy0⟩ := hst.get (i := 0) (by omega)
  obtain ⟨b, off, rfl, hbl, _⟩ := hst.cell 0 y0 hy0
  obtain ⟨rfl, hbge, hblk⟩ := hsob b off rfl
  have hlow1 : Below w.heap.size w w1 := hb0.out.trans (hb1.mono hb0.out.size)
  have hmx := hst.max
  have hR0 : RrW w b ((cutAll 10 s.data.toList).map ofL) (rdK s 0).1 (.slice none 0 0) [] w1 :=
    ⟨hlow1, blk_below hb1 hr0.out (blk_lt hr0.out), blk_below hb1 hr1.out (blk_lt hr1.out), flr_nil _ _, rfl, fun x h => (by cases h), by rw [hlen]; exact hst, hblk, by have := hz0.out; omega⟩
  replace hst := Lib.hid hst; replace hsob := Lib.hid hsob; replace hb1 := Lib.hid hb1; replace hlen := Lib.hid hlen; replace hlow1 := Lib.hid hlow1; replace hblk := Lib.hid hblk; replace hy0 := Lib.hid hy0; replace hR0 := Lib.hid hR0
  go_wp2
  go_loopw [7, 8, 9] (fun i _ _ wr => ∃ (k : Nat) (nv : Value) (xs : List Nde), i = .int .i64 k ∧ k ≤ n ∧ Hid ((rdK s k).2.1 = 0) ∧ Hid (RrW w b ((cutAll 10 s.data.toList).map ofL) (rdK s k).1 nv xs wr)) (fun i _ _ _ => n - (intOf i).toNat)
  case atStart => exact ⟨0, .slice none 0 0, [], rfl, by omega, rfl, hR0.out⟩
  case round =>
    obtain ⟨k, nv, xs, rfl, hk, hok, hM⟩ := hrel
    by_cases hc : k < n
    · have hc1 : (k : Int) < n := by omega
      have hk0 : (0 : Int) ≤ (k : Int) := by omega
      have hln := hlen.out
      rw [List.length_map] at hln
      obtain ⟨p, hp⟩ : ∃ p, (cutAll 10 s.data.toList)[k]? = some p := ⟨_, List.getElem?_eq_getElem (by omega)⟩
      have hpm : ((cutAll 10 s.data.toList).map ofL)[k]? = some (ofL p) := by rw [List.getElem?_map, hp]; rfl
      obtain ⟨b', off', e', hlt, a0⟩ := hM.out.strs.cell k _ hpm
      cases e'
      rw [Nat.zero_add] at a0
      have hps : p.length ≤ s.size := by have := cutAll_le (List.mem_of_getElem? hp); rw [← toL_len s]; exact this
      replace hln := Lib.hid hln; replace hp := Lib.hid hp; replace hpm := Lib.hid hpm
      by_cases hpe : p = []
      · have hsy : saysB p = false := by rw [hpe]; rfl
        have em : (ofL p).toList.isEmpty = true := by rw [ofL_emp, hpe]; rfl
        replace hsy := Lib.hid hsy; replace hpe := Lib.hid hpe
        have hR2 : RrW w b ((cutAll 10 s.data.toList).map ofL) (rdK s (k + 1)).1 nv xs wr := by rw [rdK_skip hp.out hsy.out]; exact hM.out
        have hok2 : (rdK s (k + 1)).2.1 = 0 := by rw [rdK_skip hp.out hsy.out]; exact hok.out
        replace hR2 := Lib.hid hR2; replace hok2 := Lib.hid hok2
        go_wp2
        go_roundw
        case rel => exact ⟨k + 1, nv, xs, by go_num, by omega, hok2.out, hR2.out⟩
        case measure => simp [intOf]; omega
      obtain ⟨x, hx⟩ : ∃ x, x = chz (ofL p) 0 := ⟨_, rfl⟩
      have hpl : 0 < p.length := List.length_pos_iff.2 hpe
      have em : (ofL p).toList.isEmpty = false := by rw [ofL_emp]; cases p with | nil => exact absurd rfl hpe | cons c a => rfl
      have hi0 : ∀ w, (Instr.index 9 (.string (ofL p)) (.int .i64 0)).run Tryd.prog w = .ok (.int .u8 x) w := fun w => by
        rw [hx]; exact index_at Tryd.underlying9 (ofL p) 0 0 rfl (by rw [ofL_size]; exact hpl) w
      have hsy0 : saysB p = decide (x ≠ 35) := by
        rw [hx]
        cases p with
        | nil => exact absurd rfl hpe
        | cons c a =>
          have hch : chz (ofL (c :: a)) 0 = (c.toNat : Int) := by unfold chz; rw [ofL_toL]; rfl
          rw [hch]
          unfold saysB
          refine decide_eq_decide.2 (not_congr ⟨fun h => by rw [h]; rfl, fun h => UInt8.toNat_inj.1 (by have : (35 : UInt8).toNat = 35 := rfl; omega)⟩)
      have hi0' := Lib.hid hi0
      clear hi0
      replace hpe := Lib.hid hpe; replace hx := Lib.hid hx; replace hpl := Lib.hid hpl
      by_cases h35 : x = 35
      · have hsy : saysB p = false := by rw [hsy0, decide_eq_false (by simp [h35])]
        have d35 : (x == 35) = true := by simp [h35]
        have hi0 := hi0'.out
        replace hsy := Lib.hid hsy; replace h35 := Lib.hid h35; replace hsy0 := Lib.hid hsy0
        have hR2 : RrW w b ((cutAll 10 s.data.toList).map ofL) (rdK s (k + 1)).1 nv xs wr := by rw [rdK_skip hp.out hsy.out]; exact hM.out
        have hok2 : (rdK s (k + 1)).2.1 = 0 := by rw [rdK_skip hp.out hsy.out]; exact hok.out
        replace hR2 := Lib.hid hR2; replace hok2 := Lib.hid hok2
        go_wp2
        go_roundw
        case rel => exact ⟨k + 1, nv, xs, by go_num, by omega, hok2.out, hR2.out⟩
        case measure => simp [intOf]; omega
      have hsy : saysB p = true := by rw [hsy0, decide_eq_true h35]
      have d35 : (x == 35) = false := by simp [h35]
      have hi0 := hi0'.out
      have hline := rdK_line hp.out hsy hok.out
      have hnode := rnode_any (ofL p) wr (by rw [ofL_size]; omega)
      replace hsy := Lib.hid hsy; replace h35 := Lib.hid h35; replace hsy0 := Lib.hid hsy0; replace hline := Lib.hid hline; replace hnode := Lib.hid hnode
      go_wp2_with fail
      refine hnode.out.mono ?_
      rintro e w2 ⟨x5, r, rfl, hxok, hlow, hpo, hcase⟩
      have hM2 := hM.out.below hlow
      clear hi0
      have hgood : FltOk (rdK s k).1 := readTo_good _ _ fltOk_nil
      rcases hcase with ⟨hnone, rfl, rfl⟩ | ⟨hsome, rfl⟩
      · have hl2 : rdK s (k + 1) = ((rdK s k).1, 50, (k : Int) + 1) := by rw [hline.out, readTo_bad hnone]
        have hfin : readOf s = ((rdK s k).1, 50, (k : Int) + 1) := by rw [hr.out, rdK_stop (k := k + 1) (by rw [hl2]; show (50 : Int) ≠ 0; decide), hl2]
        have r0 : w2.cell? ⟨w.heap.size, 0, none⟩ = some (.slice none 0 0) := blk_cell hM2.res 0
        have fr := blk_free hM2.res
        have hlt2 := blk_lt hM2.res
        have hlowE : Below w.heap.size w ((w2.setCell ⟨w.heap.size, 0, none⟩ (.slice none 0 0)).alloc (.cells Nde.zero.cells 48 (0, 0))) := (hM2.low.setCell (Nat.le_refl _) _).alloc (hM2.low.setCell (Nat.le_refl _) _).size _
        have rE : ((w2.setCell ⟨w.heap.size, 0, none⟩ (.slice none 0 0)).alloc (.cells Nde.zero.cells 48 (0, 0))).cell? ⟨w.heap.size, 0, none⟩ = some (.slice none 0 0) := blk_cell (blk_old _ (blk_set hM2.res 0 (.slice none 0 0))) 0
        have rE' := Lib.hid rE
        clear rE
        replace hM2 := Lib.hid hM2; replace hlow := Lib.hid hlow; replace hpo := Lib.hid hpo; replace hxok := Lib.hid hxok; replace hnone := Lib.hid hnone; replace hl2 := Lib.hid hl2; replace hfin := Lib.hid hfin; replace hgood := Lib.hid hgood; replace hlowE := Lib.hid hlowE
        go_wp2
        try rw [Exit.noGoto_ret]
        have rE := rE'.out
        refine bodyPost_ret (v := .tuple #[.agg #[.slice none 0 0], .int .i64 50, .int .i64 ((k : Int) + 1)]) (by simp [results, Tryd.results31, go_sem, rE]) rfl ?_
        refine ⟨.slice none 0 0, [], by rw [hfin.out], hlowE.out, flr_nil _ _, fun h => ?_⟩
        rw [hfin.out] at h
        exact absurd h (by show (50 : Int) ≠ 0; decide)
      · have hxln : xs.length ≤ 16 := by have := hgood.len; rw [← hM2.pls, List.length_map] at this; exact this
        have hnames : xs.map Nde.name = (rdK s k).1.map Ndv.name := by rw [← hM2.pls, List.map_map]; rfl
        have hxsl : xs.length = (rdK s k).1.length := by rw [← hM2.pls, List.length_map]
        obtain ⟨W3, hW3⟩ : ∃ W3, W3 = w2.alloc (.cells x5.cells 48 (0, 0)) := ⟨_, rfl⟩
        have hlow3 : Below w2.heap.size w2 W3 := by rw [hW3]; exact (Below.refl _ _).alloc (Nat.le_refl _) _
        have hM3 := hM2.below hlow3
        have hok3 := hxok.low hlow3
        have hpa3 : PartsAt W3 x5 := fun b off e => by
          obtain ⟨_, c, hc⟩ := hpo b off e
          exact ⟨c, blk_below hlow3 hc (blk_lt hc)⟩
        have hpo2 : ∀ b off, x5.po = some ⟨b, off, none⟩ → w.heap.size + 2 ≤ b := fun b off e => by
          have := (hpo b off e).1
          have := hM.out.low.size
          have := blk_lt hM.out.f
          omega
        have hpn := hok3.parts.len
        have hxb : W3.heap[w2.heap.size]? = some (.cells x5.cells 48 (0, 0)) := by rw [hW3]; exact blk_new _ _
        have hidx := ridx_any W3 (w.heap.size + 2) nv xs x5.name hM3.row (by omega)
        have f1 : W3.cell? ⟨w.heap.size + 1, 0, none⟩ = some nv := blk_cell hM3.f 0
        have z0 : W3.cell? ⟨w2.heap.size, 0, none⟩ = some (.string x5.name) := blk_cell hxb 0
        obtain ⟨E, hE⟩ : ∃ E, E = putE ((rdK s k).1.map Ndv.name) (rdK s k).1.length x5.name x5.parts := ⟨_, rfl⟩
        have hstop : E ≠ 0 → readOf s = ((rdK s k).1, E, (k : Int) + 1) := fun hne => by
          have hl2 : rdK s (k + 1) = ((rdK s k).1, E, (k : Int) + 1) := by
            rw [hline.out, readTo_not hsome (by rw [hE] at hne; exact hne), hE]; rfl
          rw [hr.out, rdK_stop (k := k + 1) (by rw [hl2]; exact hne), hl2]
        obtain ⟨I, hI⟩ : ∃ I, I = idxN (xs.map Nde.name) x5.name 0 := ⟨_, rfl⟩
        rw [← hI] at hidx
        obtain ⟨nm, ⟨ca, cb, cc, cd⟩, po, pn, pc, ps⟩ := x5
        rw [hW3] at hidx f1 z0
        have hW3' := Lib.hid hW3
        clear hW3
        replace hM2 := Lib.hid hM2; replace hlow := Lib.hid hlow; replace hpo := Lib.hid hpo; replace hxok := Lib.hid hxok; replace hgood := Lib.hid hgood; replace hxsl := Lib.hid hxsl; replace hnames := Lib.hid hnames; replace hlow3 := Lib.hid hlow3; replace hM3 := Lib.hid hM3; replace hok3 := Lib.hid hok3; replace hpa3 := Lib.hid hpa3; replace hpo2 := Lib.hid hpo2; replace hxb := Lib.hid hxb; replace hidx := Lib.hid hidx; replace hE := Lib.hid hE; replace hstop := Lib.hid hstop; replace hI := Lib.hid hI; replace hsome := Lib.hid hsome; replace hpn := Lib.hid hpn
        go_wp2_with fail
        refine hidx.out.mono ?_
        rintro e w4 ⟨rfl, hb4⟩
        rw [← hW3'.out] at hb4
        have hM4 := hM3.out.below hb4
        have r0 : w4.cell? ⟨w.heap.size, 0, none⟩ = some (.slice none 0 0) := blk_cell hM4.res 0
        have fr := blk_free hM4.res
        clear f1 z0
        by_cases hmem : nm ∈ xs.map Nde.name
        · have hI0 : 0 ≤ I := by rw [hI.out]; exact idxN_ge hmem 0
          have dI : decide (0 ≤ I) = true := decide_eq_true hI0
          have hE51 : E = 51 := by rw [hE.out]; unfold putE; rw [if_pos (memB_iff.2 (by rw [← hnames.out]; exact hmem))]
          have hfin := hstop.out (by rw [hE51]; decide)
          rw [hE51] at hfin
          have hlowE : Below w.heap.size w (w4.setCell ⟨w.heap.size, 0, none⟩ (.slice none 0 0)) := hM4.low.setCell (Nat.le_refl _) _
          replace hM4 := Lib.hid hM4; replace hb4 := Lib.hid hb4; replace hmem := Lib.hid hmem; replace hE51 := Lib.hid hE51; replace hfin := Lib.hid hfin; replace hlowE := Lib.hid hlowE; replace hI0 := Lib.hid hI0
          go_wp2
          try rw [Exit.noGoto_ret]
          refine bodyPost_ret (v := .tuple #[.agg #[.slice none 0 0], .int .i64 51, .int .i64 ((k : Int) + 1)]) (by simp [results, Tryd.results31, go_sem, r0]) rfl ?_
          refine ⟨.slice none 0 0, [], by rw [hfin.out], hlowE.out, flr_nil _ _, fun h => ?_⟩
          rw [hfin.out] at h
          exact absurd h (by show (51 : Int) ≠ 0; decide)
        have hI1 : I = -1 := by rw [hI.out]; exact idxN_no hmem 0
        have dI : decide ((0 : Int) ≤ -1) = false := by decide
        rw [hI1]
        have hxb4 := blk_below hb4 hxb.out (blk_lt hxb.out)
        have z5 : w4.cell? ⟨w2.heap.size, 5, none⟩ = some (.slice po pn pc) := blk_cell hxb4 5
        have htw := twice_any po pn pc ps w4 (hok3.out.low hb4).parts
        obtain ⟨T, hT⟩ : ∃ T, T = twiceL ps := ⟨_, rfl⟩
        unfold TwicePost at htw
        rw [← hT] at htw
        replace hM4 := Lib.hid hM4; replace hb4 := Lib.hid hb4; replace hmem := Lib.hid hmem; replace hI1 := Lib.hid hI1; replace hxb4 := Lib.hid hxb4; replace htw := Lib.hid htw; replace hT := Lib.hid hT
        go_wp2_with fail
        refine htw.out.mono ?_
        rintro e w5 ⟨rfl, hb5⟩
        have hM5 := hM4.out.below hb5
        have hxb5 := blk_below hb5 hxb4.out (blk_lt hxb4.out)
        clear r0 fr z5
        have r0 : w5.cell? ⟨w.heap.size, 0, none⟩ = some (.slice none 0 0) := blk_cell hM5.res 0
        have f1 : w5.cell? ⟨w.heap.size + 1, 0, none⟩ = some nv := blk_cell hM5.f 0
        have z0 : w5.cell? ⟨w2.heap.size, 0, none⟩ = some (.string nm) := blk_cell hxb5 0
        have z1 : w5.cell? ⟨w2.heap.size, 1, none⟩ = some (.int .i64 ca) := blk_cell hxb5 1
        have z2 : w5.cell? ⟨w2.heap.size, 2, none⟩ = some (.int .i64 cb) := blk_cell hxb5 2
        have z3 : w5.cell? ⟨w2.heap.size, 3, none⟩ = some (.int .i64 cc) := blk_cell hxb5 3
        have z4 : w5.cell? ⟨w2.heap.size, 4, none⟩ = some (.int .i64 cd) := blk_cell hxb5 4
        have z5 : w5.cell? ⟨w2.heap.size, 5, none⟩ = some (.slice po pn pc) := blk_cell hxb5 5
        have fr := blk_free hM5.res
        have ff := blk_free hM5.f
        have hnm : ¬ memB ((rdK s k).1.map Ndv.name) nm = true := fun c => hmem.out (by rw [hnames.out]; exact memB_iff.1 c)
        have hlowE : Below w.heap.size w (w5.setCell ⟨w.heap.size, 0, none⟩ (.slice none 0 0)) := hM5.low.setCell (Nat.le_refl _) _
        cases T with
        | true =>
          have hE51 : E = 51 := by rw [hE.out]; unfold putE; rw [if_neg hnm, if_pos hT.out.symm]
          have hfin := hstop.out (by rw [hE51]; decide)
          rw [hE51] at hfin
          replace hM5 := Lib.hid hM5; replace hb5 := Lib.hid hb5; replace hxb5 := Lib.hid hxb5; replace hE51 := Lib.hid hE51; replace hfin := Lib.hid hfin; replace hlowE := Lib.hid hlowE; replace hnm := Lib.hid hnm
          go_wp2
          try rw [Exit.noGoto_ret]
          refine bodyPost_ret (v := .tuple #[.agg #[.slice none 0 0], .int .i64 51, .int .i64 ((k : Int) + 1)]) (by simp [results, Tryd.results31, go_sem, r0]) rfl ?_
          refine ⟨.slice none 0 0, [], by rw [hfin.out], hlowE.out, flr_nil _ _, fun h => ?_⟩
          rw [hfin.out] at h
          exact absurd h (by show (51 : Int) ≠ 0; decide)
        | false =>
          have hln5 := flr_len hM5.row
          obtain ⟨m, hm⟩ : ∃ m, m = xs.length := ⟨_, rfl⟩
          rw [← hm] at hln5
          by_cases q1 : 16 ≤ m
          · have d5 : decide ((16 : Int) ≤ m) = true := decide_eq_true (by omega)
            have d5' : decide (16 ≤ m) = true := decide_eq_true q1
            have hE2 : E = 2 := by rw [hE.out]; unfold putE; rw [if_neg hnm, if_neg (by rw [← hT.out]; simp), if_pos (.inl (by rw [← hxsl.out, ← hm]; exact q1))]
            have hfin := hstop.out (by rw [hE2]; decide)
            rw [hE2] at hfin
            replace hM5 := Lib.hid hM5; replace hb5 := Lib.hid hb5; replace hxb5 := Lib.hid hxb5; replace hE2 := Lib.hid hE2; replace hfin := Lib.hid hfin; replace hlowE := Lib.hid hlowE; replace hnm := Lib.hid hnm; replace hm := Lib.hid hm
            go_wp2
            try rw [Exit.noGoto_ret]
            refine bodyPost_ret (v := .tuple #[.agg #[.slice none 0 0], .int .i64 2, .int .i64 ((k : Int) + 1)]) (by simp [results, Tryd.results31, go_sem, r0]) rfl ?_
            refine ⟨.slice none 0 0, [], by rw [hfin.out], hlowE.out, flr_nil _ _, fun h => ?_⟩
            rw [hfin.out] at h
            exact absurd h (by show (2 : Int) ≠ 0; decide)
          have d5 : decide ((16 : Int) ≤ m) = false := decide_eq_false (by omega)
          have d5' : decide (16 ≤ m) = false := decide_eq_false q1
          by_cases q2 : 8 < pn
          · have d6 : decide ((8 : Int) < pn) = true := decide_eq_true (by omega)
            have d6' : decide (8 < pn) = true := decide_eq_true q2
            have hE2 : E = 2 := by rw [hE.out]; unfold putE; rw [if_neg hnm, if_neg (by rw [← hT.out]; simp), if_pos (.inr (by have : ps.length = pn := hpn.out; show 8 < ps.length; omega))]
            have hfin := hstop.out (by rw [hE2]; decide)
            rw [hE2] at hfin
            replace hM5 := Lib.hid hM5; replace hb5 := Lib.hid hb5; replace hxb5 := Lib.hid hxb5; replace hE2 := Lib.hid hE2; replace hfin := Lib.hid hfin; replace hlowE := Lib.hid hlowE; replace hnm := Lib.hid hnm; replace hm := Lib.hid hm
            go_wp2
            try rw [Exit.noGoto_ret]
            refine bodyPost_ret (v := .tuple #[.agg #[.slice none 0 0], .int .i64 2, .int .i64 ((k : Int) + 1)]) (by simp [results, Tryd.results31, go_sem, r0]) rfl ?_
            refine ⟨.slice none 0 0, [], by rw [hfin.out], hlowE.out, flr_nil _ _, fun h => ?_⟩
            rw [hfin.out] at h
            exact absurd h (by show (2 : Int) ≠ 0; decide)
          have d6 : decide ((8 : Int) < pn) = false := decide_eq_false (by omega)
          have d6' : decide (8 < pn) = false := decide_eq_false q2
          have hE0 : E = 0 := by rw [hE.out]; unfold putE; rw [if_neg hnm, if_neg (by rw [← hT.out]; simp), if_neg (by have : ps.length = pn := hpn.out; have := hxsl.out; show ¬ (16 ≤ (rdK s k).1.length ∨ 8 < ps.length); omega)]
          have hl2 : rdK s (k + 1) = ((rdK s k).1 ++ [Nde.pl ⟨nm, ⟨ca, cb, cc, cd⟩, po, pn, pc, ps⟩], 0, 0) := by rw [hline.out, readTo_put hsome.out (by rw [hE.out] at hE0; exact hE0)]
          have hxok5 := (hok3.out.low hb4.out).low hb5
          have hpa5 : PartsAt w5 ⟨nm, ⟨ca, cb, cc, cd⟩, po, pn, pc, ps⟩ := fun b off e => by
            obtain ⟨c, hc⟩ := hpa3.out b off e
            have h4 := blk_below hb4.out hc (blk_lt hc)
            exact ⟨c, blk_below hb5 h4 (blk_lt h4)⟩
          have hownA : (w5.alloc (.cells (⟨nm, ⟨ca, cb, cc, cd⟩, po, pn, pc, ps⟩ : Nde).cells 48 (0, 0))).ownsRow (w.heap.size + 2) 48 6 nv m (flatv Nde.cells xs) := by rw [hm]; exact hM5.row.row.alloc (.cells (⟨nm, ⟨ca, cb, cc, cd⟩, po, pn, pc, ps⟩ : Nde).cells 48 (0, 0))
          have hnews : ∀ j u, (⟨nm, ⟨ca, cb, cc, cd⟩, po, pn, pc, ps⟩ : Nde).cells.toList[j]? = some u → (w5.alloc (.cells (⟨nm, ⟨ca, cb, cc, cd⟩, po, pn, pc, ps⟩ : Nde).cells 48 (0, 0))).cell? ((⟨w5.heap.size, 0, none⟩ : Addr).add j) = some u := nde_new w5 _
          have hone := nde_one (⟨nm, ⟨ca, cb, cc, cd⟩, po, pn, pc, ps⟩ : Nde)
          have h63 := maxLen_ge (n := m) (by omega)
          have hby : (m + 1) * 72 ≤ 140737488355328 := by omega
          have hbas : w.heap.size + 2 ≤ (w5.alloc (.cells (⟨nm, ⟨ca, cb, cc, cd⟩, po, pn, pc, ps⟩ : Nde).cells 48 (0, 0))).heap.size := by
            have := blk_lt hM5.f
            rw [World.size_alloc]; omega
          have hok2 : (rdK s (k + 1)).2.1 = 0 := by rw [hl2]
          have hlt5 := blk_lt hM5.f
          have hfree : ∀ w9 : World, (w5.alloc (.cells (⟨nm, ⟨ca, cb, cc, cd⟩, po, pn, pc, ps⟩ : Nde).cells 48 (0, 0))).grownBy w9 nv.ownBlock → w9.heap[w.heap.size + 1]? = some (.cells #[nv] 44 (0, 0)) := fun w9 hg => by
            refine (hg.block _ (by rw [World.size_alloc]; omega) (fun e => ?_)).trans (blk_old _ hM5.f)
            have := (hM5.row.row.lt _ e.symm).1
            omega
          replace hM5 := Lib.hid hM5; replace hb5 := Lib.hid hb5; replace hxb5 := Lib.hid hxb5; replace hE0 := Lib.hid hE0; replace hl2 := Lib.hid hl2; replace hlowE := Lib.hid hlowE; replace hnm := Lib.hid hnm; replace hm := Lib.hid hm; replace hxok5 := Lib.hid hxok5; replace hpa5 := Lib.hid hpa5; replace hownA := Lib.hid hownA; replace hnews := Lib.hid hnews; replace hone := Lib.hid hone; replace h63 := Lib.hid h63; replace hby := Lib.hid hby; replace hbas := Lib.hid hbas; replace hok2 := Lib.hid hok2; replace hfree := Lib.hid hfree
          go_wp2_with (at_builtin; refine wpList_append_own _ rfl _ _ 42 rfl (w.heap.size + 2) 48 i48 _ 6 72 Tryd.underlying42 hi48 hz48 hz481 hz482 rfl six_pos nv m _ rfl hownA.out ⟨w5.heap.size, 0, none⟩ 1 1 (⟨nm, ⟨ca, cb, cc, cd⟩, po, pn, pc, ps⟩ : Nde).cells.toList rfl rfl hnews.out hone.out h63.out hby.out hbas.out ?_; intro v1 w9 hown9 hgrow9 _; obtain ⟨g9, cap9, rfl⟩ := Joins.ownsRow_form hown9 (Nat.succ_pos _); have q9 := hfree.out w9 hgrow9; have f9 := blk_cell q9 0; have z9 := blk_free q9 0; simp at f9; replace q9 := Lib.hid q9; replace hown9 := Lib.hid hown9; replace hgrow9 := Lib.hid hgrow9)
          have hR9 := rr_put hM5.out hxok5.out hpa5.out hpo2.out hm.out hgrow9.out hown9.out
          have hR9' : RrW w b ((cutAll 10 s.data.toList).map ofL) (rdK s (k + 1)).1 (.slice (some ⟨g9, 0, none⟩) (m + 1) cap9) (xs ++ [⟨nm, ⟨ca, cb, cc, cd⟩, po, pn, pc, ps⟩]) (w9.setCell ⟨w.heap.size + 1, 0, none⟩ (.slice (some ⟨g9, 0, none⟩) (m + 1) cap9)) := by rw [hl2.out]; exact hR9
          clear hR9
          replace hR9' := Lib.hid hR9'
          go_roundw
          case rel => exact ⟨k + 1, (.slice (some ⟨g9, 0, none⟩) (m + 1) cap9), xs ++ [(⟨nm, ⟨ca, cb, cc, cd⟩, po, pn, pc, ps⟩ : Nde)], by go_num, by omega, hok2.out, hR9'.out⟩
          case measure => simp [intOf]; omega
    · have hc1 : ¬ (k : Int) < n := by omega
      have hln := hlen.out
      rw [List.length_map] at hln
      have hend : readOf s = rdK s k := by rw [hr.out, rdK_end (k := k) (by omega)]
      have hz : (rdK s k).2.2 = 0 := readTo_zero _ _ hok.out
      have r0 : wr.cell? ⟨w.heap.size, 0, none⟩ = some (.slice none 0 0) := blk_cell hM.out.res 0
      have f1 : wr.cell? ⟨w.heap.size + 1, 0, none⟩ = some nv := blk_cell hM.out.f 0
      have fr := blk_free hM.out.res
      have hlowE : Below w.heap.size w (wr.setCell ⟨w.heap.size, 0, none⟩ nv) := hM.out.low.setCell (Nat.le_refl _) _
      have hrowE : FlR (wr.setCell ⟨w.heap.size, 0, none⟩ nv) w.heap.size nv xs := flr_set (flr_mono hM.out.row (by omega)) hM.out.res (by decide) (by decide)
      replace hln := Lib.hid hln; replace hend := Lib.hid hend; replace hz := Lib.hid hz; replace hlowE := Lib.hid hlowE; replace hrowE := Lib.hid hrowE
      have hfm := Joins.ownsRow_forms hM.out.row.row
      have hpls := hM.out.pls
      replace hpls := Lib.hid hpls; replace hM := Lib.hid hM
      rcases hfm with ⟨rfl, h0⟩ | ⟨g, cap, rfl⟩
      all_goals
        try (replace h0 := Lib.hid h0)
        go_wp2
        refine bodyPost_ret (v := .tuple #[.agg #[_], .int .i64 0, .int .i64 0]) (by simp [results, Tryd.results31, go_sem, r0]; rfl) rfl ?_
        exact ⟨_, xs, by rw [hend.out, hok.out, hz.out], hlowE.out, hrowE.out, fun _ => by rw [hend.out]; exact hpls.out⟩
theorem rread_any (s : ByteArray) (w : World) : Calls Tryd.prog 31 #[.string s] w (RreadPost s w) := by
  by_cases hs : 4096 < s.size
  · exact rread_long s w hs
  · exact rread_short s w hs
end Go.Proofs.YteoihdkaoipocaaDoor

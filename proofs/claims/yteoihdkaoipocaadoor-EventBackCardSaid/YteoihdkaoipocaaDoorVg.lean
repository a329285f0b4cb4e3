/- Parts Evc, Evd, Evp, Evs in one text. Plain theorems: no condition. -/
import Derived.Test.YteoihdkaoipocaaDoorVe
import Derived.Test.YteoihdkaoipocaaDoorVf
import Derived.Test.YteoihdkaoipocaaDoorVc
import Derived.Maps.AppendAt
/- event.Check. Plain theorems: no condition. -/
namespace Go.Proofs.YteoihdkaoipocaaDoor
open Go.RowKit Go.Maps

/-- an event as told -/
structure Evp where
  n : Evn
  specs : List Spp
/-- an event in memory -/
structure Evv where
  n : Evn
  so : Option Addr
  m : Nat
  c : Nat
  sps : List Spv
def Evv.pl (x : Evv) : Evp := ⟨x.n, x.sps.map Spv.pl⟩
abbrev Evv.cells (x : Evv) : Array Value := #[.int .i64 x.n.kind, .int .i64 x.n.epoch, .int .i64 x.n.tick, .int .i64 x.n.client, .int .i64 x.n.seq, .int .i64 x.n.job, .int .i64 x.n.attempt, .int .i64 x.n.node, .int .i64 x.n.how, .slice x.so x.m x.c]
abbrev Evv.val (x : Evv) : Value := .agg #[.int .i64 x.n.kind, .int .i64 x.n.epoch, .int .i64 x.n.tick, .int .i64 x.n.client, .int .i64 x.n.seq, .int .i64 x.n.job, .int .i64 x.n.attempt, .int .i64 x.n.node, .int .i64 x.n.how, .slice x.so x.m x.c]
structure Evv.ok (w : World) (x : Evv) : Prop where
  sps : SpsAt w x.so x.m x.sps
  ple : x.m ≤ x.c
  rng : ∀ i, -9223372036854775808 ≤ x.n.get i ∧ x.n.get i ≤ 9223372036854775807
theorem Evv.ok.low {w w' : World} {x : Evv} (h : x.ok w) (hb : Below w.heap.size w w') : x.ok w' := ⟨h.sps.low hb, h.ple, h.rng⟩
/-- an event's box -/
structure BoxE (w : World) (x : Evv) (wr : World) : Prop where
  low : Below w.heap.size w wr
  box : wr.heap[w.heap.size]? = some (.cells x.cells 70 (0, 0))
theorem BoxE.below {w wr w' : World} {x : Evv} (h : BoxE w x wr) (hb : Below wr.heap.size wr w') : BoxE w x w' :=
  ⟨h.low.trans (hb.mono h.low.size), blk_below hb h.box (blk_lt h.box)⟩
theorem BoxE.new (w : World) (x : Evv) : BoxE w x (w.alloc (.cells x.cells 70 (0, 0))) := ⟨(Below.refl _ _).alloc (Nat.le_refl _) _, blk_new _ _⟩
theorem BoxE.ok {w wr : World} {x : Evv} (h : BoxE w x wr) (hx : x.ok w) : x.ok wr := hx.low h.low
theorem evv_get (x : Evv) {i : Nat} (hi : i ≤ 8) : x.cells[i]? = some (.int .i64 (x.n.get i)) := by
  have : i = 0 ∨ i = 1 ∨ i = 2 ∨ i = 3 ∨ i = 4 ∨ i = 5 ∨ i = 6 ∨ i = 7 ∨ i = 8 := by omega
  rcases this with rfl | rfl | rfl | rfl | rfl | rfl | rfl | rfl | rfl <;> rfl
theorem evv_set (x : Evv) {i : Nat} (h1 : 1 ≤ i) (hi : i ≤ 8) (v : Int) : x.cells.setIfInBounds i (.int .i64 v) = (⟨x.n.set v i, x.so, x.m, x.c, x.sps⟩ : Evv).cells := by
  have : i = 1 ∨ i = 2 ∨ i = 3 ∨ i = 4 ∨ i = 5 ∨ i = 6 ∨ i = 7 ∨ i = 8 := by omega
  rcases this with rfl | rfl | rfl | rfl | rfl | rfl | rfl | rfl <;> simp [Evn.set]
theorem set_kind (e : Evn) (v : Int) (i : Nat) : (e.set v i).kind = e.kind := by
  unfold Evn.set
  split <;> rfl
def inR (e : Evn) (f : Fld) : Bool := decide (f.2.1 ≤ e.get f.1) && decide (e.get f.1 ≤ f.2.2)
/-- the fields looked at, each turned to nothing -/
def chkF : Evn → List Fld → Option Evn
  | e, [] => some e
  | e, f :: fs => if inR e f = true then chkF (e.set 0 f.1) fs else none
def restZ (e : Evn) : Bool := decide (e.epoch = 0) && decide (e.tick = 0) && decide (e.client = 0) && decide (e.seq = 0) && decide (e.job = 0) && decide (e.attempt = 0) && decide (e.node = 0) && decide (e.how = 0)
def kindS (e : Evp) : Bool := decide (e.n.kind = 2) == decide (0 < e.specs.length)
def mayE (e : Evp) : Bool := match fldsOf e.n.kind with
  | none => false
  | some fs => match chkF e.n fs with
    | none => false
    | some e' => kindS e && decide (e.specs.length ≤ 8) && e.specs.all mayS && restZ e'
def errE (e : Evp) : Int := if mayE e = true then 0 else 130
theorem errE_no {e : Evp} (h : mayE e = false) : errE e = 130 := if_neg (by rw [h]; simp)
theorem errE_yes {e : Evp} (h : mayE e = true) : errE e = 0 := if_pos h
theorem mayE_none {e : Evp} (h : fldsOf e.n.kind = none) : mayE e = false := by unfold mayE; rw [h]
theorem mayE_bad {e : Evp} {fs : List Fld} (h : fldsOf e.n.kind = some fs) (h2 : chkF e.n fs = none) : mayE e = false := by unfold mayE; rw [h]; simp only [h2]
theorem mayE_some {e : Evp} {fs : List Fld} {e' : Evn} (h : fldsOf e.n.kind = some fs) (h2 : chkF e.n fs = some e') : mayE e = (kindS e && decide (e.specs.length ≤ 8) && e.specs.all mayS && restZ e') := by unfold mayE; rw [h]; simp only [h2]
theorem flds_ok {k : Int} {fs : List Fld} (h : fldsOf k = some fs) : fs.length ≤ 4 ∧ ∀ f, f ∈ fs → 1 ≤ f.1 ∧ f.1 ≤ 8 ∧ 0 ≤ f.2.1 ∧ f.2.1 ≤ f.2.2 ∧ f.2.2 ≤ 1099511627776 := by
  unfold fldsOf at h
  repeat (split at h; (cases h; exact ⟨by decide, by decide⟩))
  cases h
theorem chkF_step {e : Evn} {fs : List Fld} {k : Nat} {f : Fld} (hf : fs[k]? = some f) : chkF e (fs.drop k) = if inR e f = true then chkF (e.set 0 f.1) (fs.drop (k + 1)) else none := by
  obtain ⟨hk, e1⟩ := List.getElem?_eq_some_iff.1 hf
  rw [List.drop_eq_getElem_cons hk, e1, chkF]
theorem fld_cell {w : World} {g eb : Nat} {fs : List Fld} (h : w.heap[g]? = some (.cells (fs.flatMap (fldV eb)).toArray 126 (0, 0))) {k : Nat} {f : Fld} (hf : fs[k]? = some f) :
    w.cell? ⟨g, k * 3, none⟩ = some (.pointer (some ⟨eb, f.1, none⟩)) ∧ w.cell? ⟨g, k * 3 + 1, none⟩ = some (.int .i64 f.2.1) ∧ w.cell? ⟨g, k * 3 + 2, none⟩ = some (.int .i64 f.2.2) := by
  have hg := fun j hj => flatv_get (cells := fun f => (fldV eb f).toArray) (sz := 3) (fun _ => rfl) fs (j := j) hf hj
  have e1 : flatv (fun f => (fldV eb f).toArray) fs = fs.flatMap (fldV eb) := rfl
  rw [e1] at hg
  have h0 := hg 0 (by omega); have h1 := hg 1 (by omega); have h2 := hg 2 (by omega)
  rw [List.getElem?_toArray] at h0 h1 h2
  refine ⟨?_, ?_, ?_⟩
  · rw [blk_cell h]; exact (List.getElem?_toArray ..).trans h0
  · rw [blk_cell h]; exact (List.getElem?_toArray ..).trans h1
  · rw [blk_cell h]; exact (List.getElem?_toArray ..).trans h2
end Go.Proofs.YteoihdkaoipocaaDoor

/- event.Check 50: may an event be? Plain theorems: no condition. -/
namespace Go.Proofs.YteoihdkaoipocaaDoor
open Go.RowKit Go.Maps

structure EckW (w : World) (g : Nat) (row : Array Value) (x : Evv) (wr : World) : Prop where
  bx : BoxE w x wr
  row : wr.heap[g]? = some (.cells row 126 (0, 0))
theorem EckW.below {w wr w' : World} {g : Nat} {row : Array Value} {x : Evv} (h : EckW w g row x wr) (hb : Below wr.heap.size wr w') : EckW w g row x w' :=
  ⟨h.bx.below hb, blk_below hb h.row (blk_lt h.row)⟩
theorem EckW.set {w wr : World} {g : Nat} {row : Array Value} {x : Evv} (h : EckW w g row x wr) (hg : g ≠ w.heap.size) {i : Nat} (h1 : 1 ≤ i) (h8 : i ≤ 8) : EckW w g row ⟨x.n.set 0 i, x.so, x.m, x.c, x.sps⟩ (wr.setCell ⟨w.heap.size, i, none⟩ (.int .i64 0)) :=
  ⟨⟨h.bx.low.setCell (Nat.le_refl _) _, by rw [← evv_set x h1 h8]; exact blk_set h.bx.box i _⟩, blk_set_other hg _ h.row⟩
set_option maxRecDepth 100000 in
set_option maxHeartbeats 6400000 in
theorem echeck_any (x : Evv) (w : World) (hx : x.ok w) : Calls Tryd.prog 50 #[x.val] w fun e w' => e = .returned (.int .i64 (errE x.pl)) ∧ Below w.heap.size w w' := by
  have hB0 := BoxE.new w x
  have hk0 : (w.alloc (.cells x.cells 70 (0, 0))).cell? ⟨w.heap.size, 0, none⟩ = some (.int .i64 x.n.kind) := blk_cell hB0.box 0
  have hc := fields_all hk0
  unfold FldP at hc
  cases hf : fldsOf x.n.kind with
  | none =>
    rw [hf] at hc
    have he : errE x.pl = 130 := errE_no (mayE_none hf)
    obtain ⟨⟨kind, epoch, tick, client, seq, job, attempt, node, how⟩, so, m, c, sps⟩ := x
    replace hB0 := Lib.hid hB0; replace hc := Lib.hid hc; replace hx := Lib.hid hx; replace hf := Lib.hid hf; replace he := Lib.hid he; replace hk0 := Lib.hid hk0
    go_enter Tryd.func50, Tryd.ntmps50
    go_wp2_with fail
    refine hc.out.mono ?_
    rintro e w1 ⟨rfl, hb1⟩
    have hB1 := hB0.out.below hb1
    replace hB1 := Lib.hid hB1; replace hb1 := Lib.hid hb1
    go_wp2
    go_ret
    exact ⟨by rw [he.out]; rfl, hB1.out.low⟩
  | some fs =>
    rw [hf] at hc
    obtain ⟨hfl, hfo⟩ := flds_ok hf
    obtain ⟨n, hn⟩ : ∃ n, n = fs.length := ⟨_, rfl⟩
    unfold FldPost at hc
    simp only [← hn] at hc
    rw [← hn] at hfl
    have hm9 := hx.sps.max
    have hml := hx.sps.len
    obtain ⟨so, m, c, sps, hxe⟩ : ∃ so m c sps, x = ⟨x.n, so, m, c, sps⟩ := ⟨x.so, x.m, x.c, x.sps, rfl⟩
    obtain ⟨E, hE⟩ : ∃ E, E = errE x.pl := ⟨_, rfl⟩
    rw [← hE]
    obtain ⟨row, hrow⟩ : ∃ row, row = (fs.flatMap (fldV w.heap.size)).toArray := ⟨_, rfl⟩
    rw [← hrow] at hc
    have hstart : ∀ w1 g, Below (w.heap.size + 1) (w.alloc (.cells x.cells 70 (0, 0))) w1 → w1.heap[g]? = some (.cells row 126 (0, 0)) → EckW w g row x w1 := fun w1 g hb hr => ⟨hB0.below (by simpa using hb), hr⟩
    obtain ⟨⟨kind, epoch, tick, client, seq, job, attempt, node, how⟩, so', m', c', sps'⟩ := x
    simp only [Evv.mk.injEq, true_and] at hxe
    obtain ⟨rfl, rfl, rfl, rfl⟩ := hxe
    obtain ⟨X, hX⟩ : ∃ X : Evv, X = ⟨⟨kind, epoch, tick, client, seq, job, attempt, node, how⟩, so', m', c', sps'⟩ := ⟨_, rfl⟩
    obtain ⟨N, hN⟩ : ∃ N : Evn, N = ⟨kind, epoch, tick, client, seq, job, attempt, node, how⟩ := ⟨_, rfl⟩
    replace hB0 := Lib.hid hB0; replace hc := Lib.hid hc; replace hx := Lib.hid hx; replace hf := Lib.hid hf; replace hfo := Lib.hid hfo; replace hn := Lib.hid hn; replace hk0 := Lib.hid hk0; replace hE := Lib.hid hE; replace hml := Lib.hid hml; replace hrow := Lib.hid hrow; replace hstart := Lib.hid hstart; replace hX := Lib.hid hX; replace hN := Lib.hid hN
    go_enter Tryd.func50, Tryd.ntmps50
    go_wp2_with fail
    refine hc.out.mono ?_
    rintro e w1 ⟨g, rfl, hgg, hgr, hb1⟩
    have hg2 : g ≠ w.heap.size := by
      have h1 : (w.alloc (.cells (⟨⟨kind, epoch, tick, client, seq, job, attempt, node, how⟩, so', m', c', sps'⟩ : Evv).cells 70 (0, 0))).heap.size = w.heap.size + 1 := by simp
      omega
    have hW1 := hstart.out w1 g (by simpa using hb1) hgr
    rw [← hX.out] at hW1
    replace hgg := Lib.hid hgg; replace hgr := Lib.hid hgr; replace hb1 := Lib.hid hb1; replace hW1 := Lib.hid hW1; replace hg2 := Lib.hid hg2
    go_wp2
    go_loopw [17, 6] (fun iv _ wr => ∃ (k : Nat) (a : Evn), iv = .int .i64 k ∧ k ≤ n ∧ Hid (chkF N fs = chkF a (fs.drop k)) ∧ Hid (a.kind = kind) ∧ Hid (EckW w g row ⟨a, so', m', c', sps'⟩ wr)) (fun iv _ _ => n - (intOf iv).toNat)
    case atStart => exact ⟨0, N, rfl, Nat.zero_le _, rfl, (by rw [hN.out] : N.kind = kind), by rw [hN.out, ← hX.out]; exact hW1.out⟩
    case round =>
      obtain ⟨k, a, rfl, hk, hch, hak, hW⟩ := hrel
      by_cases hkn : k < n
      · have hkn1 : (k : Int) < n := by omega
        have hk0' : (0 : Int) ≤ (k : Int) := by omega
        obtain ⟨f, hf1⟩ : ∃ f, fs[k]? = some f := ⟨_, List.getElem?_eq_getElem (by have := hn.out; omega)⟩
        obtain ⟨q1, q8, _⟩ := hfo.out f (List.mem_of_getElem? hf1)
        obtain ⟨i, lo, hi⟩ := f
        have hrw := hW.out.row
        rw [hrow.out] at hrw
        obtain ⟨z0, z1, z2⟩ := fld_cell hrw hf1
        simp only at z0 z1 z2 q1 q8
        have hst := chkF_step (e := a) hf1
        have hvb := blk_cell hW.out.bx.box i
        rw [evv_get _ q8] at hvb
        obtain ⟨v, hv⟩ : ∃ v, v = a.get i := ⟨_, rfl⟩
        have hvb' : wr.cell? ⟨w.heap.size, i, none⟩ = some (.int .i64 v) := by rw [hv]; exact hvb
        clear hvb
        have hr : inR a (i, lo, hi) = (decide (lo ≤ v) && decide (v ≤ hi)) := by rw [hv]; rfl
        obtain ⟨W6, hW6⟩ : ∃ W6, W6 = wr.alloc (.cells #[.pointer (some ⟨w.heap.size, i, none⟩), .int .i64 lo, .int .i64 hi] 126 (0, 0)) := ⟨_, rfl⟩
        have hb6 : Below wr.heap.size wr W6 := by rw [hW6]; exact (Below.refl _ _).alloc (Nat.le_refl _) _
        have hn6 : W6.heap[wr.heap.size]? = some (.cells #[.pointer (some ⟨w.heap.size, i, none⟩), .int .i64 lo, .int .i64 hi] 126 (0, 0)) := by rw [hW6]; exact blk_new _ _
        have hw6 := hW.out.below hb6
        have c0 : W6.cell? ⟨wr.heap.size, 0, none⟩ = some (.pointer (some ⟨w.heap.size, i, none⟩)) := blk_cell hn6 0
        have c1 : W6.cell? ⟨wr.heap.size, 1, none⟩ = some (.int .i64 lo) := blk_cell hn6 1
        have c2 : W6.cell? ⟨wr.heap.size, 2, none⟩ = some (.int .i64 hi) := blk_cell hn6 2
        have c6 : W6.cell? ⟨w.heap.size, i, none⟩ = some (.int .i64 v) := (below_cell hb6 (blk_lt hW.out.bx.box)).trans hvb'
        have hfz := blk_free hw6.bx.box i
        have hbad : inR a (i, lo, hi) = false → E = 130 := fun hq => by
          rw [hE.out]
          refine errE_no (mayE_bad hf.out ?_)
          show chkF (⟨kind, epoch, tick, client, seq, job, attempt, node, how⟩ : Evn) fs = none
          have h := hch.out
          rw [hN.out] at h
          rw [h, hst, if_neg (by rw [hq]; simp)]
        have hW6' := Lib.hid hW6
        clear hW6
        replace hf1 := Lib.hid hf1; replace hrw := Lib.hid hrw; replace hst := Lib.hid hst; replace hb6 := Lib.hid hb6; replace hn6 := Lib.hid hn6; replace hw6 := Lib.hid hw6; replace hbad := Lib.hid hbad; replace hv := Lib.hid hv
        go_upto_region 7 with fail
        rw [← hW6'.out]
        clear z0 z1 z2 hvb' hW6'
        by_cases g1 : v < lo
        · have d1 : decide (v < lo) = true := decide_eq_true g1
          have hE2 : E = 130 := hbad.out (by rw [hr, decide_eq_false (by omega)]; rfl)
          replace hr := Lib.hid hr; replace hE2 := Lib.hid hE2; replace g1 := Lib.hid g1
          go_wp2
          go_quiet (fail)
          go_wp2
          go_ret
          exact ⟨by rw [hE2.out]; rfl, (hw6.out.bx.low).trans (below_dn _ _ _)⟩
        have d1 : decide (v < lo) = false := decide_eq_false g1
        by_cases g2 : hi < v
        · have d2 : decide (hi < v) = true := decide_eq_true g2
          have hE2 : E = 130 := hbad.out (by rw [hr, decide_eq_true (by omega), decide_eq_false (by omega)]; rfl)
          replace hr := Lib.hid hr; replace hE2 := Lib.hid hE2; replace g1 := Lib.hid g1; replace g2 := Lib.hid g2
          go_wp2
          go_quiet (fail)
          go_wp2
          go_ret
          exact ⟨by rw [hE2.out]; rfl, (hw6.out.bx.low).trans (below_dn _ _ _)⟩
        have d2 : decide (hi < v) = false := decide_eq_false g2
        have hin : inR a (i, lo, hi) = true := by rw [hr, decide_eq_true (by omega), decide_eq_true (by omega)]; rfl
        have hch2 : chkF N fs = chkF (a.set 0 i) (fs.drop (k + 1)) := by rw [hch.out, hst.out, if_pos hin]
        have hak2 : (a.set 0 i).kind = kind := by rw [set_kind, hak.out]
        have hset : ∀ q, EckW w g row ⟨a.set 0 i, so', m', c', sps'⟩ ((W6.drewN q).setCell ⟨w.heap.size, i, none⟩ (.int .i64 0)) := fun q => (hw6.out.below (below_dn _ _ _)).set hg2.out q1 q8
        replace hr := Lib.hid hr; replace hin := Lib.hid hin; replace hch2 := Lib.hid hch2; replace hak2 := Lib.hid hak2; replace hset := Lib.hid hset; replace g1 := Lib.hid g1; replace g2 := Lib.hid g2
        go_wp2
        go_quiet (fail)
        go_wp2
        go_roundw
        case rel => exact ⟨k + 1, a.set 0 i, by go_num, by omega, hch2.out, hak2.out, hset.out _⟩
        case measure => simp [intOf]; omega
      · have hkn1 : ¬ (k : Int) < n := by omega
        have hdr : fs.drop k = [] := List.drop_of_length_le (by have := hn.out; omega)
        have hfin : chkF ⟨kind, epoch, tick, client, seq, job, attempt, node, how⟩ fs = some a := by
          rw [← hN.out, hch.out, hdr]; rfl
        have hmy := mayE_some (e := (⟨⟨kind, epoch, tick, client, seq, job, attempt, node, how⟩, so', m', c', sps'⟩ : Evv).pl) hf.out hfin
        obtain ⟨k2, e2, t2, cl2, s2, j2, a2, n2, h2⟩ := a
        have hak3 : k2 = kind := hak.out
        subst hak3
        have hml2 : (sps'.map Spv.pl).length = m' := by rw [List.length_map, hml.out]
        obtain ⟨K, hK⟩ : ∃ K, K = (decide (k2 = 2) == decide (0 < m')) := ⟨_, rfl⟩
        obtain ⟨L, hL⟩ : ∃ L, L = decide (m' ≤ 8) := ⟨_, rfl⟩
        obtain ⟨A, hA⟩ : ∃ A, A = (sps'.map Spv.pl).all mayS := ⟨_, rfl⟩
        obtain ⟨R, hR⟩ : ∃ R, R = restZ ⟨k2, e2, t2, cl2, s2, j2, a2, n2, h2⟩ := ⟨_, rfl⟩
        have hEe : E = if (K && L && A && R) = true then 0 else 130 := by
          rw [hE.out]
          unfold errE
          rw [hmy, hK, hL, hA, hR, ← hml2]
          rfl
        have y0 : wr.cell? ⟨w.heap.size, 0, none⟩ = some (.int .i64 k2) := blk_cell hW.out.bx.box 0
        have y9 : wr.cell? ⟨w.heap.size, 9, none⟩ = some (.slice so' m' c') := blk_cell hW.out.bx.box 9
        obtain ⟨q, hq⟩ : ∃ q, q = !(K && L) := ⟨_, rfl⟩
        replace hdr := Lib.hid hdr; replace hfin := Lib.hid hfin; replace hmy := Lib.hid hmy; replace hml2 := Lib.hid hml2; replace hK := Lib.hid hK; replace hL := Lib.hid hL; replace hA := Lib.hid hA; replace hR := Lib.hid hR; replace hEe := Lib.hid hEe; replace hq := Lib.hid hq
        go_upto_region 11 with fail
        go_cut [54] from 41 to 55 (fun bv wx => RuB wr q bv wx)
        case first =>
          by_cases g1 : k2 = 2
          · have d1 : (k2 == (2 : Int)) = true := by rw [g1]; rfl
            by_cases g2 : 0 < m'
            · have d2 : decide ((0 : Int) < (m' : Int)) = true := decide_eq_true (by omega)
              have d2' : decide (0 < m') = true := decide_eq_true g2
              by_cases g3 : 8 < m'
              · have d3 : decide ((8 : Int) < (m' : Int)) = true := decide_eq_true (by omega)
                have d3' : decide (8 < m') = true := decide_eq_true g3
                have hqq : q = true := by rw [hq.out, hK.out, hL.out, decide_eq_true g1, d2', decide_eq_false (by omega : ¬ m' ≤ 8)]; rfl
                replace g1 := Lib.hid g1; replace g2 := Lib.hid g2; replace g3 := Lib.hid g3; replace hqq := Lib.hid hqq
                go_wp2
                go_meet
                exact ⟨by rw [hqq.out], rfl⟩
              · have d3 : decide ((8 : Int) < (m' : Int)) = false := decide_eq_false (by omega)
                have d3' : decide (8 < m') = false := decide_eq_false g3
                have hqq : q = false := by rw [hq.out, hK.out, hL.out, decide_eq_true g1, d2', decide_eq_true (by omega : m' ≤ 8)]; rfl
                replace g1 := Lib.hid g1; replace g2 := Lib.hid g2; replace g3 := Lib.hid g3; replace hqq := Lib.hid hqq
                go_wp2
                go_meet
                exact ⟨by rw [hqq.out], rfl⟩
            · have d2 : decide ((0 : Int) < (m' : Int)) = false := decide_eq_false (by omega)
              have d2' : decide (0 < m') = false := decide_eq_false g2
              have hqq : q = true := by rw [hq.out, hK.out, decide_eq_true g1, d2']; rfl
              replace g1 := Lib.hid g1; replace g2 := Lib.hid g2; replace hqq := Lib.hid hqq
              go_wp2
              go_meet
              exact ⟨by rw [hqq.out], rfl⟩
          · have d1 : (k2 == (2 : Int)) = false := beq_eq_false_iff_ne.2 g1
            by_cases g2 : 0 < m'
            · have d2 : decide ((0 : Int) < (m' : Int)) = true := decide_eq_true (by omega)
              have d2' : decide (0 < m') = true := decide_eq_true g2
              have hqq : q = true := by rw [hq.out, hK.out, decide_eq_false g1, d2']; rfl
              replace g1 := Lib.hid g1; replace g2 := Lib.hid g2; replace hqq := Lib.hid hqq
              go_wp2
              go_meet
              exact ⟨by rw [hqq.out], rfl⟩
            · have d2 : decide ((0 : Int) < (m' : Int)) = false := decide_eq_false (by omega)
              have d2' : decide (0 < m') = false := decide_eq_false g2
              have d3 : decide ((8 : Int) < (m' : Int)) = false := decide_eq_false (by omega)
              have d3' : decide (8 < m') = false := decide_eq_false (by omega)
              have hqq : q = false := by rw [hq.out, hK.out, hL.out, decide_eq_false g1, d2', decide_eq_true (by omega : m' ≤ 8)]; rfl
              replace g1 := Lib.hid g1; replace g2 := Lib.hid g2; replace hqq := Lib.hid hqq
              go_wp2
              go_meet
              exact ⟨by rw [hqq.out], rfl⟩
        case rest =>
        obtain ⟨rfl, hw3⟩ := hcut
        subst hw3
        cases q with
        | true =>
          have hE2 : E = 130 := by
            have h := hq.out
            rw [hEe.out]
            revert h
            cases K <;> cases L <;> intro h <;> first | rfl | cases h
          replace hE2 := Lib.hid hE2
          clear hq
          go_wp2
          go_ret
          exact ⟨by rw [hE2.out]; rfl, hW.out.bx.low⟩
        | false =>
        have hKL : K = true ∧ L = true := by
          have h := hq.out
          revert h
          cases K <;> cases L <;> intro h <;> first | exact ⟨rfl, rfl⟩ | cases h
        have hEe2 : E = if (A && R) = true then 0 else 130 := by rw [hEe.out, hKL.1, hKL.2]; rfl
        have hm8 : m' ≤ 8 := by
          have h := hL.out
          rw [hKL.2] at h
          exact of_decide_eq_true h.symm
        clear hq
        replace hKL := Lib.hid hKL; replace hEe2 := Lib.hid hEe2
        go_wp2
        go_loopw [58, 8] (fun iv _ wz => ∃ k : Nat, iv = .int .i64 k ∧ k ≤ m' ∧ Hid (∀ j s, j < k → sps'[j]? = some s → mayS s.pl = true) ∧ Hid (EckW w g row ⟨⟨k2, e2, t2, cl2, s2, j2, a2, n2, h2⟩, so', m', c', sps'⟩ wz)) (fun iv _ _ => m' - (intOf iv).toNat)
        case atStart => exact ⟨0, rfl, Nat.zero_le _, (fun j s h => absurd h (Nat.not_lt_zero j)), hW.out⟩
        case round =>
          rename World => wz
          obtain ⟨j, rfl, hj, hall, hZ⟩ := hrel
          by_cases hjm : j < m'
          · have hjm1 : (j : Int) < m' := by omega
            have hj0 : (0 : Int) ≤ (j : Int) := by omega
            obtain ⟨s, hs⟩ : ∃ s, sps'[j]? = some s := ⟨_, List.getElem?_eq_getElem (by rw [hml.out]; omega)⟩
            have hxz := hx.out.sps.low hZ.out.bx.low
            obtain ⟨b, off, rfl, hbl, hcell, hsok⟩ := hxz.cell j s hs
            obtain ⟨⟨user, part, nodes, ⟨da, db, dc, dd⟩, wall, prio, array, retries, held, after⟩, sso, sn, scp⟩ := s
            have z0 : wz.cell? ⟨b, off + j * 13, none⟩ = some (.string user) := hcell 0 (by omega)
            have z1 : wz.cell? ⟨b, off + j * 13 + 1, none⟩ = some (.string part) := hcell 1 (by omega)
            have z2 : wz.cell? ⟨b, off + j * 13 + 2, none⟩ = some (.int .i64 nodes) := hcell 2 (by omega)
            have z3 : wz.cell? ⟨b, off + j * 13 + 3, none⟩ = some (.int .i64 da) := hcell 3 (by omega)
            have z4 : wz.cell? ⟨b, off + j * 13 + 4, none⟩ = some (.int .i64 db) := hcell 4 (by omega)
            have z5 : wz.cell? ⟨b, off + j * 13 + 5, none⟩ = some (.int .i64 dc) := hcell 5 (by omega)
            have z6 : wz.cell? ⟨b, off + j * 13 + 6, none⟩ = some (.int .i64 dd) := hcell 6 (by omega)
            have z7 : wz.cell? ⟨b, off + j * 13 + 7, none⟩ = some (.int .i64 wall) := hcell 7 (by omega)
            have z8 : wz.cell? ⟨b, off + j * 13 + 8, none⟩ = some (.int .i64 prio) := hcell 8 (by omega)
            have z9 : wz.cell? ⟨b, off + j * 13 + 9, none⟩ = some (.int .i64 array) := hcell 9 (by omega)
            have z10 : wz.cell? ⟨b, off + j * 13 + 10, none⟩ = some (.int .i64 retries) := hcell 10 (by omega)
            have z11 : wz.cell? ⟨b, off + j * 13 + 11, none⟩ = some (.bool held) := hcell 11 (by omega)
            have z12 : wz.cell? ⟨b, off + j * 13 + 12, none⟩ = some (.slice sso sn scp) := hcell 12 (by omega)
            obtain ⟨W6, hW6⟩ : ∃ W6, W6 = wz.alloc (.cells (⟨⟨user, part, nodes, ⟨da, db, dc, dd⟩, wall, prio, array, retries, held, after⟩, sso, sn, scp⟩ : Spv).cells 28 (0, 0)) := ⟨_, rfl⟩
            have hb6 : Below wz.heap.size wz W6 := by rw [hW6]; exact (Below.refl _ _).alloc (Nat.le_refl _) _
            have hn6 : W6.heap[wz.heap.size]? = some (.cells (⟨⟨user, part, nodes, ⟨da, db, dc, dd⟩, wall, prio, array, retries, held, after⟩, sso, sn, scp⟩ : Spv).cells 28 (0, 0)) := by rw [hW6]; exact blk_new _ _
            have x0 : W6.cell? ⟨wz.heap.size, 0, none⟩ = some (.string user) := blk_cell hn6 0
            have x1 : W6.cell? ⟨wz.heap.size, 1, none⟩ = some (.string part) := blk_cell hn6 1
            have x2 : W6.cell? ⟨wz.heap.size, 2, none⟩ = some (.int .i64 nodes) := blk_cell hn6 2
            have x3 : W6.cell? ⟨wz.heap.size, 3, none⟩ = some (.int .i64 da) := blk_cell hn6 3
            have x4 : W6.cell? ⟨wz.heap.size, 4, none⟩ = some (.int .i64 db) := blk_cell hn6 4
            have x5 : W6.cell? ⟨wz.heap.size, 5, none⟩ = some (.int .i64 dc) := blk_cell hn6 5
            have x6 : W6.cell? ⟨wz.heap.size, 6, none⟩ = some (.int .i64 dd) := blk_cell hn6 6
            have x7 : W6.cell? ⟨wz.heap.size, 7, none⟩ = some (.int .i64 wall) := blk_cell hn6 7
            have x8 : W6.cell? ⟨wz.heap.size, 8, none⟩ = some (.int .i64 prio) := blk_cell hn6 8
            have x9 : W6.cell? ⟨wz.heap.size, 9, none⟩ = some (.int .i64 array) := blk_cell hn6 9
            have x10 : W6.cell? ⟨wz.heap.size, 10, none⟩ = some (.int .i64 retries) := blk_cell hn6 10
            have x11 : W6.cell? ⟨wz.heap.size, 11, none⟩ = some (.bool held) := blk_cell hn6 11
            have x12 : W6.cell? ⟨wz.heap.size, 12, none⟩ = some (.slice sso sn scp) := blk_cell hn6 12
            have hZ6 := hZ.out.below hb6
            have hck := check_any ⟨⟨user, part, nodes, ⟨da, db, dc, dd⟩, wall, prio, array, retries, held, after⟩, sso, sn, scp⟩ W6 (hsok.low hb6)
            obtain ⟨er, her⟩ : ∃ er, er = errS (⟨user, part, nodes, ⟨da, db, dc, dd⟩, wall, prio, array, retries, held, after⟩ : Spp) := ⟨_, rfl⟩
            have hck' : Calls Tryd.prog 25 #[(⟨⟨user, part, nodes, ⟨da, db, dc, dd⟩, wall, prio, array, retries, held, after⟩, sso, sn, scp⟩ : Spv).val] W6 fun e w' => e = .returned (.int .i64 er) ∧ Below W6.heap.size W6 w' := by rw [her]; exact hck
            clear hck
            have hW6' := Lib.hid hW6
            clear hW6
            replace hs := Lib.hid hs; replace hxz := Lib.hid hxz; replace hcell := Lib.hid hcell; replace hsok := Lib.hid hsok; replace hb6 := Lib.hid hb6; replace hn6 := Lib.hid hn6; replace hZ6 := Lib.hid hZ6; replace hck' := Lib.hid hck'; replace her := Lib.hid her
            go_upto_region 16 with fail
            rw [← hW6'.out]
            clear z0 z1 z2 z3 z4 z5 z6 z7 z8 z9 z10 z11 z12
            go_wp2_with fail
            refine hck'.out.mono ?_
            rintro e w7 ⟨rfl, hb7⟩
            have hZ7 := hZ6.out.below hb7
            clear x0 x1 x2 x3 x4 x5 x6 x7 x8 x9 x10 x11 x12
            by_cases gm : mayS (⟨user, part, nodes, ⟨da, db, dc, dd⟩, wall, prio, array, retries, held, after⟩ : Spp) = true
            · have he0 : er = 0 := by rw [her.out]; exact if_pos gm
              subst he0
              have d7 : ((0 : Int) != (0 : Int)) = false := rfl
              have hall2 : ∀ i s, i < j + 1 → sps'[i]? = some s → mayS s.pl = true := fun i s hi hsi => by
                by_cases c : i = j
                · subst c
                  rw [hs.out] at hsi
                  rw [← Option.some.inj hsi]
                  exact gm
                · exact hall.out i s (by omega) hsi
              replace hb7 := Lib.hid hb7; replace hZ7 := Lib.hid hZ7; replace gm := Lib.hid gm; replace hall2 := Lib.hid hall2
              go_wp2
              go_roundw
              case rel => exact ⟨j + 1, by go_num, by omega, hall2.out, hZ7.out⟩
              case measure => simp [intOf]; omega
            · have he0 : er = 80 := by rw [her.out]; exact if_neg gm
              subst he0
              have d7 : ((80 : Int) != (0 : Int)) = true := rfl
              have hE2 : E = 130 := by
                have hAf : A = false := by
                  rw [hA.out, Bool.eq_false_iff]
                  intro c
                  rw [List.all_eq_true] at c
                  exact gm (c _ (List.mem_map.2 ⟨_, List.mem_of_getElem? hs.out, rfl⟩))
                rw [hEe2.out, hAf]
                rfl
              replace hb7 := Lib.hid hb7; replace hZ7 := Lib.hid hZ7; replace gm := Lib.hid gm; replace hE2 := Lib.hid hE2
              go_wp2
              go_ret
              exact ⟨by rw [hE2.out]; rfl, hZ7.out.bx.low⟩
          · have hjm1 : ¬ (j : Int) < m' := by omega
            have hAt : A = true := by
              rw [hA.out, List.all_eq_true]
              intro s hs
              obtain ⟨z, hz, rfl⟩ := List.mem_map.1 hs
              obtain ⟨i, hi⟩ := List.mem_iff_getElem?.1 hz
              have hil := (List.getElem?_eq_some_iff.1 hi).1
              exact hall.out i z (by have := hml.out; omega) hi
            have hEe3 : E = if R = true then 0 else 130 := by rw [hEe2.out, hAt]; rfl
            have y1 : wz.cell? ⟨w.heap.size, 1, none⟩ = some (.int .i64 e2) := blk_cell hZ.out.bx.box 1
            have y2 : wz.cell? ⟨w.heap.size, 2, none⟩ = some (.int .i64 t2) := blk_cell hZ.out.bx.box 2
            have y3 : wz.cell? ⟨w.heap.size, 3, none⟩ = some (.int .i64 cl2) := blk_cell hZ.out.bx.box 3
            have y4 : wz.cell? ⟨w.heap.size, 4, none⟩ = some (.int .i64 s2) := blk_cell hZ.out.bx.box 4
            have y5 : wz.cell? ⟨w.heap.size, 5, none⟩ = some (.int .i64 j2) := blk_cell hZ.out.bx.box 5
            have y6 : wz.cell? ⟨w.heap.size, 6, none⟩ = some (.int .i64 a2) := blk_cell hZ.out.bx.box 6
            have y7 : wz.cell? ⟨w.heap.size, 7, none⟩ = some (.int .i64 n2) := blk_cell hZ.out.bx.box 7
            have y8 : wz.cell? ⟨w.heap.size, 8, none⟩ = some (.int .i64 h2) := blk_cell hZ.out.bx.box 8
            replace hAt := Lib.hid hAt; replace hEe3 := Lib.hid hEe3
            clear y0 y9
            by_cases u0 : e2 = 0
            rotate_left
            · have d0 : (e2 != (0 : Int)) = true := by rw [bne_iff_ne]; exact u0
              have hE2 : E = 130 := by rw [hEe3.out, if_neg]; rw [hR.out]; unfold restZ; simp [u0]
              replace u0 := Lib.hid u0; replace hE2 := Lib.hid hE2
              go_wp2
              go_ret
              exact ⟨by rw [hE2.out]; rfl, hZ.out.bx.low⟩
            have d0 : (e2 != (0 : Int)) = false := by rw [u0]; rfl
            by_cases u1 : t2 = 0
            rotate_left
            · have d1 : (t2 != (0 : Int)) = true := by rw [bne_iff_ne]; exact u1
              have hE2 : E = 130 := by rw [hEe3.out, if_neg]; rw [hR.out]; unfold restZ; simp [u1]
              replace u0 := Lib.hid u0; replace u1 := Lib.hid u1; replace hE2 := Lib.hid hE2
              go_wp2
              go_ret
              exact ⟨by rw [hE2.out]; rfl, hZ.out.bx.low⟩
            have d1 : (t2 != (0 : Int)) = false := by rw [u1]; rfl
            by_cases u2 : cl2 = 0
            rotate_left
            · have d2 : (cl2 != (0 : Int)) = true := by rw [bne_iff_ne]; exact u2
              have hE2 : E = 130 := by rw [hEe3.out, if_neg]; rw [hR.out]; unfold restZ; simp [u2]
              replace u0 := Lib.hid u0; replace u1 := Lib.hid u1; replace u2 := Lib.hid u2; replace hE2 := Lib.hid hE2
              go_wp2
              go_ret
              exact ⟨by rw [hE2.out]; rfl, hZ.out.bx.low⟩
            have d2 : (cl2 != (0 : Int)) = false := by rw [u2]; rfl
            by_cases u3 : s2 = 0
            rotate_left
            · have d3 : (s2 != (0 : Int)) = true := by rw [bne_iff_ne]; exact u3
              have hE2 : E = 130 := by rw [hEe3.out, if_neg]; rw [hR.out]; unfold restZ; simp [u3]
              replace u0 := Lib.hid u0; replace u1 := Lib.hid u1; replace u2 := Lib.hid u2; replace u3 := Lib.hid u3; replace hE2 := Lib.hid hE2
              go_wp2
              go_ret
              exact ⟨by rw [hE2.out]; rfl, hZ.out.bx.low⟩
            have d3 : (s2 != (0 : Int)) = false := by rw [u3]; rfl
            by_cases u4 : j2 = 0
            rotate_left
            · have d4 : (j2 != (0 : Int)) = true := by rw [bne_iff_ne]; exact u4
              have hE2 : E = 130 := by rw [hEe3.out, if_neg]; rw [hR.out]; unfold restZ; simp [u4]
              replace u0 := Lib.hid u0; replace u1 := Lib.hid u1; replace u2 := Lib.hid u2; replace u3 := Lib.hid u3; replace u4 := Lib.hid u4; replace hE2 := Lib.hid hE2
              go_wp2
              go_ret
              exact ⟨by rw [hE2.out]; rfl, hZ.out.bx.low⟩
            have d4 : (j2 != (0 : Int)) = false := by rw [u4]; rfl
            by_cases u5 : a2 = 0
            rotate_left
            · have d5 : (a2 != (0 : Int)) = true := by rw [bne_iff_ne]; exact u5
              have hE2 : E = 130 := by rw [hEe3.out, if_neg]; rw [hR.out]; unfold restZ; simp [u5]
              replace u0 := Lib.hid u0; replace u1 := Lib.hid u1; replace u2 := Lib.hid u2; replace u3 := Lib.hid u3; replace u4 := Lib.hid u4; replace u5 := Lib.hid u5; replace hE2 := Lib.hid hE2
              go_wp2
              go_ret
              exact ⟨by rw [hE2.out]; rfl, hZ.out.bx.low⟩
            have d5 : (a2 != (0 : Int)) = false := by rw [u5]; rfl
            by_cases u6 : n2 = 0
            rotate_left
            · have d6 : (n2 != (0 : Int)) = true := by rw [bne_iff_ne]; exact u6
              have hE2 : E = 130 := by rw [hEe3.out, if_neg]; rw [hR.out]; unfold restZ; simp [u6]
              replace u0 := Lib.hid u0; replace u1 := Lib.hid u1; replace u2 := Lib.hid u2; replace u3 := Lib.hid u3; replace u4 := Lib.hid u4; replace u5 := Lib.hid u5; replace u6 := Lib.hid u6; replace hE2 := Lib.hid hE2
              go_wp2
              go_ret
              exact ⟨by rw [hE2.out]; rfl, hZ.out.bx.low⟩
            have d6 : (n2 != (0 : Int)) = false := by rw [u6]; rfl
            by_cases u7 : h2 = 0
            rotate_left
            · have d7 : (h2 != (0 : Int)) = true := by rw [bne_iff_ne]; exact u7
              have hE2 : E = 130 := by rw [hEe3.out, if_neg]; rw [hR.out]; unfold restZ; simp [u7]
              replace u0 := Lib.hid u0; replace u1 := Lib.hid u1; replace u2 := Lib.hid u2; replace u3 := Lib.hid u3; replace u4 := Lib.hid u4; replace u5 := Lib.hid u5; replace u6 := Lib.hid u6; replace u7 := Lib.hid u7; replace hE2 := Lib.hid hE2
              go_wp2
              go_ret
              exact ⟨by rw [hE2.out]; rfl, hZ.out.bx.low⟩
            have d7 : (h2 != (0 : Int)) = false := by rw [u7]; rfl
            have hE2 : E = 0 := by rw [hEe3.out, if_pos]; rw [hR.out]; unfold restZ; simp [u0, u1, u2, u3, u4, u5, u6, u7]
            replace u0 := Lib.hid u0; replace u1 := Lib.hid u1; replace u2 := Lib.hid u2; replace u3 := Lib.hid u3; replace u4 := Lib.hid u4; replace u5 := Lib.hid u5; replace u6 := Lib.hid u6; replace u7 := Lib.hid u7; replace hE2 := Lib.hid hE2
            go_wp2
            go_ret
            exact ⟨by rw [hE2.out]; rfl, hZ.out.bx.low⟩
end Go.Proofs.YteoihdkaoipocaaDoor

/- event.Put 48: an event's bytes. Plain theorems: no condition. -/
namespace Go.Proofs.YteoihdkaoipocaaDoor
open Go.RowKit Go.Maps

def fldsB (e : Evn) (fs : List Fld) : List UInt8 := fs.flatMap fun f => uintB (zz (e.get f.1))
def spB (s : Spp) : List UInt8 := uintB (textS s).length ++ textS s
/-- an event's bytes, if it may be -/
def evB (e : Evp) : List UInt8 := match fldsOf e.n.kind with
  | none => []
  | some fs => uintB (zz e.n.kind) ++ fldsB e.n fs ++ (if e.n.kind = 2 then uintB (zz e.specs.length) else []) ++ e.specs.flatMap spB
def putB (e : Evp) : List UInt8 := if mayE e = true then evB e else []
theorem fldsB_step {e : Evn} {fs : List Fld} {k : Nat} {f : Fld} (h : fs[k]? = some f) : fldsB e (fs.take (k + 1)) = fldsB e (fs.take k) ++ uintB (zz (e.get f.1)) := by
  unfold fldsB
  rw [take_step h, List.flatMap_append]
  simp
theorem spB_step {ss : List Spp} {k : Nat} {s : Spp} (h : ss[k]? = some s) : (ss.take (k + 1)).flatMap spB = (ss.take k).flatMap spB ++ spB s := by
  rw [take_step h, List.flatMap_append]
  simp
theorem mayE_parts {e : Evp} (h : mayE e = true) : ∃ fs, fldsOf e.n.kind = some fs ∧ (e.n.kind = 2 ↔ 0 < e.specs.length) ∧ e.specs.length ≤ 8 ∧ ∀ s, s ∈ e.specs → mayS s = true := by
  unfold mayE at h
  cases hf : fldsOf e.n.kind with
  | none => rw [hf] at h; cases h
  | some fs =>
    rw [hf] at h
    cases hc : chkF e.n fs with
    | none => simp only [hc] at h; cases h
    | some e' =>
      simp only [hc, Bool.and_eq_true, decide_eq_true_eq] at h
      obtain ⟨⟨⟨h1, h2⟩, h3⟩, _⟩ := h
      refine ⟨fs, rfl, ?_, h2, List.all_eq_true.1 h3⟩
      unfold kindS at h1
      rw [beq_iff_eq] at h1
      exact decide_eq_decide.1 h1
theorem flatMap_len {α : Type} (g : α → List UInt8) (m : Nat) : ∀ (xs : List α), (∀ x, x ∈ xs → (g x).length ≤ m) → (xs.flatMap g).length ≤ xs.length * m
  | [], _ => by simp
  | x :: xs, h => by
    have h1 := h x (by simp)
    have h2 := flatMap_len g m xs fun y hy => h y (by simp [hy])
    rw [List.flatMap_cons, List.length_append, List.length_cons, Nat.add_mul]
    omega
theorem fldsB_len {e : Evn} {fs : List Fld} (hr : ∀ i, -9223372036854775808 ≤ e.get i ∧ e.get i ≤ 9223372036854775807) : (fldsB e fs).length ≤ fs.length * 10 :=
  flatMap_len _ 10 fs fun f _ => uintB_ten (zz_lt (hr f.1).1 (hr f.1).2)
theorem spB_len {s : Spp} (h : mayS s = true) : (spB s).length ≤ 1820 := by
  have h1 := textS_len h
  have h2 := uintB_ten (n := (textS s).length) (by omega)
  unfold spB
  rw [List.length_append]
  omega
structure EpW (w : World) (x : Evv) (g : Nat) (row : Array Value) (l : List UInt8) (v : Value) (wr : World) : Prop where
  ck : EckW w g row x wr
  own : OwnB wr w.heap.size v l
theorem EpW.next {w wr w' : World} {x : Evv} {g : Nat} {row : Array Value} {l l' : List UInt8} {v v' : Value} (h : EpW w x g row l v wr) (hb : Below wr.heap.size wr w') (ho : OwnB w' wr.heap.size v' l') : EpW w x g row l' v' w' :=
  ⟨h.ck.below hb, ho.base h.ck.bx.low.size⟩
theorem EpW.low {w wr w' : World} {x : Evv} {g : Nat} {row : Array Value} {l : List UInt8} {v : Value} (h : EpW w x g row l v wr) (hb : Below wr.heap.size wr w') : EpW w x g row l v w' := ⟨h.ck.below hb, h.own.low hb⟩
set_option maxRecDepth 100000 in
set_option maxHeartbeats 6400000 in
theorem eput_any (x : Evv) (so : Option Addr) (n c : Nat) (l : List UInt8) (w : World) (hx : x.ok w) (hb : BytsAt w so n l) (hso : so = none → n = 0 ∧ c = 0) (hn : n ≤ 549755813888) (ht : Tb w) :
    Calls Tryd.prog 48 #[.slice so n c, x.val] w fun e w' => ∃ v, e = .returned v ∧ OwnB w' w.heap.size v (l ++ putB x.pl) ∧ Below w.heap.size w w' := by
  have hB0 := BoxE.new w x
  have hcl := cloneB_any so n c l _ (hb.low hB0.low) hso (by omega)
  have hln := hb.len
  obtain ⟨E, hE⟩ : ∃ E, E = errE x.pl := ⟨_, rfl⟩
  have hck : ∀ W, BoxE w x W → Calls Tryd.prog 50 #[x.val] W fun e w' => e = .returned (.int .i64 E) ∧ Below W.heap.size W w' := fun W h => by rw [hE]; exact echeck_any x W (h.ok hx)
  have hfl : ∀ W, BoxE w x W → Calls Tryd.prog 93 #[.pointer (some ⟨w.heap.size, 0, none⟩)] W (FldP x.n.kind w.heap.size W) := fun W h => fields_all (blk_cell h.box 0)
  obtain ⟨⟨kind, epoch, tick, client, seq, job, attempt, node, how⟩, so', m', c', sps'⟩ := x
  obtain ⟨X, hX⟩ : ∃ X : Evv, X = ⟨⟨kind, epoch, tick, client, seq, job, attempt, node, how⟩, so', m', c', sps'⟩ := ⟨_, rfl⟩
  replace hB0 := Lib.hid hB0; replace hcl := Lib.hid hcl; replace hx := Lib.hid hx; replace hb := Lib.hid hb; replace hso := Lib.hid hso; replace hE := Lib.hid hE; replace hck := Lib.hid hck; replace hfl := Lib.hid hfl; replace ht := Lib.hid ht; replace hX := Lib.hid hX; replace hln := Lib.hid hln
  go_enter Tryd.func48, Tryd.ntmps48
  go_wp2_with fail
  refine hcl.out.mono ?_
  rintro e w1 ⟨v1, rfl, hO1, hb1⟩
  have hB1 := hB0.out.below hb1
  have y0 : w1.cell? ⟨w.heap.size, 0, none⟩ = some (.int .i64 kind) := blk_cell hB1.box 0
  have y1 : w1.cell? ⟨w.heap.size, 1, none⟩ = some (.int .i64 epoch) := blk_cell hB1.box 1
  have y2 : w1.cell? ⟨w.heap.size, 2, none⟩ = some (.int .i64 tick) := blk_cell hB1.box 2
  have y3 : w1.cell? ⟨w.heap.size, 3, none⟩ = some (.int .i64 client) := blk_cell hB1.box 3
  have y4 : w1.cell? ⟨w.heap.size, 4, none⟩ = some (.int .i64 seq) := blk_cell hB1.box 4
  have y5 : w1.cell? ⟨w.heap.size, 5, none⟩ = some (.int .i64 job) := blk_cell hB1.box 5
  have y6 : w1.cell? ⟨w.heap.size, 6, none⟩ = some (.int .i64 attempt) := blk_cell hB1.box 6
  have y7 : w1.cell? ⟨w.heap.size, 7, none⟩ = some (.int .i64 node) := blk_cell hB1.box 7
  have y8 : w1.cell? ⟨w.heap.size, 8, none⟩ = some (.int .i64 how) := blk_cell hB1.box 8
  have y9 : w1.cell? ⟨w.heap.size, 9, none⟩ = some (.slice so' m' c') := blk_cell hB1.box 9
  replace hO1 := Lib.hid hO1; replace hb1 := Lib.hid hb1; replace hB1 := Lib.hid hB1
  go_wp2_with fail
  refine (hck.out _ hB1.out).mono ?_
  rintro e w2 ⟨rfl, hb2⟩
  have hB2 := hB1.out.below hb2
  have hO2 := hO1.out.low hb2
  clear y0 y1 y2 y3 y4 y5 y6 y7 y8 y9
  by_cases hm : mayE X.pl = true
  rotate_left
  · have he : E = 130 := by rw [hE.out, ← hX.out]; exact if_neg hm
    have hp : putB X.pl = [] := if_neg hm
    subst he
    have d : ((130 : Int) != (0 : Int)) = true := rfl
    replace hb2 := Lib.hid hb2; replace hB2 := Lib.hid hB2; replace hO2 := Lib.hid hO2; replace hm := Lib.hid hm; replace hp := Lib.hid hp
    go_wp2
    go_ret
    exact ⟨v1, rfl, by rw [← hX.out, hp.out, List.append_nil]; exact hO2.out.base (by have := hB0.out.low.size; omega), hB2.out.low⟩
  have he : E = 0 := by rw [hE.out, ← hX.out]; exact if_pos hm
  subst he
  have d : ((0 : Int) != (0 : Int)) = false := rfl
  obtain ⟨fs, hf, hk2, hs8, hall⟩ := mayE_parts hm
  obtain ⟨hf4, hfo⟩ := flds_ok hf
  have hpu : putB X.pl = uintB (zz kind) ++ fldsB X.n fs ++ (if kind = 2 then uintB (zz m') else []) ++ (sps'.map Spv.pl).flatMap spB := by
    have hml := hx.out.sps.len
    have e1 : putB X.pl = evB X.pl := if_pos hm
    rw [e1]
    unfold evB
    rw [hf]
    have e2 : X.pl.specs.length = m' := by rw [hX.out]; show (sps'.map Spv.pl).length = m'; rw [List.length_map]; exact hml
    show uintB (zz X.pl.n.kind) ++ fldsB X.pl.n fs ++ (if X.pl.n.kind = 2 then uintB (zz (X.pl.specs.length : Nat)) else []) ++ X.pl.specs.flatMap spB = _
    rw [e2, hX.out]
    rfl
  have hm8 : m' ≤ 8 := by
    have hml := hx.out.sps.len
    have e2 : X.pl.specs.length = m' := by rw [hX.out]; show (sps'.map Spv.pl).length = m'; rw [List.length_map]; exact hml
    omega
  have hkm : kind = 2 ↔ 0 < m' := by
    have hml := hx.out.sps.len
    have e2 : X.pl.specs.length = m' := by rw [hX.out]; show (sps'.map Spv.pl).length = m'; rw [List.length_map]; exact hml
    have e3 : X.pl.n.kind = kind := by rw [hX.out]; rfl
    rw [e2, e3] at hk2
    exact hk2
  have hall2 : ∀ s, s ∈ sps' → mayS s.pl = true := fun s hs => hall s.pl (by rw [hX.out]; exact List.mem_map.2 ⟨s, hs, rfl⟩)
  have hfk : fldsOf kind = some fs := by rw [hX.out] at hf; exact hf
  have hrng := hx.out.rng
  have hkr : -9223372036854775808 ≤ kind ∧ kind ≤ 9223372036854775807 := hrng 0
  obtain ⟨o1, c1, rfl, hy1⟩ := hO2.form
  have hci := cint_any o1 l.length c1 l kind w2 hkr.1 hkr.2 hy1 (by rw [hln.out]; omega)
  obtain ⟨L0, hL0⟩ : ∃ L0, L0 = l.length := ⟨_, rfl⟩
  rw [← hL0] at hci
  rw [← hL0]
  have y0 : w2.cell? ⟨w.heap.size, 0, none⟩ = some (.int .i64 kind) := blk_cell hB2.box 0
  have y1 : w2.cell? ⟨w.heap.size, 1, none⟩ = some (.int .i64 epoch) := blk_cell hB2.box 1
  have y2 : w2.cell? ⟨w.heap.size, 2, none⟩ = some (.int .i64 tick) := blk_cell hB2.box 2
  have y3 : w2.cell? ⟨w.heap.size, 3, none⟩ = some (.int .i64 client) := blk_cell hB2.box 3
  have y4 : w2.cell? ⟨w.heap.size, 4, none⟩ = some (.int .i64 seq) := blk_cell hB2.box 4
  have y5 : w2.cell? ⟨w.heap.size, 5, none⟩ = some (.int .i64 job) := blk_cell hB2.box 5
  have y6 : w2.cell? ⟨w.heap.size, 6, none⟩ = some (.int .i64 attempt) := blk_cell hB2.box 6
  have y7 : w2.cell? ⟨w.heap.size, 7, none⟩ = some (.int .i64 node) := blk_cell hB2.box 7
  have y8 : w2.cell? ⟨w.heap.size, 8, none⟩ = some (.int .i64 how) := blk_cell hB2.box 8
  have y9 : w2.cell? ⟨w.heap.size, 9, none⟩ = some (.slice so' m' c') := blk_cell hB2.box 9
  replace hb2 := Lib.hid hb2; replace hB2 := Lib.hid hB2; replace hO2 := Lib.hid hO2; replace hm := Lib.hid hm; replace hf := Lib.hid hf; replace hk2 := Lib.hid hk2; replace hs8 := Lib.hid hs8; replace hall := Lib.hid hall; replace hf4 := Lib.hid hf4; replace hfo := Lib.hid hfo; replace hpu := Lib.hid hpu; replace hkm := Lib.hid hkm; replace hall2 := Lib.hid hall2; replace hfk := Lib.hid hfk; replace hrng := Lib.hid hrng; replace hkr := Lib.hid hkr; replace hy1 := Lib.hid hy1; replace hci := Lib.hid hci; replace hL0 := Lib.hid hL0
  go_wp2_with fail
  refine hci.out.mono ?_
  rintro e w3 ⟨v3, rfl, hO3, hb3⟩
  have hB3 := hB2.out.below hb3
  clear y0 y1 y2 y3 y4 y5 y6 y7 y8 y9
  have hO3' : OwnB w3 w.heap.size v3 (l ++ uintB (zz kind)) := hO3.base hB2.out.low.size
  have hfc := hfl.out _ hB3
  unfold FldP at hfc
  simp only [hfk.out] at hfc
  replace hb3 := Lib.hid hb3; replace hB3 := Lib.hid hB3; replace hO3 := Lib.hid hO3; replace hO3' := Lib.hid hO3'; replace hfc := Lib.hid hfc
  go_wp2_with fail
  refine hfc.out.mono ?_
  rintro e w4 ⟨g, rfl, hgg, hgr, hb4⟩
  obtain ⟨row, hrow⟩ : ∃ row, row = (fs.flatMap (fldV w.heap.size)).toArray := ⟨_, rfl⟩
  rw [← hrow] at hgr
  have hB4 := hB3.out.below hb4
  have hP4 : EpW w X g row (l ++ uintB (zz kind)) v3 w4 := ⟨⟨by rw [hX.out]; exact hB4, hgr⟩, hO3'.out.low hb4⟩
  obtain ⟨F, hF⟩ : ∃ F, F = fs.length := ⟨_, rfl⟩
  rw [← hF]
  have hF4 : F ≤ 4 := by rw [hF]; exact hf4.out
  replace hgg := Lib.hid hgg; replace hrow := Lib.hid hrow; replace hgr := Lib.hid hgr; replace hb4 := Lib.hid hb4; replace hB4 := Lib.hid hB4; replace hP4 := Lib.hid hP4; replace hF := Lib.hid hF
  have hXn : X.n = ⟨kind, epoch, tick, client, seq, job, attempt, node, how⟩ := by rw [hX.out]
  have hlen1 : ∀ k, (l ++ uintB (zz kind) ++ fldsB X.n (fs.take k)).length ≤ L0 + 50 := fun k => by
    have h1 := uintB_ten (zz_lt hkr.out.1 hkr.out.2)
    have h2 := fldsB_len (fs := fs.take k) hrng.out
    have h3 : (fs.take k).length ≤ 4 := Nat.le_trans (List.length_take_le' _ _) (by have := hF.out; omega)
    rw [List.length_append, List.length_append, ← hL0.out]
    have h4 : (fldsB X.n (fs.take k)).length ≤ 40 := by
      rw [hXn]
      omega
    omega
  have hLn : L0 = n := by rw [hL0.out, hln.out]
  replace hXn := Lib.hid hXn; replace hlen1 := Lib.hid hlen1
  go_wp2
  go_loopw [0, 8, 27] (fun bv _ iv wr => ∃ k : Nat, iv = .int .i64 k ∧ k ≤ F ∧ Hid (EpW w X g row (l ++ uintB (zz kind) ++ fldsB X.n (fs.take k)) bv wr)) (fun _ _ iv _ => F - (intOf iv).toNat)
  case atStart => exact ⟨0, rfl, Nat.zero_le _, (by
    have e : l ++ uintB (zz kind) ++ fldsB X.n (fs.take 0) = l ++ uintB (zz kind) := by rw [List.take_zero]; exact List.append_nil _
    rw [e]
    exact hP4.out)⟩
  case round =>
    obtain ⟨k, rfl, hk, hP⟩ := hrel
    obtain ⟨bs, hbs⟩ : ∃ bs, bs = l ++ uintB (zz kind) ++ fldsB X.n (fs.take k) := ⟨_, rfl⟩
    have hbl : bs.length ≤ L0 + 50 := by rw [hbs]; exact hlen1.out k
    have hPb := hP.out
    rw [← hbs] at hPb
    obtain ⟨M, hM⟩ : ∃ M, M = bs.length := ⟨_, rfl⟩
    by_cases hkF : k < F
    · have hkF1 : (k : Int) < F := by omega
      have hk0' : (0 : Int) ≤ (k : Int) := by omega
      obtain ⟨f, hf1⟩ : ∃ f, fs[k]? = some f := ⟨_, List.getElem?_eq_getElem (by have := hF.out; omega)⟩
      obtain ⟨q1, q8, _⟩ := hfo.out f (List.mem_of_getElem? hf1)
      have hstp := fldsB_step (e := X.n) hf1
      obtain ⟨i, lo, hi⟩ := f
      have hrw := hPb.ck.row
      rw [hrow.out] at hrw
      obtain ⟨z0, z1, z2⟩ := fld_cell hrw hf1
      simp only at z0 z1 z2 q1 q8 hstp
      have hvb := blk_cell hPb.ck.bx.box i
      rw [evv_get _ q8] at hvb
      obtain ⟨v, hv⟩ : ∃ v, v = X.n.get i := ⟨_, rfl⟩
      rw [← hv] at hvb hstp
      have hvr : -9223372036854775808 ≤ v ∧ v ≤ 9223372036854775807 := by
        rw [hv, hXn.out]
        exact hrng.out i
      obtain ⟨W6, hW6⟩ : ∃ W6, W6 = wr.alloc (.cells #[.pointer (some ⟨w.heap.size, i, none⟩), .int .i64 lo, .int .i64 hi] 126 (0, 0)) := ⟨_, rfl⟩
      have hb6 : Below wr.heap.size wr W6 := by rw [hW6]; exact (Below.refl _ _).alloc (Nat.le_refl _) _
      have hn6 : W6.heap[wr.heap.size]? = some (.cells #[.pointer (some ⟨w.heap.size, i, none⟩), .int .i64 lo, .int .i64 hi] 126 (0, 0)) := by rw [hW6]; exact blk_new _ _
      have hP6 := hPb.low hb6
      have c0 : W6.cell? ⟨wr.heap.size, 0, none⟩ = some (.pointer (some ⟨w.heap.size, i, none⟩)) := blk_cell hn6 0
      have c6 : W6.cell? ⟨w.heap.size, i, none⟩ = some (.int .i64 v) := (below_cell hb6 (blk_lt hPb.ck.bx.box)).trans hvb
      obtain ⟨o2, c2, rfl, hy2⟩ := hP6.own.form
      rw [← hM] at hy2
      rw [← hM]
      have hci2 := cint_any o2 M c2 bs v W6 hvr.1 hvr.2 hy2 (by omega)
      have hbs2 : bs ++ uintB (zz v) = l ++ uintB (zz kind) ++ fldsB X.n (fs.take (k + 1)) := by rw [hstp, hbs, List.append_assoc]
      have hW6' := Lib.hid hW6
      clear hW6 hvb
      replace hbs := Lib.hid hbs; replace hbl := Lib.hid hbl; replace hPb := Lib.hid hPb; replace hM := Lib.hid hM; replace hf1 := Lib.hid hf1; replace hstp := Lib.hid hstp; replace hrw := Lib.hid hrw; replace hv := Lib.hid hv; replace hvr := Lib.hid hvr; replace hb6 := Lib.hid hb6; replace hn6 := Lib.hid hn6; replace hP6 := Lib.hid hP6; replace hy2 := Lib.hid hy2; replace hci2 := Lib.hid hci2; replace hbs2 := Lib.hid hbs2
      go_upto_region 9 with fail
      rw [← hW6'.out]
      clear z0 z1 z2 hW6'
      go_wp2_with fail
      refine hci2.out.mono ?_
      rintro e w7 ⟨v7, rfl, hO7, hb7⟩
      have hP7 := hP6.out.next hb7 hO7
      rw [hbs2.out] at hP7
      clear c0 c6
      replace hO7 := Lib.hid hO7; replace hb7 := Lib.hid hb7; replace hP7 := Lib.hid hP7
      go_wp2
      go_roundw
      case rel => exact ⟨k + 1, by go_num, by omega, hP7.out⟩
      case measure => simp [intOf]; omega
    · have hkF1 : ¬ (k : Int) < F := by omega
      have htk : fs.take k = fs := List.take_of_length_le (by have := hF.out; omega)
      rw [htk] at hbs
      obtain ⟨o2, c2, rfl, hy2⟩ := hPb.own.form
      rw [← hM] at hy2
      rw [← hM]
      have y0 : wr.cell? ⟨w.heap.size, 0, none⟩ = some (.int .i64 kind) := by
        have h := blk_cell hPb.ck.bx.box 0
        rw [hX.out] at h
        exact h
      have y9 : wr.cell? ⟨w.heap.size, 9, none⟩ = some (.slice so' m' c') := by
        have h := blk_cell hPb.ck.bx.box 9
        rw [hX.out] at h
        exact h
      obtain ⟨B2, hB2'⟩ : ∃ B2, B2 = bs ++ (if kind = 2 then uintB (zz m') else []) := ⟨_, rfl⟩
      have hB2l : B2.length ≤ L0 + 60 := by
        rw [hB2', List.length_append]
        split
        · have := uintB_ten (n := zz (m' : Int)) (zz_lt (by omega) (by omega))
          omega
        · simp; omega
      have hci2 := cint_any o2 M c2 bs (m' : Int) wr (by omega) (by omega) hy2 (by omega)
      have hPo : EpW w X g row bs (.slice o2 M c2) wr := hM ▸ hPb
      replace htk := Lib.hid htk; replace hbs := Lib.hid hbs; replace hbl := Lib.hid hbl; replace hPb := Lib.hid hPb; replace hM := Lib.hid hM; replace hy2 := Lib.hid hy2; replace hB2' := Lib.hid hB2'; replace hB2l := Lib.hid hB2l; replace hci2 := Lib.hid hci2; replace hPo := Lib.hid hPo
      go_upto_if 40 with fail
      go_cut [0] (fun bv wx => EpW w X g row B2 bv wx)
      case first =>
        by_cases g1 : kind = 2
        · have d1 : (kind == (2 : Int)) = true := by rw [g1]; rfl
          have hB3' : B2 = bs ++ uintB (zz m') := by rw [hB2'.out, if_pos g1]
          replace g1 := Lib.hid g1; replace hB3' := Lib.hid hB3'
          go_wp2_with fail
          refine hci2.out.mono ?_
          rintro e w7 ⟨v7, rfl, hO7, hb7⟩
          have hP7 := hPo.out.next hb7 hO7
          rw [← hB3'.out] at hP7
          replace hO7 := Lib.hid hO7; replace hb7 := Lib.hid hb7; replace hP7 := Lib.hid hP7
          go_wp2
          go_meet
          case rel => exact hP7.out
        · have d1 : (kind == (2 : Int)) = false := beq_eq_false_iff_ne.2 g1
          have hB3' : B2 = bs := by rw [hB2'.out, if_neg g1, List.append_nil]
          have hP7 : EpW w X g row B2 (.slice o2 M c2) wr := by rw [hB3']; exact hPo.out
          replace g1 := Lib.hid g1; replace hB3' := Lib.hid hB3'; replace hP7 := Lib.hid hP7
          go_wp2
          go_meet
          case rel => exact hP7.out
      case rest =>
      clear y0 y9
      have hcut' := Lib.hid hcut
      clear hcut
      have y9 : wc.cell? ⟨w.heap.size, 9, none⟩ = some (.slice so' m' c') := by
        have h := blk_cell hcut'.out.ck.bx.box 9
        rw [hX.out] at h
        exact h
      have hsl : ∀ j, ((sps'.map Spv.pl).take j).length ≤ 8 ∧ ((((sps'.map Spv.pl).take j).flatMap spB)).length ≤ 8 * 1820 := fun j => by
        have h1 : ((sps'.map Spv.pl).take j).length ≤ 8 := by
          refine Nat.le_trans (List.length_take_le' _ _) ?_
          rw [List.length_map]
          have := hx.out.sps.len
          exact Nat.le_trans (Nat.le_of_eq this) hm8
        refine ⟨h1, Nat.le_trans (flatMap_len spB 1820 _ fun s hs => ?_) (Nat.mul_le_mul h1 (Nat.le_refl _))⟩
        obtain ⟨z, hz, rfl⟩ := List.mem_map.1 (List.mem_of_mem_take hs)
        exact spB_len (hall2.out z hz)
      replace hsl := Lib.hid hsl
      go_wp2
      go_loopw [0, 10, 49] (fun bv _ iv wz => ∃ k : Nat, iv = .int .i64 k ∧ k ≤ m' ∧ Hid (EpW w X g row (B2 ++ ((sps'.map Spv.pl).take k).flatMap spB) bv wz)) (fun _ _ iv _ => m' - (intOf iv).toNat)
      case atStart => exact ⟨0, rfl, Nat.zero_le _, (by
        have e : B2 ++ ((sps'.map Spv.pl).take 0).flatMap spB = B2 := by rw [List.take_zero]; exact List.append_nil _
        rw [e]
        exact hcut'.out)⟩
      case round =>
        rename World => wz
        obtain ⟨j, rfl, hj, hZ⟩ := hrel
        have hml := hx.out.sps.len
        by_cases hjm : j < m'
        · have hjm1 : (j : Int) < m' := by omega
          have hj0 : (0 : Int) ≤ (j : Int) := by omega
          obtain ⟨s, hs⟩ : ∃ s, sps'[j]? = some s := ⟨_, List.getElem?_eq_getElem (by have h : sps'.length = m' := hml; omega)⟩
          have hxz : SpsAt wz so' m' sps' := hx.out.sps.low hZ.out.ck.bx.low
          obtain ⟨b, off, rfl, hbl3, hcell, hsok⟩ := hxz.cell j s hs
          have hsm := hall2.out s (List.mem_of_getElem? hs)
          have hstp := spB_step (ss := sps'.map Spv.pl) (k := j) (s := s.pl) (by rw [List.getElem?_map, hs]; rfl)
          have htl := textS_len hsm
          obtain ⟨T, hT⟩ : ∃ T, T = ofL (textS s.pl) := ⟨_, rfl⟩
          have hTl : T.size ≤ 1810 := by rw [hT, ofL_size]; exact htl
          have hTd : uintB T.size ++ T.data.toList = spB s.pl := by
            rw [hT, ofL_size]
            unfold spB
            rw [ofL_toL]
          obtain ⟨⟨user, part, nodes, ⟨da, db, dc, dd⟩, wall, prio, array, retries, held, after⟩, sso, sn, scp⟩ := s
          have z0 : wz.cell? ⟨b, off + j * 13, none⟩ = some (.string user) := hcell 0 (by omega)
          have z1 : wz.cell? ⟨b, off + j * 13 + 1, none⟩ = some (.string part) := hcell 1 (by omega)
          have z2 : wz.cell? ⟨b, off + j * 13 + 2, none⟩ = some (.int .i64 nodes) := hcell 2 (by omega)
          have z3 : wz.cell? ⟨b, off + j * 13 + 3, none⟩ = some (.int .i64 da) := hcell 3 (by omega)
          have z4 : wz.cell? ⟨b, off + j * 13 + 4, none⟩ = some (.int .i64 db) := hcell 4 (by omega)
          have z5 : wz.cell? ⟨b, off + j * 13 + 5, none⟩ = some (.int .i64 dc) := hcell 5 (by omega)
          have z6 : wz.cell? ⟨b, off + j * 13 + 6, none⟩ = some (.int .i64 dd) := hcell 6 (by omega)
          have z7 : wz.cell? ⟨b, off + j * 13 + 7, none⟩ = some (.int .i64 wall) := hcell 7 (by omega)
          have z8 : wz.cell? ⟨b, off + j * 13 + 8, none⟩ = some (.int .i64 prio) := hcell 8 (by omega)
          have z9 : wz.cell? ⟨b, off + j * 13 + 9, none⟩ = some (.int .i64 array) := hcell 9 (by omega)
          have z10 : wz.cell? ⟨b, off + j * 13 + 10, none⟩ = some (.int .i64 retries) := hcell 10 (by omega)
          have z11 : wz.cell? ⟨b, off + j * 13 + 11, none⟩ = some (.bool held) := hcell 11 (by omega)
          have z12 : wz.cell? ⟨b, off + j * 13 + 12, none⟩ = some (.slice sso sn scp) := hcell 12 (by omega)
          obtain ⟨W6, hW6⟩ : ∃ W6, W6 = wz.alloc (.cells (⟨⟨user, part, nodes, ⟨da, db, dc, dd⟩, wall, prio, array, retries, held, after⟩, sso, sn, scp⟩ : Spv).cells 28 (0, 0)) := ⟨_, rfl⟩
          have hb6 : Below wz.heap.size wz W6 := by rw [hW6]; exact (Below.refl _ _).alloc (Nat.le_refl _) _
          have hn6 : W6.heap[wz.heap.size]? = some (.cells (⟨⟨user, part, nodes, ⟨da, db, dc, dd⟩, wall, prio, array, retries, held, after⟩, sso, sn, scp⟩ : Spv).cells 28 (0, 0)) := by rw [hW6]; exact blk_new _ _
          have x0 : W6.cell? ⟨wz.heap.size, 0, none⟩ = some (.string user) := blk_cell hn6 0
          have x1 : W6.cell? ⟨wz.heap.size, 1, none⟩ = some (.string part) := blk_cell hn6 1
          have x2 : W6.cell? ⟨wz.heap.size, 2, none⟩ = some (.int .i64 nodes) := blk_cell hn6 2
          have x3 : W6.cell? ⟨wz.heap.size, 3, none⟩ = some (.int .i64 da) := blk_cell hn6 3
          have x4 : W6.cell? ⟨wz.heap.size, 4, none⟩ = some (.int .i64 db) := blk_cell hn6 4
          have x5 : W6.cell? ⟨wz.heap.size, 5, none⟩ = some (.int .i64 dc) := blk_cell hn6 5
          have x6 : W6.cell? ⟨wz.heap.size, 6, none⟩ = some (.int .i64 dd) := blk_cell hn6 6
          have x7 : W6.cell? ⟨wz.heap.size, 7, none⟩ = some (.int .i64 wall) := blk_cell hn6 7
          have x8 : W6.cell? ⟨wz.heap.size, 8, none⟩ = some (.int .i64 prio) := blk_cell hn6 8
          have x9 : W6.cell? ⟨wz.heap.size, 9, none⟩ = some (.int .i64 array) := blk_cell hn6 9
          have x10 : W6.cell? ⟨wz.heap.size, 10, none⟩ = some (.int .i64 retries) := blk_cell hn6 10
          have x11 : W6.cell? ⟨wz.heap.size, 11, none⟩ = some (.bool held) := blk_cell hn6 11
          have x12 : W6.cell? ⟨wz.heap.size, 12, none⟩ = some (.slice sso sn scp) := blk_cell hn6 12
          have hZ6 := hZ.out.low hb6
          have htx : Calls Tryd.prog 27 #[(⟨⟨user, part, nodes, ⟨da, db, dc, dd⟩, wall, prio, array, retries, held, after⟩, sso, sn, scp⟩ : Spv).val] W6 fun e w' => e = .returned (.string T) ∧ Below W6.heap.size W6 w' := by
            rw [hT]
            exact stext_any ⟨⟨user, part, nodes, ⟨da, db, dc, dd⟩, wall, prio, array, retries, held, after⟩, sso, sn, scp⟩ W6 (hsok.low hb6) (ht.out.low hZ6.ck.bx.low)
          have hW6' := Lib.hid hW6
          clear hW6
          replace hml := Lib.hid hml; replace hs := Lib.hid hs; replace hxz := Lib.hid hxz; replace hcell := Lib.hid hcell; replace hsok := Lib.hid hsok; replace hsm := Lib.hid hsm; replace hstp := Lib.hid hstp; replace htl := Lib.hid htl; replace hT := Lib.hid hT; replace hTl := Lib.hid hTl; replace hTd := Lib.hid hTd; replace hb6 := Lib.hid hb6; replace hn6 := Lib.hid hn6; replace hZ6 := Lib.hid hZ6; replace htx := Lib.hid htx
          go_upto_region 16 with fail
          rw [← hW6'.out]
          clear z0 z1 z2 z3 z4 z5 z6 z7 z8 z9 z10 z11 z12 hW6'
          go_wp2_with fail
          refine htx.out.mono ?_
          rintro e w7 ⟨rfl, hb7⟩
          have hZ7 := hZ6.out.low hb7
          obtain ⟨o3, c3, rfl, hy3⟩ := hZ7.own.form
          obtain ⟨bz, hbz⟩ : ∃ bz, bz = B2 ++ ((sps'.map Spv.pl).take j).flatMap spB := ⟨_, rfl⟩
          rw [← hbz] at hy3 hZ7
          rw [← hbz]
          obtain ⟨M3, hM3⟩ : ∃ M3, M3 = bz.length := ⟨_, rfl⟩
          have hbzl : M3 ≤ L0 + 60 + 8 * 1820 := by
            rw [hM3, hbz, List.length_append]
            have h1 := (hsl.out j).2
            have h2 := hB2l.out
            omega
          rw [← hM3] at hy3 hZ7
          rw [← hM3]
          have hct := ctext_any o3 M3 c3 bz T w7 (by have := hTl.out; omega) hy3 (by omega)
          have hbz2 : bz ++ uintB T.size ++ T.data.toList = B2 ++ ((sps'.map Spv.pl).take (j + 1)).flatMap spB := by
            rw [hstp.out, List.append_assoc, hTd.out, hbz, List.append_assoc]
          clear x0 x1 x2 x3 x4 x5 x6 x7 x8 x9 x10 x11 x12
          replace hb7 := Lib.hid hb7; replace hZ7 := Lib.hid hZ7; replace hy3 := Lib.hid hy3; replace hbz := Lib.hid hbz; replace hM3 := Lib.hid hM3; replace hct := Lib.hid hct; replace hbz2 := Lib.hid hbz2
          go_wp2_with fail
          refine hct.out.mono ?_
          rintro e w8 ⟨v8, rfl, hO8, hb8⟩
          have hZ8 := hZ7.out.next hb8 hO8
          rw [hbz2.out] at hZ8
          replace hO8 := Lib.hid hO8; replace hb8 := Lib.hid hb8; replace hZ8 := Lib.hid hZ8
          go_wp2
          go_roundw
          case rel => exact ⟨j + 1, by go_num, by omega, hZ8.out⟩
          case measure => simp [intOf]; omega
        · have hjm1 : ¬ (j : Int) < m' := by omega
          have htk3 : (sps'.map Spv.pl).take j = sps'.map Spv.pl := List.take_of_length_le (by rw [List.length_map]; have h : sps'.length = m' := hml; omega)
          have hfin : B2 ++ ((sps'.map Spv.pl).take j).flatMap spB = l ++ putB X.pl := by
            rw [htk3, hpu.out, hB2'.out, hbs.out]
            simp only [List.append_assoc]
          have hZf := hZ.out.own
          rw [hfin] at hZf
          replace hml := Lib.hid hml; replace htk3 := Lib.hid htk3; replace hfin := Lib.hid hfin; replace hZf := Lib.hid hZf
          go_wp2
          go_ret
          exact ⟨_, rfl, by rw [← hX.out]; exact hZf.out, hZ.out.ck.bx.low⟩
end Go.Proofs.YteoihdkaoipocaaDoor

/- event.specs 97: the specs of a request, off a reader. Plain theorems: no condition. -/
namespace Go.Proofs.YteoihdkaoipocaaDoor
open Go.RowKit Go.Maps

/-- is a text no spec's text? -/
def badT (t : List UInt8) : Bool := decide ((parseOf (ofL t)).2.1 ≠ 0) || decide (ofL (textS (parseOf (ofL t)).1) ≠ ofL t)
/-- what is left of a reader behind a text -/
def aftT (l : List UInt8) (e : Int) : List UInt8 × Int := if badT (textR l e 4096).1 = true then (failL (textR l e 4096).2.1 (textR l e 4096).2.2 130, failE (textR l e 4096).2.2 130) else (textR l e 4096).2
/-- so many specs off a reader -/
def spsR : Nat → List UInt8 → Int → List Spp × List UInt8 × Int
  | 0, l, e => ([], l, e)
  | k + 1, l, e => if e ≠ 0 then ([], l, e) else ((parseOf (ofL (textR l e 4096).1)).1 :: (spsR k (aftT l e).1 (aftT l e).2).1, (spsR k (aftT l e).1 (aftT l e).2).2)
def specsR (l : List UInt8) (e : Int) : List Spp × List UInt8 × Int :=
  if (intR l e).1 < 1 ∨ 8 < (intR l e).1 then ([], failL (intR l e).2.1 (intR l e).2.2 130, failE (intR l e).2.2 130) else spsR (intR l e).1.toNat (intR l e).2.1 (intR l e).2.2
theorem spsR_err {k : Nat} {l : List UInt8} {e : Int} (h : e ≠ 0) : spsR k l e = ([], l, e) := by
  cases k with
  | zero => rfl
  | succ k => rw [spsR, if_pos h]
theorem IntsAt.keep {w w' : World} {so : Option Addr} {n : Nat} {l : List Int} (h : IntsAt w so n l) (hs : w.heap.size ≤ w'.heap.size) (hk : ∀ b off, so = some ⟨b, off, none⟩ → l ≠ [] → b < w.heap.size → w'.heap[b]? = w.heap[b]?) : IntsAt w' so n l :=
  ⟨h.len, h.max, fun i x hx => by
    obtain ⟨b, off, e, hlt, hc⟩ := h.cell i x hx
    refine ⟨b, off, e, Nat.lt_of_lt_of_le hlt hs, ?_⟩
    rw [← hc]
    simp only [World.cell?, hk b off e (fun c => by rw [c] at hx; simp at hx) hlt]⟩
/-- specs of a row of one's own: they may be, and their rows lie elsewhere -/
structure SpT (B : Nat) (v : Value) (W : World) (xs : List Spv) : Prop where
  ok : ∀ x, x ∈ xs → x.ok W
  fr : ∀ x, x ∈ xs → x.pl.after ≠ [] → ∀ b o, x.so = some ⟨b, o, none⟩ → B ≤ b ∧ b < W.heap.size ∧ v.ownBlock ≠ some b
theorem SpT.low {B : Nat} {v : Value} {W W' : World} {xs : List Spv} (h : SpT B v W xs) (hb : Below W.heap.size W W') : SpT B v W' xs :=
  ⟨fun x hx => (h.ok x hx).low hb, fun x hx ha b o e => by obtain ⟨h1, h2, h3⟩ := h.fr x hx ha b o e; exact ⟨h1, Nat.lt_of_lt_of_le h2 hb.size, h3⟩⟩
theorem SpT.kept {B rb : Nat} {v : Value} {W W' : World} {xs : List Spv} (h : SpT B v W xs) (hk : Kept rb W W') (hr : rb < B) : SpT B v W' xs := by
  refine ⟨fun x hx => ?_, fun x hx ha b o e => ?_⟩
  · have hx2 := h.ok x hx
    refine ⟨hx2.after.keep hk.size fun b off e ha hlt => hk.block b hlt ?_, hx2.ple, hx2.user, hx2.part⟩
    have := (h.fr x hx ha b off e).1
    omega
  · obtain ⟨h1, h2, h3⟩ := h.fr x hx ha b o e
    exact ⟨h1, Nat.lt_of_lt_of_le h2 hk.size, h3⟩
theorem SpT.grown {B : Nat} {v v' : Value} {W W' : World} {xs : List Spv} (h : SpT B v W xs) (hg : W.grownBy W' v.ownBlock) (ho : v'.ownBlock = v.ownBlock ∨ v'.ownBlock = some W.heap.size) : SpT B v' W' xs := by
  refine ⟨fun x hx => ?_, fun x hx ha b o e => ?_⟩
  · have hx2 := h.ok x hx
    refine ⟨hx2.after.keep hg.size fun b off e ha hlt => hg.block b hlt ?_, hx2.ple, hx2.user, hx2.part⟩
    exact fun c => (h.fr x hx ha b off e).2.2 c.symm
  · obtain ⟨h1, h2, h3⟩ := h.fr x hx ha b o e
    refine ⟨h1, Nat.lt_of_lt_of_le h2 hg.size, ?_⟩
    rcases ho with ho | ho
    · rw [ho]; exact h3
    · rw [ho]
      intro c
      injection c with c
      omega
theorem SpT.add {B : Nat} {v : Value} {W : World} {xs : List Spv} {x : Spv} (h : SpT B v W xs) (hx : x.ok W) (hf : ∀ b o, x.so = some ⟨b, o, none⟩ → B ≤ b ∧ v.ownBlock ≠ some b) : SpT B v W (xs ++ [x]) := by
  refine ⟨fun y hy => ?_, fun y hy ha b o e => ?_⟩
  · rcases List.mem_append.1 hy with hy | hy
    · exact h.ok y hy
    · rw [List.mem_singleton.1 hy]; exact hx
  · rcases List.mem_append.1 hy with hy | hy
    · exact h.fr y hy ha b o e
    · have := List.mem_singleton.1 hy
      subst this
      obtain ⟨h1, h2⟩ := hf b o e
      refine ⟨h1, ?_, h2⟩
      cases hz : y.pl.after with
      | nil => exact absurd hz ha
      | cons z zs =>
        obtain ⟨b', o', e', hlt, _⟩ := hx.after.cell 0 z (by rw [hz]; rfl)
        rw [e] at e'
        simp only [Option.some.injEq, Addr.mk.injEq, and_true] at e'
        rw [e'.1]
        exact hlt
theorem ownS_kept {w w' : World} {B rb : Nat} {v : Value} {xs : List Spv} (h : OwnS w B v xs) (hk : Kept rb w w') (hr : rb < B) : OwnS w' B v xs := by
  refine ⟨h.row.1, ?_⟩
  rcases h.row.2 with ⟨hv, h0⟩ | ⟨g, cap, cur, hv, hg, hh, hrr⟩
  · exact .inl ⟨hv, h0⟩
  · exact .inr ⟨g, cap, cur, hv, hg, hk.blk hh (by omega), hrr⟩
theorem ownS_lt {w : World} {B : Nat} {v : Value} {xs : List Spv} (h : OwnS w B v xs) : ∀ k, v.ownBlock = some k → B ≤ k ∧ k < w.heap.size := fun k hk => h.row.lt k hk
theorem ownS_sps {w : World} {B : Nat} {v : Value} {xs : List Spv} (h : OwnS w B v xs) (hok : ∀ x, x ∈ xs → x.ok w) : ∃ so c, v = .slice so xs.length c ∧ xs.length ≤ c ∧ SpsAt w so xs.length xs := by
  rcases h.row.2 with ⟨hv, h0⟩ | ⟨g, cap, cur, hv, hg, hh, hnc, hmx, hsz, hr⟩
  · have e : xs = [] := List.eq_nil_of_length_eq_zero h0
    subst e
    exact ⟨none, 0, hv, Nat.le_refl _, rfl, by simp, fun i x h => by simp at h⟩
  · refine ⟨some ⟨g, 0, none⟩, cap, hv, hnc, rfl, ?_, fun i x hx => ⟨g, 0, rfl, blk_lt hh, fun j hj => ?_, hok x (List.mem_of_getElem? hx)⟩⟩
    · have : maxLen = 9223372036854775807 := by kernel_rfl
      omega
    · have hi := (List.getElem?_eq_some_iff.1 hx).1
      rw [Nat.zero_add, blk_cell hh]
      have h2 := flatv_get (cells := Spv.cells) (sz := 13) (fun _ => rfl) xs hx hj
      rw [← hr, List.getElem?_take_of_lt (by omega)] at h2
      simpa using h2
theorem Kept.then {rb B : Nat} {w wr w' : World} (h : Kept rb w wr) (hb : Below B wr w') (hB : w.heap.size ≤ B) : Kept rb w w' :=
  ⟨hb.os.trans h.os, hb.tape.trans h.tape, hb.output.trans h.output, Nat.le_trans h.size hb.size, fun k hk hn => (hb.block k (by omega)).trans (h.block k hk hn)⟩
/-- within the loop -/
structure SpL (w : World) (rb B : Nat) (l : List UInt8) (e : Int) (v : Value) (xs : List Spv) (wr : World) : Prop where
  rd : Rdr wr rb B l e
  own : OwnS wr w.heap.size v xs
  sp : SpT w.heap.size v wr xs
  kp : Kept rb w wr
theorem SpL.low {w : World} {rb B : Nat} {l : List UInt8} {e : Int} {v : Value} {xs : List Spv} {wr w' : World} (h : SpL w rb B l e v xs wr) (hb : Below wr.heap.size wr w') : SpL w rb B l e v xs w' :=
  ⟨h.rd.low hb, ownS_low h.own hb, h.sp.low hb, h.kp.then hb h.kp.size⟩
theorem SpL.kept {w : World} {rb B : Nat} {l l' : List UInt8} {e e' : Int} {v : Value} {xs : List Spv} {wr w' : World} (h : SpL w rb B l e v xs wr) (hk : Kept rb wr w') (hr : rb < w.heap.size) (hR : Rdr w' rb B l' e') : SpL w rb B l' e' v xs w' :=
  ⟨hR, ownS_kept h.own hk hr, h.sp.kept hk hr, h.kp.trans hk⟩
def SpsPost (rb B : Nat) (l : List UInt8) (e : Int) (w : World) (en : Ending) (w' : World) : Prop :=
  ∃ so m c xs, en = .returned (.slice so m c) ∧ m ≤ c ∧ SpsAt w' so m xs ∧ xs.map Spv.pl = (specsR l e).1 ∧ (∀ b o, so = some ⟨b, o, none⟩ → w.heap.size ≤ b) ∧ (∀ x, x ∈ xs → x.pl.after ≠ [] → ∀ b o, x.so = some ⟨b, o, none⟩ → w.heap.size ≤ b) ∧ Rdr w' rb B (specsR l e).2.1 (specsR l e).2.2 ∧ Kept rb w w'
theorem Kept.from {rb : Nat} {w0 w w' : World} (h0 : Below w0.heap.size w0 w) (hr : w0.heap.size ≤ rb) (hl : rb < w.heap.size) (h : Kept rb w w') : Below w0.heap.size w0 w' := h0.trans (h.below hr hl)
def sliceN : Value → Nat
  | .slice _ n _ => n
  | _ => 0
set_option maxRecDepth 100000 in
set_option maxHeartbeats 6400000 in
theorem especs_any {w0 w : World} {rb B : Nat} {l : List UInt8} {e : Int} (h : Rdr w rb B l e) (hB : B ≤ w.heap.size) (hm : Mx w0) (ht : Tb w0) (h0 : Below w0.heap.size w0 w) (hr0 : w0.heap.size ≤ rb) : Calls Tryd.prog 97 #[.pointer (some ⟨rb, 0, none⟩)] w (SpsPost rb B l e w) := by
  obtain ⟨i28, hi28, hz28, hz281, hz282⟩ := info_parts info28
  have hrbw := h.lt
  have hki := rint_any h
  obtain ⟨N, hN⟩ : ∃ N, N = (intR l e).1 := ⟨_, rfl⟩
  obtain ⟨l1, hl1⟩ : ∃ l1, l1 = (intR l e).2.1 := ⟨_, rfl⟩
  obtain ⟨e1, he1⟩ : ∃ e1, e1 = (intR l e).2.2 := ⟨_, rfl⟩
  have hS0 : specsR l e = if N < 1 ∨ 8 < N then ([], failL l1 e1 130, failE e1 130) else spsR N.toNat l1 e1 := by unfold specsR; rw [← hN, ← hl1, ← he1]
  rw [← hN, ← hl1, ← he1] at hki
  unfold SpsPost
  by_cases hbad : N < 1 ∨ 8 < N
  · rw [if_pos hbad] at hS0
    have hd : (decide (N < 1) = true) ∨ (decide (N < 1) = false ∧ decide (8 < N) = true) := by
      by_cases c : N < 1
      · exact .inl (decide_eq_true c)
      · exact .inr ⟨decide_eq_false c, decide_eq_true (by omega)⟩
    replace h := Lib.hid h; replace hB := Lib.hid hB; replace hm := Lib.hid hm; replace ht := Lib.hid ht; replace h0 := Lib.hid h0; replace hki := Lib.hid hki; replace hN := Lib.hid hN; replace hl1 := Lib.hid hl1; replace he1 := Lib.hid he1; replace hS0 := Lib.hid hS0; replace hbad := Lib.hid hbad; replace hrbw := Lib.hid hrbw
    go_enter Tryd.func97, Tryd.ntmps97
    go_wp2_with fail
    refine hki.out.mono ?_
    rintro en w1 ⟨rfl, hR1, hK1⟩
    have hF := rfail_any hR1 130
    replace hR1 := Lib.hid hR1; replace hK1 := Lib.hid hK1; replace hF := Lib.hid hF
    rcases hd with d1 | ⟨d1, d2⟩
    · go_wp2_with fail
      refine hF.out.mono ?_
      rintro en w2 ⟨rfl, hR2, hK2⟩
      have hKK := hK1.out.trans hK2
      replace hR2 := Lib.hid hR2; replace hK2 := Lib.hid hK2; replace hKK := Lib.hid hKK
      go_wp2
      go_ret
      exact ⟨none, 0, 0, [], rfl, Nat.le_refl _, ⟨rfl, by omega, fun i x h => by simp at h⟩, by rw [hS0.out]; rfl, fun b o e => (by cases e), fun x hx => (by cases hx), by rw [hS0.out]; exact hR2.out, hKK.out⟩
    · go_wp2_with fail
      refine hF.out.mono ?_
      rintro en w2 ⟨rfl, hR2, hK2⟩
      have hKK := hK1.out.trans hK2
      replace hR2 := Lib.hid hR2; replace hK2 := Lib.hid hK2; replace hKK := Lib.hid hKK
      go_wp2
      go_ret
      exact ⟨none, 0, 0, [], rfl, Nat.le_refl _, ⟨rfl, by omega, fun i x h => by simp at h⟩, by rw [hS0.out]; rfl, fun b o e => (by cases e), fun x hx => (by cases hx), by rw [hS0.out]; exact hR2.out, hKK.out⟩
  rw [if_neg hbad] at hS0
  obtain ⟨nn, hnn⟩ : ∃ nn : Nat, N = nn := ⟨N.toNat, by omega⟩
  subst hnn
  have hn8 : nn ≤ 8 := by omega
  have d1 : decide ((nn : Int) < 1) = false := decide_eq_false (by omega)
  have d2 : decide ((8 : Int) < (nn : Int)) = false := decide_eq_false (by omega)
  have d1' : decide (nn < 1) = false := decide_eq_false (by omega)
  have d2' : decide (8 < nn) = false := decide_eq_false (by omega)
  rw [Int.toNat_natCast] at hS0
  replace h := Lib.hid h; replace hB := Lib.hid hB; replace hm := Lib.hid hm; replace ht := Lib.hid ht; replace h0 := Lib.hid h0; replace hki := Lib.hid hki; replace hN := Lib.hid hN; replace hl1 := Lib.hid hl1; replace he1 := Lib.hid he1; replace hS0 := Lib.hid hS0; replace hbad := Lib.hid hbad; replace hrbw := Lib.hid hrbw; replace hi28 := Lib.hid hi28; replace hz28 := Lib.hid hz28; replace hz281 := Lib.hid hz281; replace hz282 := Lib.hid hz282
  go_enter Tryd.func97, Tryd.ntmps97
  go_wp2_with fail
  refine hki.out.mono ?_
  rintro en w1 ⟨rfl, hR1, hK1⟩
  have hL1 : SpL w rb B l1 e1 (.slice none 0 0) [] w1 := ⟨hR1, ⟨rfl, .inl ⟨rfl, rfl⟩⟩, ⟨fun x hx => (by cases hx), fun x hx => (by cases hx)⟩, hK1⟩
  replace hR1 := Lib.hid hR1; replace hK1 := Lib.hid hK1; replace hL1 := Lib.hid hL1
  go_wp2
  go_loopw [4, 5, 6, 7, 8] (fun ov _ _ _ _ wr => ∃ (k : Nat) (xs : List Spv) (l' : List UInt8) (e' : Int) (so : Option Addr) (c : Nat), ov = .slice so k c ∧ k ≤ nn ∧ Hid (xs.length = k) ∧ Hid (specsR l e = (xs.map Spv.pl ++ (spsR (nn - k) l' e').1, (spsR (nn - k) l' e').2)) ∧ Hid (SpL w rb B l' e' (.slice so k c) xs wr)) (fun ov _ _ _ _ _ => nn - sliceN ov)
  case atStart => exact ⟨0, [], l1, e1, none, 0, rfl, Nat.zero_le _, rfl, by rw [hS0.out]; rfl, hL1.out⟩
  case round =>
    obtain ⟨k, xs, l', e', so, c, rfl, hk, hxl, hS, hL⟩ := hrel
    rename World => wo
    by_cases hkn : k < nn
    rotate_left
    · have g1 : decide ((k : Int) < (nn : Int)) = false := decide_eq_false (by omega)
      have g1' : decide (k < nn) = false := decide_eq_false hkn
      have hS2 : specsR l e = (xs.map Spv.pl, l', e') := by rw [hS.out, show nn - k = 0 by omega]; simp [spsR]
      obtain ⟨so2, c2, hv2, hnc2, hsps⟩ := ownS_sps hL.out.own hL.out.sp.ok
      injection hv2 with hv3 hv4 hv5
      replace hS2 := Lib.hid hS2; replace hnc2 := Lib.hid hnc2; replace hsps := Lib.hid hsps; replace hkn := Lib.hid hkn; replace hv3 := Lib.hid hv3; replace hv4 := Lib.hid hv4; replace hv5 := Lib.hid hv5
      go_wp2
      go_ret
      refine ⟨so, k, c, xs, rfl, by rw [hv5.out, ← hxl.out]; exact hnc2.out, by rw [hv3.out, ← hxl.out]; exact hsps.out, by rw [hS2.out], fun b o e => ?_, fun x hx ha b o e => (hL.out.sp.fr x hx ha b o e).1, by rw [hS2.out]; exact hL.out.rd, hL.out.kp⟩
      exact (ownS_lt hL.out.own b (by rw [e]; rfl)).1
    have g1 : decide ((k : Int) < (nn : Int)) = true := decide_eq_true (by omega)
    have g1' : decide (k < nn) = true := decide_eq_true hkn
    have hE := rerr_any hL.out.rd
    by_cases q : e' = 0
    rotate_left
    · have g2 : (e' == (0 : Int)) = false := beq_eq_false_iff_ne.2 q
      have hS2 : specsR l e = (xs.map Spv.pl, l', e') := by rw [hS.out, spsR_err q]; simp
      obtain ⟨so2, c2, hv2, hnc2, hsps⟩ := ownS_sps hL.out.own hL.out.sp.ok
      injection hv2 with hv3 hv4 hv5
      replace hS2 := Lib.hid hS2; replace hnc2 := Lib.hid hnc2; replace hsps := Lib.hid hsps; replace hv3 := Lib.hid hv3; replace hv4 := Lib.hid hv4; replace hv5 := Lib.hid hv5; replace hE := Lib.hid hE; replace q := Lib.hid q; replace hkn := Lib.hid hkn
      go_wp2_with fail
      refine hE.out.mono ?_
      rintro en w2 ⟨rfl, rfl⟩
      go_wp2
      go_ret
      refine ⟨so, k, c, xs, rfl, by rw [hv5.out, ← hxl.out]; exact hnc2.out, by rw [hv3.out, ← hxl.out]; exact hsps.out, by rw [hS2.out], fun b o e => ?_, fun x hx ha b o e => (hL.out.sp.fr x hx ha b o e).1, by rw [hS2.out]; exact hL.out.rd, hL.out.kp⟩
      exact (ownS_lt hL.out.own b (by rw [e]; rfl)).1
    subst q
    have g2 : ((0 : Int) == (0 : Int)) = true := rfl
    have hTx := rtxt_any hL.out.rd 4096 (by decide)
    obtain ⟨t, htt⟩ : ∃ t, t = (textR l' 0 4096).1 := ⟨_, rfl⟩
    obtain ⟨l2, hl2⟩ : ∃ l2, l2 = (textR l' 0 4096).2.1 := ⟨_, rfl⟩
    obtain ⟨e2, he2⟩ : ∃ e2, e2 = (textR l' 0 4096).2.2 := ⟨_, rfl⟩
    rw [← htt, ← hl2, ← he2] at hTx
    obtain ⟨T, hT'⟩ : ∃ T, T = ofL t := ⟨_, rfl⟩
    rw [← hT'] at hTx
    have hT : ofL (textR l' 0 4096).1 = T := by rw [hT', htt]
    obtain ⟨P, hP'⟩ : ∃ P, P = parseOf T := ⟨_, rfl⟩
    have hP : parseOf T = P := hP'.symm
    obtain ⟨bad, hbd⟩ : ∃ bad, bad = badT t := ⟨_, rfl⟩
    have haf : aftT l' 0 = if bad = true then (failL l2 e2 130, failE e2 130) else (l2, e2) := by
      have hpr : (textR l' 0 4096).2 = (l2, e2) := by rw [hl2, he2]
      unfold aftT
      rw [← htt, ← hbd, hpr]
    have hbd2 : bad = (decide (P.2.1 ≠ 0) || decide (ofL (textS P.1) ≠ T)) := by rw [hbd, ← hP, hT']; rfl
    have hpa : ∀ W, Kept rb w W → Calls Tryd.prog 22 #[.string T] W (ParsePost T W) := fun W hk => parse_any T W (hm.out.low (hk.from h0.out hr0 hrbw.out))
    unfold ParsePost at hpa
    rw [hP] at hpa
    replace hE := Lib.hid hE; replace hTx := Lib.hid hTx; replace htt := Lib.hid htt; replace hl2 := Lib.hid hl2; replace he2 := Lib.hid he2; replace hT' := Lib.hid hT'; replace hT := Lib.hid hT; replace hP' := Lib.hid hP'; replace hP := Lib.hid hP; replace hbd := Lib.hid hbd; replace haf := Lib.hid haf; replace hbd2 := Lib.hid hbd2; replace hpa := Lib.hid hpa; replace hkn := Lib.hid hkn
    go_wp2_with fail
    refine hE.out.mono ?_
    rintro en w2 ⟨rfl, rfl⟩
    go_wp2_with fail
    refine hTx.out.mono ?_
    rintro en w3 ⟨rfl, hR3, hK3⟩
    have hL3 := hL.out.kept hK3 hrbw.out hR3
    replace hR3 := Lib.hid hR3; replace hK3 := Lib.hid hK3; replace hL3 := Lib.hid hL3
    go_wp2_with fail
    refine (hpa.out _ hL3.out.kp).mono ?_
    rintro en w4 ⟨x, rfl, hx4, hxp4, hb4, hfr4⟩
    have hL4 := hL3.out.low hb4
    obtain ⟨⟨user, part, nodes, ⟨da, db, dc, dd⟩, wall, prio, array, retries, held, after⟩, sso, sn, scp⟩ := x
    obtain ⟨sb, hsb⟩ : ∃ sb, sb = w4.heap.size := ⟨_, rfl⟩
    obtain ⟨W5, hW5⟩ : ∃ W5, W5 = w4.alloc (.cells (⟨⟨user, part, nodes, ⟨da, db, dc, dd⟩, wall, prio, array, retries, held, after⟩, sso, sn, scp⟩ : Spv).cells 28 (0, 0)) := ⟨_, rfl⟩
    have hb5 : Below w4.heap.size w4 W5 := by rw [hW5]; exact (Below.refl _ _).alloc (Nat.le_refl _) _
    have hL5 := hL4.low hb5
    have hx5 := hx4.low hb5
    have hXd5 : W5.heap[sb]? = some (.cells (⟨⟨user, part, nodes, ⟨da, db, dc, dd⟩, wall, prio, array, retries, held, after⟩, sso, sn, scp⟩ : Spv).cells 28 (0, 0)) := by rw [hW5, hsb]; exact blk_new _ _
    have hLt : ∀ b, (Value.slice so k c).ownBlock = some b → b < w3.heap.size := fun b hb => (ownS_lt hL3.out.own b hb).2
    have hXf : ∀ b o, sso = some ⟨b, o, none⟩ → w.heap.size ≤ b ∧ w3.heap.size ≤ b := fun b o e => by
      have h1 := hfr4 b o e
      have h2 := hL3.out.kp.size
      exact ⟨by omega, h1⟩
    have hXe : (⟨user, part, nodes, ⟨da, db, dc, dd⟩, wall, prio, array, retries, held, after⟩ : Spp) = P.1 := hxp4
    have htx : Calls Tryd.prog 27 #[(⟨⟨user, part, nodes, ⟨da, db, dc, dd⟩, wall, prio, array, retries, held, after⟩, sso, sn, scp⟩ : Spv).val] W5 fun e w' => e = .returned (.string (ofL (textS P.1))) ∧ Below W5.heap.size W5 w' := by
      rw [← hXe]
      exact stext_any (⟨⟨user, part, nodes, ⟨da, db, dc, dd⟩, wall, prio, array, retries, held, after⟩, sso, sn, scp⟩ : Spv) W5 hx5 (ht.out.low (hL5.kp.from h0.out hr0 hrbw.out))
    obtain ⟨pe, hpe⟩ : ∃ pe, pe = P.2.1 := ⟨_, rfl⟩
    obtain ⟨TS, hTS⟩ : ∃ TS, TS = ofL (textS P.1) := ⟨_, rfl⟩
    rw [← hTS] at htx
    rw [← hpe]
    have hbd3 : bad = (decide (pe ≠ 0) || decide (TS ≠ T)) := by rw [hbd2.out, ← hpe, ← hTS]
    have x0 : W5.cell? ⟨sb, 0, none⟩ = some (.string user) := blk_cell hXd5 0
    have x1 : W5.cell? ⟨sb, 1, none⟩ = some (.string part) := blk_cell hXd5 1
    have x2 : W5.cell? ⟨sb, 2, none⟩ = some (.int .i64 nodes) := blk_cell hXd5 2
    have x3 : W5.cell? ⟨sb, 3, none⟩ = some (.int .i64 da) := blk_cell hXd5 3
    have x4 : W5.cell? ⟨sb, 4, none⟩ = some (.int .i64 db) := blk_cell hXd5 4
    have x5 : W5.cell? ⟨sb, 5, none⟩ = some (.int .i64 dc) := blk_cell hXd5 5
    have x6 : W5.cell? ⟨sb, 6, none⟩ = some (.int .i64 dd) := blk_cell hXd5 6
    have x7 : W5.cell? ⟨sb, 7, none⟩ = some (.int .i64 wall) := blk_cell hXd5 7
    have x8 : W5.cell? ⟨sb, 8, none⟩ = some (.int .i64 prio) := blk_cell hXd5 8
    have x9 : W5.cell? ⟨sb, 9, none⟩ = some (.int .i64 array) := blk_cell hXd5 9
    have x10 : W5.cell? ⟨sb, 10, none⟩ = some (.int .i64 retries) := blk_cell hXd5 10
    have x11 : W5.cell? ⟨sb, 11, none⟩ = some (.bool held) := blk_cell hXd5 11
    have x12 : W5.cell? ⟨sb, 12, none⟩ = some (.slice sso sn scp) := blk_cell hXd5 12
    have hW5' := Lib.hid hW5
    have hsb' := Lib.hid hsb
    clear hW5 hsb
    replace hx4 := Lib.hid hx4; replace hxp4 := Lib.hid hxp4; replace hb4 := Lib.hid hb4; replace hfr4 := Lib.hid hfr4; replace hL4 := Lib.hid hL4; replace hb5 := Lib.hid hb5; replace hL5 := Lib.hid hL5; replace hx5 := Lib.hid hx5; replace hXd5 := Lib.hid hXd5; replace hLt := Lib.hid hLt; replace hXf := Lib.hid hXf; replace hXe := Lib.hid hXe; replace htx := Lib.hid htx; replace hpe := Lib.hid hpe; replace hTS := Lib.hid hTS; replace hbd3 := Lib.hid hbd3
    go_upto_region 9 with fail
    rw [← hW5'.out, ← hsb'.out]
    go_cut [43] from 36 to 44 (fun bv wx => RwC W5 bad bv wx)
    case first =>
      by_cases q1 : pe = 0
      · have g3 : (pe != (0 : Int)) = false := by rw [q1]; rfl
        replace q1 := Lib.hid q1
        go_wp2_with fail
        refine htx.out.mono ?_
        rintro en w6 ⟨rfl, hb6⟩
        by_cases q2 : TS = T
        · have d := str_eq q2
          have hbf : bad = false := by rw [hbd3.out, decide_eq_false (by simpa using q1.out), decide_eq_false (by simpa using q2)]; rfl
          replace hb6 := Lib.hid hb6; replace q2 := Lib.hid q2; replace hbf := Lib.hid hbf
          go_wp2
          go_meet
          exact ⟨by rw [hbf.out], hb6.out⟩
        · have d := str_ne q2
          have hbf : bad = true := by rw [hbd3.out, decide_eq_true q2, Bool.or_true]
          replace hb6 := Lib.hid hb6; replace q2 := Lib.hid q2; replace hbf := Lib.hid hbf
          go_wp2
          go_meet
          exact ⟨by rw [hbf.out], hb6.out⟩
      · have g3 : (pe != (0 : Int)) = true := by rw [bne_iff_ne]; exact q1
        have hbf : bad = true := by rw [hbd3.out, decide_eq_true q1, Bool.true_or]
        replace q1 := Lib.hid q1; replace hbf := Lib.hid hbf
        go_wp2
        go_meet
        exact ⟨by rw [hbf.out], Below.refl _ _⟩
    case rest =>
    obtain ⟨rfl, hbc⟩ := hcut
    have hLc := hL5.out.low hbc
    have hXc := blk_below hbc hXd5.out (blk_lt hXd5.out)
    have hXo := hx5.out.low hbc
    clear x0 x1 x2 x3 x4 x5 x6 x7 x8 x9 x10 x11 x12
    cases bad with
    | true =>
      have hF := rfail_any hLc.rd 130
      replace hbc := Lib.hid hbc; replace hLc := Lib.hid hLc; replace hXc := Lib.hid hXc; replace hXo := Lib.hid hXo; replace hF := Lib.hid hF
      go_wp2_with fail
      refine hF.out.mono ?_
      rintro en wz ⟨rfl, hRz, hKz⟩
      obtain ⟨lz, hlz⟩ : ∃ lz, lz = failL l2 e2 130 := ⟨_, rfl⟩
      obtain ⟨ez, hez⟩ : ∃ ez, ez = failE e2 130 := ⟨_, rfl⟩
      rw [← hlz, ← hez] at hRz
      have hLz := hLc.out.kept hKz hrbw.out hRz
      have haft : aftT l' 0 = (lz, ez) := haf.out.trans (by rw [hlz, hez]; rfl)
      have hsbn : sb ≠ rb := by
        have h1 := hL4.out.kp.size
        have h2 := hsb'.out
        have h3 := hrbw.out
        omega
      have hXd := hKz.blk hXc.out hsbn
      have hXok : (⟨⟨user, part, nodes, ⟨da, db, dc, dd⟩, wall, prio, array, retries, held, after⟩, sso, sn, scp⟩ : Spv).ok wz := by
        refine ⟨hXo.out.after.keep hKz.size fun b off e _ hlt => hKz.block b hlt ?_, hXo.out.ple, hXo.out.user, hXo.out.part⟩
        have h1 := (hXf.out b off e).1
        have h3 := hrbw.out
        omega
      replace hRz := Lib.hid hRz; replace hKz := Lib.hid hKz; replace hLz := Lib.hid hLz; replace haft := Lib.hid haft; replace hXd := Lib.hid hXd; replace hXok := Lib.hid hXok; replace hsbn := Lib.hid hsbn; replace hlz := Lib.hid hlz; replace hez := Lib.hid hez
      obtain ⟨X, hX⟩ : ∃ X : Spv, X = (⟨⟨user, part, nodes, ⟨da, db, dc, dd⟩, wall, prio, array, retries, held, after⟩, sso, sn, scp⟩ : Spv) := ⟨_, rfl⟩
      have hsp13 := hXd.out
      have s0 : wz.cell? ⟨sb, 0, none⟩ = some (.string user) := blk_cell hsp13 0
      have s1 : wz.cell? ⟨sb, 1, none⟩ = some (.string part) := blk_cell hsp13 1
      have s2 : wz.cell? ⟨sb, 2, none⟩ = some (.int .i64 nodes) := blk_cell hsp13 2
      have s3 : wz.cell? ⟨sb, 3, none⟩ = some (.int .i64 da) := blk_cell hsp13 3
      have s4 : wz.cell? ⟨sb, 4, none⟩ = some (.int .i64 db) := blk_cell hsp13 4
      have s5 : wz.cell? ⟨sb, 5, none⟩ = some (.int .i64 dc) := blk_cell hsp13 5
      have s6 : wz.cell? ⟨sb, 6, none⟩ = some (.int .i64 dd) := blk_cell hsp13 6
      have s7 : wz.cell? ⟨sb, 7, none⟩ = some (.int .i64 wall) := blk_cell hsp13 7
      have s8 : wz.cell? ⟨sb, 8, none⟩ = some (.int .i64 prio) := blk_cell hsp13 8
      have s9 : wz.cell? ⟨sb, 9, none⟩ = some (.int .i64 array) := blk_cell hsp13 9
      have s10 : wz.cell? ⟨sb, 10, none⟩ = some (.int .i64 retries) := blk_cell hsp13 10
      have s11 : wz.cell? ⟨sb, 11, none⟩ = some (.bool held) := blk_cell hsp13 11
      have s12 : wz.cell? ⟨sb, 12, none⟩ = some (.slice sso sn scp) := blk_cell hsp13 12
      obtain ⟨W8, hW8⟩ : ∃ W8, W8 = wz.alloc (.cells (⟨⟨user, part, nodes, ⟨da, db, dc, dd⟩, wall, prio, array, retries, held, after⟩, sso, sn, scp⟩ : Spv).cells 28 (0, 0)) := ⟨_, rfl⟩
      have hb8 : Below wz.heap.size wz W8 := by rw [hW8]; exact (Below.refl _ _).alloc (Nat.le_refl _) _
      have hL8 := hLz.out.low hb8
      have hX8 := hXok.out.low hb8
      have hownA : W8.ownsRow w.heap.size 28 13 (.slice so k c) k (flatv Spv.cells xs) := by have := hL8.own.row; rwa [hxl.out] at this
      have hnews : ∀ j u, (⟨⟨user, part, nodes, ⟨da, db, dc, dd⟩, wall, prio, array, retries, held, after⟩, sso, sn, scp⟩ : Spv).cells.toList[j]? = some u → W8.cell? ((⟨wz.heap.size, 0, none⟩ : Addr).add j) = some u := by rw [hW8]; exact spv_new wz _
      have hone := spv_one (⟨⟨user, part, nodes, ⟨da, db, dc, dd⟩, wall, prio, array, retries, held, after⟩, sso, sn, scp⟩ : Spv)
      have h63 := maxLen_ge (n := k) (by omega)
      have hby : (k + 1) * 136 ≤ 140737488355328 := by omega
      have hbas : w.heap.size ≤ W8.heap.size := by have h1 := hL8.kp.size; omega
      rw [hW8] at hownA hnews hbas
      have hW8' := Lib.hid hW8
      clear hW8
      replace hb8 := Lib.hid hb8; replace hL8 := Lib.hid hL8; replace hX8 := Lib.hid hX8; replace hownA := Lib.hid hownA; replace hnews := Lib.hid hnews; replace hone := Lib.hid hone; replace h63 := Lib.hid h63; replace hby := Lib.hid hby; replace hbas := Lib.hid hbas; replace hX := Lib.hid hX; replace hsp13 := Lib.hid hsp13
      go_wp2_with (at_builtin; refine wpList_append_own_at _ rfl _ _ 59 rfl w.heap.size 28 i28 _ 13 136 Tryd.underlying59 hi28.out hz28.out hz281.out hz282.out rfl (by decide) _ k _ rfl hownA.out ⟨wz.heap.size, 0, none⟩ 1 1 (⟨⟨user, part, nodes, ⟨da, db, dc, dd⟩, wall, prio, array, retries, held, after⟩, sso, sn, scp⟩ : Spv).cells.toList rfl rfl hnews.out hone.out h63.out hby.out hbas.out ?_; intro v1 w9 hown9 hgrow _ hat9; obtain ⟨g9, cap1, rfl⟩ := Joins.ownsRow_form hown9 (by omega); replace hown9 := Lib.hid hown9; replace hgrow := Lib.hid hgrow; replace hat9 := Lib.hid hat9)
      have hg9 := hgrow.out
      have hat := hat9.out
      rw [← hW8'.out] at hg9 hat
      have hg9' : W8.grownBy w9 (Value.slice so k c).ownBlock := hg9
      have hat' : (Value.slice (some ⟨g9, 0, none⟩) (k + 1) cap1).ownBlock = (Value.slice so k c).ownBlock ∨ (Value.slice (some ⟨g9, 0, none⟩) (k + 1) cap1).ownBlock = some W8.heap.size := hat
      have hlow9 : Below w.heap.size W8 w9 := (Below.refl _ _).grown hg9' hL8.out.kp.size (fun q hq => (ownS_lt hL8.out.own q hq).1)
      have hL9 : SpL w rb B lz ez (.slice (some ⟨g9, 0, none⟩) (k + 1) cap1) (xs ++ [X]) w9 := by
        refine ⟨hL8.out.rd.at hlow9 hrbw.out hB.out, ⟨?_⟩, ?_, hL8.out.kp.then hlow9 (Nat.le_refl _)⟩
        · have h := hown9.out
          rw [← flatv_one Spv.cells, ← flatv_append, ← hX.out] at h
          rw [List.length_append, hxl.out]
          exact h
        · refine ((hL8.out.sp.add (x := X) (by rw [hX.out]; exact hX8.out) fun b o e => ?_).grown hg9' hat')
          rw [hX.out] at e
          have h1 := hXf.out b o e
          refine ⟨by omega, fun c => ?_⟩
          have h2 := hLt.out b c
          omega
      have hxl9 : (xs ++ [X]).length = k + 1 := by rw [List.length_append, hxl.out]; rfl
      have hXp : X.pl = P.1 := by rw [hX.out]; exact hXe.out
      have hS9 : specsR l e = (((xs ++ [X]).map Spv.pl) ++ (spsR (nn - (k + 1)) lz ez).1, (spsR (nn - (k + 1)) lz ez).2) := by
        have hk1 := hkn.out
        rw [hS.out, show nn - k = (nn - (k + 1)) + 1 by omega, spsR, if_neg (by simp), haft.out, hT.out, hP.out, List.map_append, List.map_cons, List.map_nil, hXp]
        simp
      replace hg9 := Lib.hid hg9; replace hg9' := Lib.hid hg9'; replace hat := Lib.hid hat; replace hat' := Lib.hid hat'; replace hlow9 := Lib.hid hlow9; replace hL9 := Lib.hid hL9; replace hxl9 := Lib.hid hxl9; replace hS9 := Lib.hid hS9; replace hXp := Lib.hid hXp
      clear s0 s1 s2 s3 s4 s5 s6 s7 s8 s9 s10 s11 s12
      go_wp2
      go_roundw
      case rel => exact ⟨k + 1, xs ++ [X], lz, ez, _, _, rfl, (by have := hkn.out; omega), hxl9.out, hS9.out, hL9.out⟩
      case measure => have := hkn.out; simp [sliceN]; omega
    | false =>
      rename World => wz
      obtain ⟨lz, hlz⟩ : ∃ lz, lz = l2 := ⟨_, rfl⟩
      obtain ⟨ez, hez⟩ : ∃ ez, ez = e2 := ⟨_, rfl⟩
      rw [← hlz, ← hez] at hLc
      have haft : aftT l' 0 = (lz, ez) := haf.out.trans (by rw [hlz, hez]; rfl)
      have hLz := hLc
      have hXd := hXc
      have hXok := hXo
      replace hbc := Lib.hid hbc; replace hLc := Lib.hid hLc; replace hXc := Lib.hid hXc; replace hXo := Lib.hid hXo; replace hLz := Lib.hid hLz; replace haft := Lib.hid haft; replace hXd := Lib.hid hXd; replace hXok := Lib.hid hXok; replace hlz := Lib.hid hlz; replace hez := Lib.hid hez
      obtain ⟨X, hX⟩ : ∃ X : Spv, X = (⟨⟨user, part, nodes, ⟨da, db, dc, dd⟩, wall, prio, array, retries, held, after⟩, sso, sn, scp⟩ : Spv) := ⟨_, rfl⟩
      have hsp13 := hXd.out
      have s0 : wz.cell? ⟨sb, 0, none⟩ = some (.string user) := blk_cell hsp13 0
      have s1 : wz.cell? ⟨sb, 1, none⟩ = some (.string part) := blk_cell hsp13 1
      have s2 : wz.cell? ⟨sb, 2, none⟩ = some (.int .i64 nodes) := blk_cell hsp13 2
      have s3 : wz.cell? ⟨sb, 3, none⟩ = some (.int .i64 da) := blk_cell hsp13 3
      have s4 : wz.cell? ⟨sb, 4, none⟩ = some (.int .i64 db) := blk_cell hsp13 4
      have s5 : wz.cell? ⟨sb, 5, none⟩ = some (.int .i64 dc) := blk_cell hsp13 5
      have s6 : wz.cell? ⟨sb, 6, none⟩ = some (.int .i64 dd) := blk_cell hsp13 6
      have s7 : wz.cell? ⟨sb, 7, none⟩ = some (.int .i64 wall) := blk_cell hsp13 7
      have s8 : wz.cell? ⟨sb, 8, none⟩ = some (.int .i64 prio) := blk_cell hsp13 8
      have s9 : wz.cell? ⟨sb, 9, none⟩ = some (.int .i64 array) := blk_cell hsp13 9
      have s10 : wz.cell? ⟨sb, 10, none⟩ = some (.int .i64 retries) := blk_cell hsp13 10
      have s11 : wz.cell? ⟨sb, 11, none⟩ = some (.bool held) := blk_cell hsp13 11
      have s12 : wz.cell? ⟨sb, 12, none⟩ = some (.slice sso sn scp) := blk_cell hsp13 12
      obtain ⟨W8, hW8⟩ : ∃ W8, W8 = wz.alloc (.cells (⟨⟨user, part, nodes, ⟨da, db, dc, dd⟩, wall, prio, array, retries, held, after⟩, sso, sn, scp⟩ : Spv).cells 28 (0, 0)) := ⟨_, rfl⟩
      have hb8 : Below wz.heap.size wz W8 := by rw [hW8]; exact (Below.refl _ _).alloc (Nat.le_refl _) _
      have hL8 := hLz.out.low hb8
      have hX8 := hXok.out.low hb8
      have hownA : W8.ownsRow w.heap.size 28 13 (.slice so k c) k (flatv Spv.cells xs) := by have := hL8.own.row; rwa [hxl.out] at this
      have hnews : ∀ j u, (⟨⟨user, part, nodes, ⟨da, db, dc, dd⟩, wall, prio, array, retries, held, after⟩, sso, sn, scp⟩ : Spv).cells.toList[j]? = some u → W8.cell? ((⟨wz.heap.size, 0, none⟩ : Addr).add j) = some u := by rw [hW8]; exact spv_new wz _
      have hone := spv_one (⟨⟨user, part, nodes, ⟨da, db, dc, dd⟩, wall, prio, array, retries, held, after⟩, sso, sn, scp⟩ : Spv)
      have h63 := maxLen_ge (n := k) (by omega)
      have hby : (k + 1) * 136 ≤ 140737488355328 := by omega
      have hbas : w.heap.size ≤ W8.heap.size := by have h1 := hL8.kp.size; omega
      rw [hW8] at hownA hnews hbas
      have hW8' := Lib.hid hW8
      clear hW8
      replace hb8 := Lib.hid hb8; replace hL8 := Lib.hid hL8; replace hX8 := Lib.hid hX8; replace hownA := Lib.hid hownA; replace hnews := Lib.hid hnews; replace hone := Lib.hid hone; replace h63 := Lib.hid h63; replace hby := Lib.hid hby; replace hbas := Lib.hid hbas; replace hX := Lib.hid hX; replace hsp13 := Lib.hid hsp13
      go_wp2_with (at_builtin; refine wpList_append_own_at _ rfl _ _ 59 rfl w.heap.size 28 i28 _ 13 136 Tryd.underlying59 hi28.out hz28.out hz281.out hz282.out rfl (by decide) _ k _ rfl hownA.out ⟨wz.heap.size, 0, none⟩ 1 1 (⟨⟨user, part, nodes, ⟨da, db, dc, dd⟩, wall, prio, array, retries, held, after⟩, sso, sn, scp⟩ : Spv).cells.toList rfl rfl hnews.out hone.out h63.out hby.out hbas.out ?_; intro v1 w9 hown9 hgrow _ hat9; obtain ⟨g9, cap1, rfl⟩ := Joins.ownsRow_form hown9 (by omega); replace hown9 := Lib.hid hown9; replace hgrow := Lib.hid hgrow; replace hat9 := Lib.hid hat9)
      have hg9 := hgrow.out
      have hat := hat9.out
      rw [← hW8'.out] at hg9 hat
      have hg9' : W8.grownBy w9 (Value.slice so k c).ownBlock := hg9
      have hat' : (Value.slice (some ⟨g9, 0, none⟩) (k + 1) cap1).ownBlock = (Value.slice so k c).ownBlock ∨ (Value.slice (some ⟨g9, 0, none⟩) (k + 1) cap1).ownBlock = some W8.heap.size := hat
      have hlow9 : Below w.heap.size W8 w9 := (Below.refl _ _).grown hg9' hL8.out.kp.size (fun q hq => (ownS_lt hL8.out.own q hq).1)
      have hL9 : SpL w rb B lz ez (.slice (some ⟨g9, 0, none⟩) (k + 1) cap1) (xs ++ [X]) w9 := by
        refine ⟨hL8.out.rd.at hlow9 hrbw.out hB.out, ⟨?_⟩, ?_, hL8.out.kp.then hlow9 (Nat.le_refl _)⟩
        · have h := hown9.out
          rw [← flatv_one Spv.cells, ← flatv_append, ← hX.out] at h
          rw [List.length_append, hxl.out]
          exact h
        · refine ((hL8.out.sp.add (x := X) (by rw [hX.out]; exact hX8.out) fun b o e => ?_).grown hg9' hat')
          rw [hX.out] at e
          have h1 := hXf.out b o e
          refine ⟨by omega, fun c => ?_⟩
          have h2 := hLt.out b c
          omega
      have hxl9 : (xs ++ [X]).length = k + 1 := by rw [List.length_append, hxl.out]; rfl
      have hXp : X.pl = P.1 := by rw [hX.out]; exact hXe.out
      have hS9 : specsR l e = (((xs ++ [X]).map Spv.pl) ++ (spsR (nn - (k + 1)) lz ez).1, (spsR (nn - (k + 1)) lz ez).2) := by
        have hk1 := hkn.out
        rw [hS.out, show nn - k = (nn - (k + 1)) + 1 by omega, spsR, if_neg (by simp), haft.out, hT.out, hP.out, List.map_append, List.map_cons, List.map_nil, hXp]
        simp
      replace hg9 := Lib.hid hg9; replace hg9' := Lib.hid hg9'; replace hat := Lib.hid hat; replace hat' := Lib.hid hat'; replace hlow9 := Lib.hid hlow9; replace hL9 := Lib.hid hL9; replace hxl9 := Lib.hid hxl9; replace hS9 := Lib.hid hS9; replace hXp := Lib.hid hXp
      clear s0 s1 s2 s3 s4 s5 s6 s7 s8 s9 s10 s11 s12
      go_wp2
      go_roundw
      case rel => exact ⟨k + 1, xs ++ [X], lz, ez, _, _, rfl, (by have := hkn.out; omega), hxl9.out, hS9.out, hL9.out⟩
      case measure => have := hkn.out; simp [sliceN]; omega
end Go.Proofs.YteoihdkaoipocaaDoor

/- Parts Evt in one text. Plain theorems: no condition. -/
import Derived.Test.YteoihdkaoipocaaDoorVg
import Derived.Deep.RegionWith
/- event.Take 51: an event off a reader. Plain theorems: no condition. -/
namespace Go.Proofs.YteoihdkaoipocaaDoor
open Go.RowKit Go.Maps

/-- numbers for fields, off a reader -/
def fldsR : Evn → List Fld → List UInt8 → Int → Evn × List UInt8 × Int
  | n, [], l, e => (n, l, e)
  | n, f :: fs, l, e => fldsR (n.set (intR l e).1 f.1) fs (intR l e).2.1 (intR l e).2.2
def Evn.ofKind (k : Int) : Evn := ⟨k, 0, 0, 0, 0, 0, 0, 0, 0⟩
def Evn.zero : Evn := ⟨0, 0, 0, 0, 0, 0, 0, 0, 0⟩
def Evp.zero : Evp := ⟨Evn.zero, []⟩
/-- the reader behind the kind -/
def afterK (l : List UInt8) (e : Int) : List UInt8 × Int := match fldsOf (intR l e).1 with
  | none => (failL (intR l e).2.1 (intR l e).2.2 130, failE (intR l e).2.2 130)
  | some _ => (intR l e).2
def numsR (l : List UInt8) (e : Int) : Evn × List UInt8 × Int := fldsR (Evn.ofKind (intR l e).1) ((fldsOf (intR l e).1).getD []) (afterK l e).1 (afterK l e).2
def spcsR (l : List UInt8) (e : Int) : List Spp × List UInt8 × Int := if (intR l e).1 = 2 then specsR (numsR l e).2.1 (numsR l e).2.2 else ([], (numsR l e).2)
def rawR (l : List UInt8) (e : Int) : Evp := ⟨(numsR l e).1, (spcsR l e).1⟩
def lastR (l : List UInt8) (e : Int) : List UInt8 × Int := if mayE (rawR l e) = true then (spcsR l e).2 else (failL (spcsR l e).2.1 (spcsR l e).2.2 130, failE (spcsR l e).2.2 130)
/-- an event off a reader -/
def takeR (l : List UInt8) (e : Int) : Evp × List UInt8 × Int := (if (lastR l e).2 = 0 then rawR l e else Evp.zero, lastR l e)
theorem fldsR_kind : ∀ (fs : List Fld) (n : Evn) (l : List UInt8) (e : Int), (fldsR n fs l e).1.kind = n.kind
  | [], _, _, _ => rfl
  | f :: fs, n, l, e => by
    rw [fldsR, fldsR_kind fs, set_kind]
theorem intR_bd (l : List UInt8) (e : Int) : -9223372036854775808 ≤ (intR l e).1 ∧ (intR l e).1 ≤ 9223372036854775807 := unzz_bd (uintR_lt l e)
def Rng (n : Evn) : Prop := ∀ i, -9223372036854775808 ≤ n.get i ∧ n.get i ≤ 9223372036854775807
theorem rng_set {n : Evn} (h : Rng n) {v : Int} (hv : -9223372036854775808 ≤ v ∧ v ≤ 9223372036854775807) (i : Nat) : Rng (n.set v i) := by
  intro j
  have hj := h j
  have e : (n.set v i).get j = n.get j ∨ (n.set v i).get j = v := by
    unfold Evn.set
    split <;> (unfold Evn.get; split) <;> first | exact .inl rfl | exact .inr rfl
  rcases e with e | e <;> rw [e]
  · exact hj
  · exact hv
theorem rng_kind {k : Int} (hk : -9223372036854775808 ≤ k ∧ k ≤ 9223372036854775807) : Rng (Evn.ofKind k) := by
  intro j
  have e : (Evn.ofKind k).get j = k ∨ (Evn.ofKind k).get j = 0 := by
    unfold Evn.ofKind Evn.get
    split <;> first | exact .inl rfl | exact .inr rfl
  rcases e with e | e <;> rw [e]
  · exact hk
  · omega
abbrev set10 (W : World) (b : Nat) (v0 v1 v2 v3 v4 v5 v6 v7 v8 v9 : Value) : World := ((((((((((W.setCell ⟨b, 0, none⟩ v0).setCell ⟨b, 1, none⟩ v1).setCell ⟨b, 2, none⟩ v2).setCell ⟨b, 3, none⟩ v3).setCell ⟨b, 4, none⟩ v4).setCell ⟨b, 5, none⟩ v5).setCell ⟨b, 6, none⟩ v6).setCell ⟨b, 7, none⟩ v7).setCell ⟨b, 8, none⟩ v8).setCell ⟨b, 9, none⟩ v9)
theorem set10_box {W : World} {b : Nat} {T : TypeId} {fr : Nat × Nat} {u0 u1 u2 u3 u4 u5 u6 u7 u8 u9 v0 v1 v2 v3 v4 v5 v6 v7 v8 v9 : Value} (h : W.heap[b]? = some (.cells #[u0, u1, u2, u3, u4, u5, u6, u7, u8, u9] T fr)) : (set10 W b v0 v1 v2 v3 v4 v5 v6 v7 v8 v9).heap[b]? = some (.cells #[v0, v1, v2, v3, v4, v5, v6, v7, v8, v9] T fr) := by
  have h0 : (W.setCell ⟨b, 0, none⟩ v0).heap[b]? = some (.cells #[v0, u1, u2, u3, u4, u5, u6, u7, u8, u9] T fr) := blk_set h 0 _
  have h1 : ((W.setCell ⟨b, 0, none⟩ v0).setCell ⟨b, 1, none⟩ v1).heap[b]? = some (.cells #[v0, v1, u2, u3, u4, u5, u6, u7, u8, u9] T fr) := blk_set h0 1 _
  have h2 : (((W.setCell ⟨b, 0, none⟩ v0).setCell ⟨b, 1, none⟩ v1).setCell ⟨b, 2, none⟩ v2).heap[b]? = some (.cells #[v0, v1, v2, u3, u4, u5, u6, u7, u8, u9] T fr) := blk_set h1 2 _
  have h3 : ((((W.setCell ⟨b, 0, none⟩ v0).setCell ⟨b, 1, none⟩ v1).setCell ⟨b, 2, none⟩ v2).setCell ⟨b, 3, none⟩ v3).heap[b]? = some (.cells #[v0, v1, v2, v3, u4, u5, u6, u7, u8, u9] T fr) := blk_set h2 3 _
  have h4 : (((((W.setCell ⟨b, 0, none⟩ v0).setCell ⟨b, 1, none⟩ v1).setCell ⟨b, 2, none⟩ v2).setCell ⟨b, 3, none⟩ v3).setCell ⟨b, 4, none⟩ v4).heap[b]? = some (.cells #[v0, v1, v2, v3, v4, u5, u6, u7, u8, u9] T fr) := blk_set h3 4 _
  have h5 : ((((((W.setCell ⟨b, 0, none⟩ v0).setCell ⟨b, 1, none⟩ v1).setCell ⟨b, 2, none⟩ v2).setCell ⟨b, 3, none⟩ v3).setCell ⟨b, 4, none⟩ v4).setCell ⟨b, 5, none⟩ v5).heap[b]? = some (.cells #[v0, v1, v2, v3, v4, v5, u6, u7, u8, u9] T fr) := blk_set h4 5 _
  have h6 : (((((((W.setCell ⟨b, 0, none⟩ v0).setCell ⟨b, 1, none⟩ v1).setCell ⟨b, 2, none⟩ v2).setCell ⟨b, 3, none⟩ v3).setCell ⟨b, 4, none⟩ v4).setCell ⟨b, 5, none⟩ v5).setCell ⟨b, 6, none⟩ v6).heap[b]? = some (.cells #[v0, v1, v2, v3, v4, v5, v6, u7, u8, u9] T fr) := blk_set h5 6 _
  have h7 : ((((((((W.setCell ⟨b, 0, none⟩ v0).setCell ⟨b, 1, none⟩ v1).setCell ⟨b, 2, none⟩ v2).setCell ⟨b, 3, none⟩ v3).setCell ⟨b, 4, none⟩ v4).setCell ⟨b, 5, none⟩ v5).setCell ⟨b, 6, none⟩ v6).setCell ⟨b, 7, none⟩ v7).heap[b]? = some (.cells #[v0, v1, v2, v3, v4, v5, v6, v7, u8, u9] T fr) := blk_set h6 7 _
  have h8 : (((((((((W.setCell ⟨b, 0, none⟩ v0).setCell ⟨b, 1, none⟩ v1).setCell ⟨b, 2, none⟩ v2).setCell ⟨b, 3, none⟩ v3).setCell ⟨b, 4, none⟩ v4).setCell ⟨b, 5, none⟩ v5).setCell ⟨b, 6, none⟩ v6).setCell ⟨b, 7, none⟩ v7).setCell ⟨b, 8, none⟩ v8).heap[b]? = some (.cells #[v0, v1, v2, v3, v4, v5, v6, v7, v8, u9] T fr) := blk_set h7 8 _
  have h9 : ((((((((((W.setCell ⟨b, 0, none⟩ v0).setCell ⟨b, 1, none⟩ v1).setCell ⟨b, 2, none⟩ v2).setCell ⟨b, 3, none⟩ v3).setCell ⟨b, 4, none⟩ v4).setCell ⟨b, 5, none⟩ v5).setCell ⟨b, 6, none⟩ v6).setCell ⟨b, 7, none⟩ v7).setCell ⟨b, 8, none⟩ v8).setCell ⟨b, 9, none⟩ v9).heap[b]? = some (.cells #[v0, v1, v2, v3, v4, v5, v6, v7, v8, v9] T fr) := blk_set h8 9 _
  exact h9
theorem set10_kept (W : World) (b : Nat) (v0 v1 v2 v3 v4 v5 v6 v7 v8 v9 : Value) : Kept b W (set10 W b v0 v1 v2 v3 v4 v5 v6 v7 v8 v9) := (((((((((Kept.set b 0 W v0).trans (Kept.set b 1 _ v1)).trans (Kept.set b 2 _ v2)).trans (Kept.set b 3 _ v3)).trans (Kept.set b 4 _ v4)).trans (Kept.set b 5 _ v5)).trans (Kept.set b 6 _ v6)).trans (Kept.set b 7 _ v7)).trans (Kept.set b 8 _ v8)).trans (Kept.set b 9 _ v9)
/-- within Take -/
structure EtW (w : World) (rb B eb : Nat) (l : List UInt8) (e : Int) (n : Evn) (wr : World) : Prop where
  rd : Rdr wr rb B l e
  box : wr.heap[eb]? = some (.cells (⟨n, none, 0, 0, []⟩ : Evv).cells 70 (0, 0))
  res : wr.heap[w.heap.size]? = some (.cells (⟨Evn.zero, none, 0, 0, []⟩ : Evv).cells 70 (0, 0))
  kp : Kept rb w wr
theorem EtW.low {w : World} {rb B eb : Nat} {l : List UInt8} {e : Int} {n : Evn} {wr w' : World} (h : EtW w rb B eb l e n wr) (hb : Below wr.heap.size wr w') : EtW w rb B eb l e n w' :=
  ⟨h.rd.low hb, blk_below hb h.box (blk_lt h.box), blk_below hb h.res (blk_lt h.res), h.kp.then hb h.kp.size⟩
theorem EtW.kept {w : World} {rb B eb : Nat} {l l' : List UInt8} {e e' : Int} {n : Evn} {wr w' : World} (h : EtW w rb B eb l e n wr) (hk : Kept rb wr w') (hr : rb < w.heap.size) (he : w.heap.size < eb) (hR : Rdr w' rb B l' e') : EtW w rb B eb l' e' n w' :=
  ⟨hR, hk.blk h.box (by omega), hk.blk h.res (by omega), h.kp.trans hk⟩
theorem EtW.set {w : World} {rb B eb : Nat} {l : List UInt8} {e : Int} {n : Evn} {wr : World} (h : EtW w rb B eb l e n wr) (hr : rb < w.heap.size) (he : w.heap.size < eb) (hB : B ≤ w.heap.size) {i : Nat} (h1 : 1 ≤ i) (h8 : i ≤ 8) (v : Int) : EtW w rb B eb l e (n.set v i) (wr.setCell ⟨eb, i, none⟩ (.int .i64 v)) := by
  have hb : Below w.heap.size wr (wr.setCell ⟨eb, i, none⟩ (.int .i64 v)) := Below.setCell (Below.refl _ _) (show w.heap.size ≤ eb by omega) _
  have hne : w.heap.size ≠ eb := by omega
  refine ⟨h.rd.at hb hr hB, ?_, blk_set_other hne _ h.res, h.kp.then hb (Nat.le_refl _)⟩
  have := evv_set (⟨n, none, 0, 0, []⟩ : Evv) h1 h8 v
  rw [← this]
  exact blk_set h.box i _
theorem sps_none (w : World) : SpsAt w none 0 [] := ⟨rfl, by omega, fun i x h => by simp at h⟩
theorem SpsAt.keep {w w' : World} {so : Option Addr} {n : Nat} {xs : List Spv} (h : SpsAt w so n xs) (hs : w.heap.size ≤ w'.heap.size) (h1 : ∀ b o, so = some ⟨b, o, none⟩ → b < w.heap.size → w'.heap[b]? = w.heap[b]?)
    (h2 : ∀ x, x ∈ xs → x.pl.after ≠ [] → ∀ b o, x.so = some ⟨b, o, none⟩ → b < w.heap.size → w'.heap[b]? = w.heap[b]?) : SpsAt w' so n xs :=
  ⟨h.len, h.max, fun i x hx => by
    obtain ⟨b, off, e, hlt, hc, ho⟩ := h.cell i x hx
    refine ⟨b, off, e, Nat.lt_of_lt_of_le hlt hs, fun j hj => ?_, ⟨ho.after.keep hs fun b o e ha hl => h2 x (List.mem_of_getElem? hx) ha b o e hl, ho.ple, ho.user, ho.part⟩⟩
    rw [← hc j hj]
    simp only [World.cell?, h1 b off e hlt]⟩
/-- an event whose rows lie behind a block -/
structure EvF (q : Nat) (X : Evv) : Prop where
  so : ∀ b o, X.so = some ⟨b, o, none⟩ → q < b
  af : ∀ x, x ∈ X.sps → x.pl.after ≠ [] → ∀ b o, x.so = some ⟨b, o, none⟩ → q < b
theorem Evv.ok.kept {w w' : World} {X : Evv} {q r : Nat} (h : X.ok w) (hf : EvF q X) (hk : Kept r w w') (hr : r ≤ q) : X.ok w' :=
  ⟨h.sps.keep hk.size (fun b o e hl => hk.block b hl (by have := hf.so b o e; omega)) (fun x hx ha b o e hl => hk.block b hl (by have := hf.af x hx ha b o e; omega)), h.ple, h.rng⟩
/-- within Take, behind the specs -/
structure EtV (w : World) (rb B eb : Nat) (l : List UInt8) (e : Int) (X : Evv) (wr : World) : Prop where
  rd : Rdr wr rb B l e
  box : wr.heap[eb]? = some (.cells X.cells 70 (0, 0))
  res : wr.heap[w.heap.size]? = some (.cells (⟨Evn.zero, none, 0, 0, []⟩ : Evv).cells 70 (0, 0))
  kp : Kept rb w wr
  ok : X.ok wr
  fr : EvF w.heap.size X
theorem EtV.low {w : World} {rb B eb : Nat} {l : List UInt8} {e : Int} {X : Evv} {wr w' : World} (h : EtV w rb B eb l e X wr) (hb : Below wr.heap.size wr w') : EtV w rb B eb l e X w' :=
  ⟨h.rd.low hb, blk_below hb h.box (blk_lt h.box), blk_below hb h.res (blk_lt h.res), h.kp.then hb h.kp.size, h.ok.low hb, h.fr⟩
theorem EtV.kept {w : World} {rb B eb : Nat} {l l' : List UInt8} {e e' : Int} {X : Evv} {wr w' : World} (h : EtV w rb B eb l e X wr) (hk : Kept rb wr w') (hr : rb < w.heap.size) (he : w.heap.size < eb) (hR : Rdr w' rb B l' e') : EtV w rb B eb l' e' X w' :=
  ⟨hR, hk.blk h.box (by omega), hk.blk h.res (by omega), h.kp.trans hk, h.ok.kept h.fr hk (by omega), h.fr⟩
structure EtC (w : World) (rb B eb : Nat) (l : List UInt8) (e : Int) (n : Evn) (sp : List Spp) (wr : World) : Prop where
  ex : ∃ X : Evv, EtV w rb B eb l e X wr ∧ X.n = n ∧ X.sps.map Spv.pl = sp
def TakePost (rb B : Nat) (l : List UInt8) (e : Int) (w : World) (en : Ending) (w' : World) : Prop :=
  ∃ X : Evv, en = .returned X.val ∧ X.ok w' ∧ X.pl = (takeR l e).1 ∧ Rdr w' rb B (takeR l e).2.1 (takeR l e).2.2 ∧ Kept rb w w'
structure EtN (w : World) (rb B eb : Nat) (l : List UInt8) (e : Int) (n : Evn) (g : Nat) (row : Array Value) (wr : World) : Prop where
  t : EtW w rb B eb l e n wr
  r : wr.heap[g]? = some (.cells row 126 (0, 0))
set_option maxRecDepth 100000 in
set_option maxHeartbeats 6400000 in
theorem etake_any {w0 w : World} {rb B : Nat} {l : List UInt8} {e : Int} (h : Rdr w rb B l e) (hB : B ≤ w.heap.size) (hm : Mx w0) (ht : Tb w0) (h0 : Below w0.heap.size w0 w) (hr0 : w0.heap.size ≤ rb) : Calls Tryd.prog 51 #[.pointer (some ⟨rb, 0, none⟩)] w (TakePost rb B l e w) := by
  have hrbw := h.lt
  obtain ⟨W1, hW1⟩ : ∃ W1, W1 = w.alloc (.cells (⟨Evn.zero, none, 0, 0, []⟩ : Evv).cells 70 (0, 0)) := ⟨_, rfl⟩
  have hb1 : Below w.heap.size w W1 := by rw [hW1]; exact (Below.refl _ _).alloc (Nat.le_refl _) _
  have hres : W1.heap[w.heap.size]? = some (.cells (⟨Evn.zero, none, 0, 0, []⟩ : Evv).cells 70 (0, 0)) := by rw [hW1]; exact blk_new _ _
  have hki := rint_any (h.low hb1)
  obtain ⟨k, hk⟩ : ∃ k, k = (intR l e).1 := ⟨_, rfl⟩
  obtain ⟨l1, hl1⟩ : ∃ l1, l1 = (intR l e).2.1 := ⟨_, rfl⟩
  obtain ⟨e1, he1⟩ : ∃ e1, e1 = (intR l e).2.2 := ⟨_, rfl⟩
  rw [← hk, ← hl1, ← he1] at hki
  rw [hW1] at hki
  have hW1' := Lib.hid hW1
  clear hW1
  replace h := Lib.hid h; replace hB := Lib.hid hB; replace hm := Lib.hid hm; replace ht := Lib.hid ht; replace h0 := Lib.hid h0; replace hki := Lib.hid hki; replace hk := Lib.hid hk; replace hl1 := Lib.hid hl1; replace he1 := Lib.hid he1; replace hb1 := Lib.hid hb1; replace hres := Lib.hid hres; replace hrbw := Lib.hid hrbw
  go_enter Tryd.func51, Tryd.ntmps51
  go_wp2_with fail
  refine hki.out.mono ?_
  rintro en w2 ⟨rfl, hR2, hK2⟩
  rw [← hW1'.out] at hK2
  have hkp2 : Kept rb w w2 := (Kept.of_below hb1.out).trans hK2
  have hres2 := hK2.blk hres.out (by have := hrbw.out; omega)
  have hsz1 : W1.heap.size = w.heap.size + 1 := by rw [hW1'.out]; simp
  obtain ⟨eb, heb⟩ : ∃ eb, eb = w2.heap.size := ⟨_, rfl⟩
  have hebw : w.heap.size < eb := by have := hK2.size; omega
  obtain ⟨W3, hW3⟩ : ∃ W3, W3 = w2.alloc (.cells #[.int .i64 k, .int .i64 0, .int .i64 0, .int .i64 0, .int .i64 0, .int .i64 0, .int .i64 0, .int .i64 0, .int .i64 0, .slice none 0 0] 70 (0, 0)) := ⟨_, rfl⟩
  have hb3 : Below w2.heap.size w2 W3 := by rw [hW3]; exact (Below.refl _ _).alloc (Nat.le_refl _) _
  have hT3 : EtW w rb B eb l1 e1 (Evn.ofKind k) W3 := ⟨hR2.low hb3, by rw [hW3, heb]; exact blk_new _ _, blk_below hb3 hres2 (blk_lt hres2), hkp2.then hb3 hkp2.size⟩
  have hfl : Calls Tryd.prog 93 #[.pointer (some ⟨eb, 0, none⟩)] W3 (FldP k eb W3) := fields_all (k := k) (blk_cell hT3.box 0)
  have hW3' := Lib.hid hW3
  have heb' := Lib.hid heb
  clear hW3 heb
  replace hR2 := Lib.hid hR2; replace hK2 := Lib.hid hK2; replace hkp2 := Lib.hid hkp2; replace hres2 := Lib.hid hres2; replace hsz1 := Lib.hid hsz1; replace hebw := Lib.hid hebw; replace hb3 := Lib.hid hb3; replace hT3 := Lib.hid hT3; replace hfl := Lib.hid hfl
  cases hf : fldsOf k with
  | none =>
    have hk2 : k ≠ 2 := fun c => by rw [c] at hf; cases hf
    have dk : (k == (2 : Int)) = false := beq_eq_false_iff_ne.2 hk2
    unfold FldP at hfl
    rw [hf] at hfl
    obtain ⟨la, hla⟩ : ∃ la, la = failL l1 e1 130 := ⟨_, rfl⟩
    obtain ⟨ea, hea⟩ : ∃ ea, ea = failE e1 130 := ⟨_, rfl⟩
    have hNR : numsR l e = (Evn.ofKind k, la, ea) := by
      unfold numsR afterK
      rw [← hk.out, hf, ← hl1.out, ← he1.out, hla, hea]
      rfl
    have hSC : spcsR l e = ([], la, ea) := by unfold spcsR; rw [← hk.out, if_neg hk2, hNR]
    have hraw : rawR l e = ⟨Evn.ofKind k, []⟩ := by unfold rawR; rw [hNR, hSC]
    have hmy : mayE ⟨Evn.ofKind k, []⟩ = false := mayE_none hf
    have hE0 : errE ⟨Evn.ofKind k, []⟩ = 130 := errE_no hmy
    have hlst2 : lastR l e = (failL la ea 130, failE ea 130) := by unfold lastR; rw [hraw, hSC, if_neg (by rw [hmy]; simp)]
    have hRk : Rng (Evn.ofKind k) := rng_kind (by rw [hk.out]; exact intR_bd _ _)
    replace hfl := Lib.hid hfl; replace hf := Lib.hid hf; replace hk2 := Lib.hid hk2; replace hla := Lib.hid hla; replace hea := Lib.hid hea; replace hNR := Lib.hid hNR; replace hSC := Lib.hid hSC; replace hraw := Lib.hid hraw; replace hmy := Lib.hid hmy; replace hE0 := Lib.hid hE0; replace hlst2 := Lib.hid hlst2; replace hRk := Lib.hid hRk
    go_upto_region 3 with fail
    rw [← hW3'.out, ← heb'.out]
    go_wp2_with fail
    refine hfl.out.mono ?_
    rintro en w4 ⟨rfl, hb4⟩
    have hT4 := hT3.out.low hb4
    have hFa := rfail_any hT4.rd 130
    replace hb4 := Lib.hid hb4; replace hT4 := Lib.hid hT4; replace hFa := Lib.hid hFa
    go_wp2_with fail
    refine hFa.out.mono ?_
    rintro en w5 ⟨rfl, hR5, hK5⟩
    rw [← hla.out, ← hea.out] at hR5
    have hT5 := hT4.out.kept hK5 hrbw.out hebw.out hR5
    have hV5 : EtV w rb B eb la ea ⟨Evn.ofKind k, none, 0, 0, []⟩ w5 := ⟨hT5.rd, hT5.box, hT5.res, hT5.kp, ⟨sps_none w5, Nat.le_refl _, hRk.out⟩, ⟨fun b o e => (by cases e), fun x hx => (by cases hx)⟩⟩
    replace hR5 := Lib.hid hR5; replace hK5 := Lib.hid hK5; replace hT5 := Lib.hid hT5; replace hV5 := Lib.hid hV5
    go_wp2
    go_loopw [8, 24] (fun _ iv wr => iv = .int .i64 0 ∧ Hid (wr = w5)) (fun _ _ _ => 0)
    case atStart => exact ⟨rfl, rfl⟩
    case round =>
      obtain ⟨rfl, hw5⟩ := hrel
      have hw6 := hw5.out
      subst hw6
      rename World => wo
      have hck := echeck_any ⟨Evn.ofKind k, none, 0, 0, []⟩ wo hV5.out.ok
      have hck2 : Calls Tryd.prog 50 #[.agg #[.int .i64 k, .int .i64 0, .int .i64 0, .int .i64 0, .int .i64 0, .int .i64 0, .int .i64 0, .int .i64 0, .int .i64 0, .slice none 0 0]] wo fun e w' => e = .returned (.int .i64 130) ∧ Below wo.heap.size wo w' := by rw [← hE0.out]; exact hck
      clear hck
      have y0 : wo.cell? ⟨eb, 0, none⟩ = some (.int .i64 k) := blk_cell hV5.out.box 0
      have y1 : wo.cell? ⟨eb, 1, none⟩ = some (.int .i64 0) := blk_cell hV5.out.box 1
      have y2 : wo.cell? ⟨eb, 2, none⟩ = some (.int .i64 0) := blk_cell hV5.out.box 2
      have y3 : wo.cell? ⟨eb, 3, none⟩ = some (.int .i64 0) := blk_cell hV5.out.box 3
      have y4 : wo.cell? ⟨eb, 4, none⟩ = some (.int .i64 0) := blk_cell hV5.out.box 4
      have y5 : wo.cell? ⟨eb, 5, none⟩ = some (.int .i64 0) := blk_cell hV5.out.box 5
      have y6 : wo.cell? ⟨eb, 6, none⟩ = some (.int .i64 0) := blk_cell hV5.out.box 6
      have y7 : wo.cell? ⟨eb, 7, none⟩ = some (.int .i64 0) := blk_cell hV5.out.box 7
      have y8 : wo.cell? ⟨eb, 8, none⟩ = some (.int .i64 0) := blk_cell hV5.out.box 8
      have y9 : wo.cell? ⟨eb, 9, none⟩ = some (.slice none 0 0) := blk_cell hV5.out.box 9
      replace hck2 := Lib.hid hck2
      go_wp2_with fail
      refine hck2.out.mono ?_
      rintro en w7 ⟨rfl, hb7⟩
      have hV6 := hV5.out.low hb7
      clear y0 y1 y2 y3 y4 y5 y6 y7 y8 y9
      have d1 : ((130 : Int) != (0 : Int)) = true := rfl
      have hFl := rfail_any hV6.rd 130
      replace hb7 := Lib.hid hb7; replace hV6 := Lib.hid hV6; replace hFl := Lib.hid hFl
      go_wp2_with fail
      refine hFl.out.mono ?_
      rintro en wz ⟨rfl, hRz, hKz⟩
      obtain ⟨lz, hlz⟩ : ∃ lz, lz = failL la ea 130 := ⟨_, rfl⟩
      obtain ⟨ez, hez⟩ : ∃ ez, ez = failE ea 130 := ⟨_, rfl⟩
      rw [← hlz, ← hez] at hRz
      have hV7 := hV6.out.kept hKz hrbw.out hebw.out hRz
      have q5 : ez ≠ 0 := by
        rw [hez]
        unfold failE
        split
        · decide
        · next c => intro c2; exact c ⟨c2, by decide⟩
      have d2 : (ez != (0 : Int)) = true := by rw [bne_iff_ne]; exact q5
      have htk : takeR l e = (Evp.zero, lz, ez) := by unfold takeR; rw [hlst2.out, ← hlz, ← hez, if_neg q5]
      have hErr := rerr_any hV7.rd
      replace hRz := Lib.hid hRz; replace hKz := Lib.hid hKz; replace q5 := Lib.hid q5; replace htk := Lib.hid htk; replace hErr := Lib.hid hErr; replace hlz := Lib.hid hlz; replace hez := Lib.hid hez
      go_wp2_with fail
      refine hErr.out.mono ?_
      rintro en w8 ⟨rfl, rfl⟩
      have r0 : w8.cell? ⟨w.heap.size, 0, none⟩ = some (.int .i64 0) := blk_cell hV7.res 0
      have r1 : w8.cell? ⟨w.heap.size, 1, none⟩ = some (.int .i64 0) := blk_cell hV7.res 1
      have r2 : w8.cell? ⟨w.heap.size, 2, none⟩ = some (.int .i64 0) := blk_cell hV7.res 2
      have r3 : w8.cell? ⟨w.heap.size, 3, none⟩ = some (.int .i64 0) := blk_cell hV7.res 3
      have r4 : w8.cell? ⟨w.heap.size, 4, none⟩ = some (.int .i64 0) := blk_cell hV7.res 4
      have r5 : w8.cell? ⟨w.heap.size, 5, none⟩ = some (.int .i64 0) := blk_cell hV7.res 5
      have r6 : w8.cell? ⟨w.heap.size, 6, none⟩ = some (.int .i64 0) := blk_cell hV7.res 6
      have r7 : w8.cell? ⟨w.heap.size, 7, none⟩ = some (.int .i64 0) := blk_cell hV7.res 7
      have r8 : w8.cell? ⟨w.heap.size, 8, none⟩ = some (.int .i64 0) := blk_cell hV7.res 8
      have r9 : w8.cell? ⟨w.heap.size, 9, none⟩ = some (.slice none 0 0) := blk_cell hV7.res 9
      have g0 : w8.frozen? ⟨w.heap.size, 0, none⟩ = false := blk_free hV7.res 0
      have g1 : w8.frozen? ⟨w.heap.size, 1, none⟩ = false := blk_free hV7.res 1
      have g2 : w8.frozen? ⟨w.heap.size, 2, none⟩ = false := blk_free hV7.res 2
      have g3 : w8.frozen? ⟨w.heap.size, 3, none⟩ = false := blk_free hV7.res 3
      have g4 : w8.frozen? ⟨w.heap.size, 4, none⟩ = false := blk_free hV7.res 4
      have g5 : w8.frozen? ⟨w.heap.size, 5, none⟩ = false := blk_free hV7.res 5
      have g6 : w8.frozen? ⟨w.heap.size, 6, none⟩ = false := blk_free hV7.res 6
      have g7 : w8.frozen? ⟨w.heap.size, 7, none⟩ = false := blk_free hV7.res 7
      have g8 : w8.frozen? ⟨w.heap.size, 8, none⟩ = false := blk_free hV7.res 8
      have g9 : w8.frozen? ⟨w.heap.size, 9, none⟩ = false := blk_free hV7.res 9
      obtain ⟨W9, hW9⟩ : ∃ W9, W9 = ((((((((((w8.setCell ⟨w.heap.size, 0, none⟩ (.int .i64 0)).setCell ⟨w.heap.size, 1, none⟩ (.int .i64 0)).setCell ⟨w.heap.size, 2, none⟩ (.int .i64 0)).setCell ⟨w.heap.size, 3, none⟩ (.int .i64 0)).setCell ⟨w.heap.size, 4, none⟩ (.int .i64 0)).setCell ⟨w.heap.size, 5, none⟩ (.int .i64 0)).setCell ⟨w.heap.size, 6, none⟩ (.int .i64 0)).setCell ⟨w.heap.size, 7, none⟩ (.int .i64 0)).setCell ⟨w.heap.size, 8, none⟩ (.int .i64 0)).setCell ⟨w.heap.size, 9, none⟩ (.slice none 0 0)) := ⟨_, rfl⟩
      have hb9 : W9.heap[w.heap.size]? = some (.cells (⟨Evn.zero, none, 0, 0, []⟩ : Evv).cells 70 (0, 0)) := by rw [hW9]; exact set10_box hV7.res
      have hk9 : Kept w.heap.size w8 W9 := by rw [hW9]; exact set10_kept ..
      have s0 : W9.cell? ⟨w.heap.size, 0, none⟩ = some (.int .i64 0) := blk_cell hb9 0
      have s1 : W9.cell? ⟨w.heap.size, 1, none⟩ = some (.int .i64 0) := blk_cell hb9 1
      have s2 : W9.cell? ⟨w.heap.size, 2, none⟩ = some (.int .i64 0) := blk_cell hb9 2
      have s3 : W9.cell? ⟨w.heap.size, 3, none⟩ = some (.int .i64 0) := blk_cell hb9 3
      have s4 : W9.cell? ⟨w.heap.size, 4, none⟩ = some (.int .i64 0) := blk_cell hb9 4
      have s5 : W9.cell? ⟨w.heap.size, 5, none⟩ = some (.int .i64 0) := blk_cell hb9 5
      have s6 : W9.cell? ⟨w.heap.size, 6, none⟩ = some (.int .i64 0) := blk_cell hb9 6
      have s7 : W9.cell? ⟨w.heap.size, 7, none⟩ = some (.int .i64 0) := blk_cell hb9 7
      have s8 : W9.cell? ⟨w.heap.size, 8, none⟩ = some (.int .i64 0) := blk_cell hb9 8
      have s9 : W9.cell? ⟨w.heap.size, 9, none⟩ = some (.slice none 0 0) := blk_cell hb9 9
      have hl9 : Below w.heap.size w8 W9 := hk9.below (Nat.le_refl _) (blk_lt hV7.res)
      have hR9 := hV7.rd.at hl9 hrbw.out hB.out
      have hKp9 := hV7.kp.then hl9 (Nat.le_refl _)
      have hW9' := Lib.hid hW9
      clear hW9
      replace hV7 := Lib.hid hV7; replace hb9 := Lib.hid hb9; replace hk9 := Lib.hid hk9; replace hl9 := Lib.hid hl9; replace hR9 := Lib.hid hR9; replace hKp9 := Lib.hid hKp9
      go_wp2
      rw [← hW9'.out]
      refine bodyPost_ret (v := (⟨Evn.zero, none, 0, 0, []⟩ : Evv).val) (by simp [results, Tryd.results51, go_sem, s0, s1, s2, s3, s4, s5, s6, s7, s8, s9, Evn.zero]) rfl ?_
      exact ⟨(⟨Evn.zero, none, 0, 0, []⟩ : Evv), rfl, ⟨sps_none _, Nat.le_refl _, rng_kind (k := 0) (by omega)⟩, by rw [htk.out]; rfl, by rw [htk.out]; exact hR9.out, hKp9.out⟩
  | some fs =>
    obtain ⟨hf4, hfo⟩ := flds_ok hf
    obtain ⟨row, hrowe⟩ : ∃ row, row = (fs.flatMap (fldV eb)).toArray := ⟨_, rfl⟩
    obtain ⟨F, hF⟩ : ∃ F, F = fs.length := ⟨_, rfl⟩
    unfold FldP at hfl
    rw [hf] at hfl
    unfold FldPost at hfl
    simp only [← hrowe, ← hF] at hfl
    obtain ⟨la, hla⟩ : ∃ la, la = l1 := ⟨_, rfl⟩
    obtain ⟨ea, hea⟩ : ∃ ea, ea = e1 := ⟨_, rfl⟩
    have hNR : numsR l e = fldsR (Evn.ofKind k) (fs.drop 0) la ea := by
      unfold numsR afterK
      rw [← hk.out, hf, hla, hea, hl1.out, he1.out]
      rfl
    have hRk : Rng (Evn.ofKind k) := rng_kind (by rw [hk.out]; exact intR_bd _ _)
    have hFl : F ≤ 4 := by rw [hF]; exact hf4
    replace hfl := Lib.hid hfl; replace hf := Lib.hid hf; replace hf4 := Lib.hid hf4; replace hfo := Lib.hid hfo; replace hrowe := Lib.hid hrowe; replace hF := Lib.hid hF; replace hla := Lib.hid hla; replace hea := Lib.hid hea; replace hNR := Lib.hid hNR; replace hRk := Lib.hid hRk
    go_upto_region 3 with fail
    rw [← hW3'.out, ← heb'.out]
    go_wp2_with fail
    refine hfl.out.mono ?_
    rintro en w4 ⟨g, rfl, hgg, hgr, hb4⟩
    have hTc : EtW w rb B eb la ea (Evn.ofKind k) w4 := by rw [hla.out, hea.out]; exact hT3.out.low hb4
    have hgb : eb < g := by have h1 := hb3.out.size; have h2 := blk_lt hT3.out.box; omega
    obtain ⟨gp, hgp⟩ : ∃ gp : Option Addr, gp = some ⟨g, 0, none⟩ := ⟨_, rfl⟩
    have hrow : F = 0 ∨ ∃ g, gp = some ⟨g, 0, none⟩ ∧ w4.heap[g]? = some (.cells row 126 (0, 0)) ∧ rb < g ∧ w.heap.size < g ∧ g ≠ eb := .inr ⟨g, hgp, hgr, by have := hrbw.out; have := hebw.out; omega, by have := hebw.out; omega, by omega⟩
    rw [← hgp]
    replace hgg := Lib.hid hgg; replace hgr := Lib.hid hgr; replace hb4 := Lib.hid hb4; replace hTc := Lib.hid hTc; replace hgb := Lib.hid hgb; replace hrow := Lib.hid hrow; replace hgp := Lib.hid hgp
    go_wp2
    go_loopw [8, 24] (fun _ iv wr => ∃ (j : Nat) (n : Evn) (l' : List UInt8) (e' : Int), iv = .int .i64 j ∧ j ≤ F ∧ Hid (numsR l e = fldsR n (fs.drop j) l' e') ∧ Hid (Rng n) ∧ Hid (n.kind = k) ∧ Hid (EtW w rb B eb l' e' n wr) ∧ Hid (F = 0 ∨ ∃ g, gp = some ⟨g, 0, none⟩ ∧ wr.heap[g]? = some (.cells row 126 (0, 0)) ∧ rb < g ∧ w.heap.size < g ∧ g ≠ eb)) (fun _ iv _ => F - (intOf iv).toNat)
    case atStart => exact ⟨0, Evn.ofKind k, la, ea, rfl, Nat.zero_le _, hNR.out, hRk.out, rfl, hTc.out, hrow.out⟩
    case round =>
      obtain ⟨j, n, l', e', rfl, hj, hnr, hrg, hkd, hT, hrw⟩ := hrel
      by_cases hjF : j < F
      · have hjF1 : (j : Int) < F := by omega
        have hj0 : (0 : Int) ≤ (j : Int) := by omega
        obtain ⟨f, hf1⟩ : ∃ f, fs[j]? = some f := ⟨_, List.getElem?_eq_getElem (by have := hF.out; omega)⟩
        obtain ⟨q1, q8, _⟩ := hfo.out f (List.mem_of_getElem? hf1)
        obtain ⟨g, rfl, hgr, hgrb, hgw, hge⟩ : ∃ g, gp = some ⟨g, 0, none⟩ ∧ wr.heap[g]? = some (.cells row 126 (0, 0)) ∧ rb < g ∧ w.heap.size < g ∧ g ≠ eb := by
          rcases hrw.out with h | h
          · omega
          · exact h
        obtain ⟨i, lo, hi⟩ := f
        have hgr2 := hgr
        rw [hrowe.out] at hgr2
        obtain ⟨z0, z1, z2⟩ := fld_cell hgr2 hf1
        simp only at z0 z1 z2 q1 q8
        have hdr : fs.drop j = (i, lo, hi) :: fs.drop (j + 1) := by
          obtain ⟨hl, e1⟩ := List.getElem?_eq_some_iff.1 hf1
          rw [List.drop_eq_getElem_cons hl, e1]
        obtain ⟨v, hv⟩ : ∃ v, v = (intR l' e').1 := ⟨_, rfl⟩
        obtain ⟨l2, hl2⟩ : ∃ l2, l2 = (intR l' e').2.1 := ⟨_, rfl⟩
        obtain ⟨e2, he2⟩ : ∃ e2, e2 = (intR l' e').2.2 := ⟨_, rfl⟩
        have hnr2 : numsR l e = fldsR (n.set v i) (fs.drop (j + 1)) l2 e2 := by rw [hnr.out, hdr, fldsR, hv, hl2, he2]
        have hrg2 : Rng (n.set v i) := rng_set hrg.out (by rw [hv]; exact intR_bd _ _) i
        have hkd2 : (n.set v i).kind = k := by rw [set_kind, hkd.out]
        obtain ⟨bx, hbx⟩ : ∃ bx, bx = wr.heap.size := ⟨_, rfl⟩
        obtain ⟨W6, hW6⟩ : ∃ W6, W6 = wr.alloc (.cells #[.pointer (some ⟨eb, i, none⟩), .int .i64 lo, .int .i64 hi] 126 (0, 0)) := ⟨_, rfl⟩
        have hb6 : Below wr.heap.size wr W6 := by rw [hW6]; exact (Below.refl _ _).alloc (Nat.le_refl _) _
        have hn6 : W6.heap[bx]? = some (.cells #[.pointer (some ⟨eb, i, none⟩), .int .i64 lo, .int .i64 hi] 126 (0, 0)) := by rw [hW6, hbx]; exact blk_new _ _
        have hT6 := hT.out.low hb6
        have hg6 := blk_below hb6 hgr (blk_lt hgr)
        have hbr : bx ≠ rb := by have := hT.out.rd.lt; omega
        have hgn : g ≠ rb := by omega
        have c0 : W6.cell? ⟨bx, 0, none⟩ = some (.pointer (some ⟨eb, i, none⟩)) := blk_cell hn6 0
        have hnx : ∀ W, EtW w rb B eb l' e' n W → Calls Tryd.prog 95 #[.pointer (some ⟨rb, 0, none⟩)] W fun en w' => en = .returned (.int .i64 v) ∧ Rdr w' rb B l2 e2 ∧ Kept rb W w' := fun W hE => by rw [hv, hl2, he2]; exact rint_any hE.rd
        have hcd : Below W6.heap.size W6 W6.drew := (Below.refl _ _).drew
        have hT6d := hT6.low hcd
        have hn6d := blk_below hcd hn6 (blk_lt hn6)
        have hg6d := blk_below hcd hg6 (blk_lt hg6)
        have hW6' := Lib.hid hW6
        have hbx' := Lib.hid hbx
        clear hW6 hbx
        replace hf1 := Lib.hid hf1; replace hgr := Lib.hid hgr; replace hgr2 := Lib.hid hgr2; replace hgrb := Lib.hid hgrb; replace hgw := Lib.hid hgw; replace hge := Lib.hid hge; replace hdr := Lib.hid hdr; replace hv := Lib.hid hv; replace hl2 := Lib.hid hl2; replace he2 := Lib.hid he2; replace hnr2 := Lib.hid hnr2; replace hrg2 := Lib.hid hrg2; replace hkd2 := Lib.hid hkd2; replace hb6 := Lib.hid hb6; replace hn6 := Lib.hid hn6; replace hT6 := Lib.hid hT6; replace hg6 := Lib.hid hg6; replace hbr := Lib.hid hbr; replace hgn := Lib.hid hgn; replace hnx := Lib.hid hnx; replace hcd := Lib.hid hcd; replace hT6d := Lib.hid hT6d; replace hn6d := Lib.hid hn6d; replace hg6d := Lib.hid hg6d
        go_upto_region 9 with fail
        rw [← hW6'.out, ← hbx'.out]
        clear z0 z1 z2
        go_region_with
          (go_at_call 95
           refine (hnx.out _ hT6d.out).mono ?_
           rintro en w7 ⟨rfl, hR7, hK7⟩
           have hT7 := hT6d.out.kept hK7 hrbw.out hebw.out hR7
           have hn7 := hK7.blk hn6d.out hbr.out
           have hg7 := hK7.blk hg6d.out hgn.out
           have c7 : w7.cell? ⟨bx, 0, none⟩ = some (.pointer (some ⟨eb, i, none⟩)) := blk_cell hn7 0
           have f7 := blk_free hT7.box i
           have v7 := blk_cell hT7.box i
           rw [evv_get _ q8] at v7
           have hT8 := hT7.set hrbw.out hebw.out hB.out q1 q8 v
           have hg8 := blk_set_other (o := i) hge.out (Value.int .i64 v) hg7
           replace hR7 := Lib.hid hR7
           replace hK7 := Lib.hid hK7
           replace hT7 := Lib.hid hT7
           replace hn7 := Lib.hid hn7
           replace hg7 := Lib.hid hg7
           replace hT8 := Lib.hid hT8
           replace hg8 := Lib.hid hg8)
        all_goals
          go_wp2_with fail
          go_roundw
          case rel => exact ⟨j + 1, n.set v i, l2, e2, by go_num, by omega, hnr2.out, hrg2.out, hkd2.out, hT8.out, .inr ⟨g, rfl, hg8.out, hgrb.out, hgw.out, hge.out⟩⟩
          case measure => simp [intOf]; omega
      · have hjF1 : ¬ (j : Int) < F := by omega
        have hdr : fs.drop j = [] := List.drop_of_length_le (by have := hF.out; omega)
        have hnr2 : numsR l e = (n, l', e') := by rw [hnr.out, hdr]; rfl
        have y0 : wr.cell? ⟨eb, 0, none⟩ = some (.int .i64 k) := by
          have h := blk_cell hT.out.box 0
          rw [← hkd.out]
          exact h
        have y9 : wr.cell? ⟨eb, 9, none⟩ = some (.slice none 0 0) := blk_cell hT.out.box 9
        obtain ⟨sp, hsp⟩ : ∃ sp, sp = (spcsR l e).1 := ⟨_, rfl⟩
        obtain ⟨l5, hl5⟩ : ∃ l5, l5 = (spcsR l e).2.1 := ⟨_, rfl⟩
        obtain ⟨e5, he5⟩ : ∃ e5, e5 = (spcsR l e).2.2 := ⟨_, rfl⟩
        have hSC : spcsR l e = if k = 2 then specsR l' e' else ([], l', e') := by unfold spcsR; rw [← hk.out, hnr2]
        have hraw : rawR l e = ⟨n, sp⟩ := by unfold rawR; rw [hnr2, hsp]
        have hlst : lastR l e = if mayE ⟨n, sp⟩ = true then (l5, e5) else (failL l5 e5 130, failE e5 130) := by unfold lastR; rw [hraw, hl5, he5]
        have hspe : spcsR l e = (sp, l5, e5) := by rw [hsp, hl5, he5]
        have hesp := especs_any hT.out.rd (by have h1 := hT.out.kp.size; have := hB.out; omega) hm.out ht.out (hT.out.kp.from h0.out hr0 hrbw.out) hr0
        replace hdr := Lib.hid hdr; replace hnr2 := Lib.hid hnr2; replace hsp := Lib.hid hsp; replace hl5 := Lib.hid hl5; replace he5 := Lib.hid he5; replace hSC := Lib.hid hSC; replace hraw := Lib.hid hraw; replace hlst := Lib.hid hlst; replace hspe := Lib.hid hspe; replace hesp := Lib.hid hesp
        go_upto_if 36 with fail
        go_cut [38] (fun _ wx => EtC w rb B eb l5 e5 n sp wx)
        case first =>
          by_cases k2 : k = 2
          · have d1 : (k == (2 : Int)) = true := by rw [k2]; rfl
            have hss : specsR l' e' = (sp, l5, e5) := by rw [← hspe.out, hSC.out, if_pos k2]
            replace k2 := Lib.hid k2; replace hss := Lib.hid hss
            go_wp2_with fail
            refine hesp.out.mono ?_
            rintro en w5 ⟨so, m, c, xs, rfl, hmc, hsps, hxp, hfs, hfx, hR5, hK5⟩
            rw [hss.out] at hxp hR5
            have hT5 := hT.out.kept hK5 hrbw.out hebw.out hR5
            have v9 : w5.cell? ⟨eb, 9, none⟩ = some (.slice none 0 0) := blk_cell hT5.box 9
            have f9 := blk_free hT5.box 9
            have hne : w.heap.size ≠ eb := by have := hebw.out; omega
            have hlb : Below w.heap.size w5 (w5.setCell ⟨eb, 9, none⟩ (.slice so m c)) := Below.setCell (Below.refl _ _) (show w.heap.size ≤ eb by have := hebw.out; omega) _
            have hebl := blk_lt hT.out.box
            have hXo : (⟨n, so, m, c, xs⟩ : Evv).ok w5 := ⟨hsps, hmc, hrg.out⟩
            have hXf : EvF eb (⟨n, so, m, c, xs⟩ : Evv) := ⟨fun b o e => Nat.lt_of_lt_of_le hebl (hfs b o e), fun x hx ha b o e => Nat.lt_of_lt_of_le hebl (hfx x hx ha b o e)⟩
            have hC : EtC w rb B eb l5 e5 n sp (w5.setCell ⟨eb, 9, none⟩ (.slice so m c)) := ⟨⟨n, so, m, c, xs⟩, ⟨hT5.rd.at hlb hrbw.out hB.out, by simpa using blk_set hT5.box 9 (.slice so m c), blk_set_other hne _ hT5.res, hT5.kp.then hlb (Nat.le_refl _), hXo.kept hXf (Kept.set eb 9 w5 _) (Nat.le_refl _), ⟨fun b o e => by have h1 := hXf.so b o e; have := hebw.out; omega, fun x hx ha b o e => by have h1 := hXf.af x hx ha b o e; have := hebw.out; omega⟩⟩, rfl, hxp⟩
            replace hmc := Lib.hid hmc; replace hsps := Lib.hid hsps; replace hxp := Lib.hid hxp; replace hfs := Lib.hid hfs; replace hfx := Lib.hid hfx; replace hR5 := Lib.hid hR5; replace hK5 := Lib.hid hK5; replace hT5 := Lib.hid hT5; replace hlb := Lib.hid hlb; replace hXo := Lib.hid hXo; replace hXf := Lib.hid hXf; replace hC := Lib.hid hC
            go_wp2
            go_meet
            case rel => exact hC.out
          · have d1 : (k == (2 : Int)) = false := beq_eq_false_iff_ne.2 k2
            have hss : ([], l', e') = (sp, l5, e5) := by rw [← hspe.out, hSC.out, if_neg k2]
            simp only [Prod.mk.injEq] at hss
            obtain ⟨hs1, hs2, hs3⟩ := hss
            have hC : EtC w rb B eb l5 e5 n sp wr := ⟨⟨n, none, 0, 0, []⟩, ⟨by rw [← hs2, ← hs3]; exact hT.out.rd, hT.out.box, hT.out.res, hT.out.kp, ⟨sps_none wr, Nat.le_refl _, hrg.out⟩, ⟨fun b o e => (by cases e), fun x hx => (by cases hx)⟩⟩, rfl, hs1⟩
            replace k2 := Lib.hid k2; replace hs1 := Lib.hid hs1; replace hs2 := Lib.hid hs2; replace hs3 := Lib.hid hs3; replace hC := Lib.hid hC
            go_wp2
            go_meet
            case rel => exact hC.out
        case rest =>
        obtain ⟨X, hV, hXn, hXs⟩ := hcut.ex
        clear y0 y9
        have hXp : X.pl = ⟨n, sp⟩ := by unfold Evv.pl; rw [hXn, hXs]
        have hck := echeck_any X wc hV.ok
        rw [hXp] at hck
        obtain ⟨⟨kk, epoch, tick, client, seq, job, attempt, node, how⟩, xo, xm, xc, xsp⟩ := X
        have y0 : wc.cell? ⟨eb, 0, none⟩ = some (.int .i64 kk) := blk_cell hV.box 0
        have y1 : wc.cell? ⟨eb, 1, none⟩ = some (.int .i64 epoch) := blk_cell hV.box 1
        have y2 : wc.cell? ⟨eb, 2, none⟩ = some (.int .i64 tick) := blk_cell hV.box 2
        have y3 : wc.cell? ⟨eb, 3, none⟩ = some (.int .i64 client) := blk_cell hV.box 3
        have y4 : wc.cell? ⟨eb, 4, none⟩ = some (.int .i64 seq) := blk_cell hV.box 4
        have y5 : wc.cell? ⟨eb, 5, none⟩ = some (.int .i64 job) := blk_cell hV.box 5
        have y6 : wc.cell? ⟨eb, 6, none⟩ = some (.int .i64 attempt) := blk_cell hV.box 6
        have y7 : wc.cell? ⟨eb, 7, none⟩ = some (.int .i64 node) := blk_cell hV.box 7
        have y8 : wc.cell? ⟨eb, 8, none⟩ = some (.int .i64 how) := blk_cell hV.box 8
        have y9 : wc.cell? ⟨eb, 9, none⟩ = some (.slice xo xm xc) := blk_cell hV.box 9
        have hcut' := Lib.hid hcut
        clear hcut
        replace hV := Lib.hid hV; replace hXn := Lib.hid hXn; replace hXs := Lib.hid hXs; replace hXp := Lib.hid hXp; replace hck := Lib.hid hck
        go_wp2_with fail
        refine hck.out.mono ?_
        rintro en w7 ⟨rfl, hb7⟩
        have hV7 := hV.out.low hb7
        clear y0 y1 y2 y3 y4 y5 y6 y7 y8 y9
        by_cases hmy : mayE ⟨n, sp⟩ = true
        · have hE0 : errE ⟨n, sp⟩ = 0 := errE_yes hmy
          have hlst2 : lastR l e = (l5, e5) := by rw [hlst.out, if_pos hmy]
          rw [hE0]
          have d1 : ((0 : Int) != (0 : Int)) = false := rfl
          have hErr := rerr_any hV7.rd
          by_cases q5 : e5 = 0
          · have d2 : (e5 != (0 : Int)) = false := by rw [q5]; rfl
            have htk : takeR l e = (⟨n, sp⟩, l5, e5) := by unfold takeR; rw [hlst2, hraw.out, if_pos q5]
            have y0 : w7.cell? ⟨eb, 0, none⟩ = some (.int .i64 kk) := blk_cell hV7.box 0
            have y1 : w7.cell? ⟨eb, 1, none⟩ = some (.int .i64 epoch) := blk_cell hV7.box 1
            have y2 : w7.cell? ⟨eb, 2, none⟩ = some (.int .i64 tick) := blk_cell hV7.box 2
            have y3 : w7.cell? ⟨eb, 3, none⟩ = some (.int .i64 client) := blk_cell hV7.box 3
            have y4 : w7.cell? ⟨eb, 4, none⟩ = some (.int .i64 seq) := blk_cell hV7.box 4
            have y5 : w7.cell? ⟨eb, 5, none⟩ = some (.int .i64 job) := blk_cell hV7.box 5
            have y6 : w7.cell? ⟨eb, 6, none⟩ = some (.int .i64 attempt) := blk_cell hV7.box 6
            have y7 : w7.cell? ⟨eb, 7, none⟩ = some (.int .i64 node) := blk_cell hV7.box 7
            have y8 : w7.cell? ⟨eb, 8, none⟩ = some (.int .i64 how) := blk_cell hV7.box 8
            have y9 : w7.cell? ⟨eb, 9, none⟩ = some (.slice xo xm xc) := blk_cell hV7.box 9
            have r0 : w7.cell? ⟨w.heap.size, 0, none⟩ = some (.int .i64 0) := blk_cell hV7.res 0
            have r1 : w7.cell? ⟨w.heap.size, 1, none⟩ = some (.int .i64 0) := blk_cell hV7.res 1
            have r2 : w7.cell? ⟨w.heap.size, 2, none⟩ = some (.int .i64 0) := blk_cell hV7.res 2
            have r3 : w7.cell? ⟨w.heap.size, 3, none⟩ = some (.int .i64 0) := blk_cell hV7.res 3
            have r4 : w7.cell? ⟨w.heap.size, 4, none⟩ = some (.int .i64 0) := blk_cell hV7.res 4
            have r5 : w7.cell? ⟨w.heap.size, 5, none⟩ = some (.int .i64 0) := blk_cell hV7.res 5
            have r6 : w7.cell? ⟨w.heap.size, 6, none⟩ = some (.int .i64 0) := blk_cell hV7.res 6
            have r7 : w7.cell? ⟨w.heap.size, 7, none⟩ = some (.int .i64 0) := blk_cell hV7.res 7
            have r8 : w7.cell? ⟨w.heap.size, 8, none⟩ = some (.int .i64 0) := blk_cell hV7.res 8
            have r9 : w7.cell? ⟨w.heap.size, 9, none⟩ = some (.slice none 0 0) := blk_cell hV7.res 9
            have g0 : w7.frozen? ⟨w.heap.size, 0, none⟩ = false := blk_free hV7.res 0
            have g1 : w7.frozen? ⟨w.heap.size, 1, none⟩ = false := blk_free hV7.res 1
            have g2 : w7.frozen? ⟨w.heap.size, 2, none⟩ = false := blk_free hV7.res 2
            have g3 : w7.frozen? ⟨w.heap.size, 3, none⟩ = false := blk_free hV7.res 3
            have g4 : w7.frozen? ⟨w.heap.size, 4, none⟩ = false := blk_free hV7.res 4
            have g5 : w7.frozen? ⟨w.heap.size, 5, none⟩ = false := blk_free hV7.res 5
            have g6 : w7.frozen? ⟨w.heap.size, 6, none⟩ = false := blk_free hV7.res 6
            have g7 : w7.frozen? ⟨w.heap.size, 7, none⟩ = false := blk_free hV7.res 7
            have g8 : w7.frozen? ⟨w.heap.size, 8, none⟩ = false := blk_free hV7.res 8
            have g9 : w7.frozen? ⟨w.heap.size, 9, none⟩ = false := blk_free hV7.res 9
            obtain ⟨W9, hW9⟩ : ∃ W9, W9 = ((((((((((w7.setCell ⟨w.heap.size, 0, none⟩ (.int .i64 kk)).setCell ⟨w.heap.size, 1, none⟩ (.int .i64 epoch)).setCell ⟨w.heap.size, 2, none⟩ (.int .i64 tick)).setCell ⟨w.heap.size, 3, none⟩ (.int .i64 client)).setCell ⟨w.heap.size, 4, none⟩ (.int .i64 seq)).setCell ⟨w.heap.size, 5, none⟩ (.int .i64 job)).setCell ⟨w.heap.size, 6, none⟩ (.int .i64 attempt)).setCell ⟨w.heap.size, 7, none⟩ (.int .i64 node)).setCell ⟨w.heap.size, 8, none⟩ (.int .i64 how)).setCell ⟨w.heap.size, 9, none⟩ (.slice xo xm xc)) := ⟨_, rfl⟩
            have hb9 : W9.heap[w.heap.size]? = some (.cells (⟨⟨kk, epoch, tick, client, seq, job, attempt, node, how⟩, xo, xm, xc, xsp⟩ : Evv).cells 70 (0, 0)) := by rw [hW9]; exact set10_box hV7.res
            have hk9 : Kept w.heap.size w7 W9 := by rw [hW9]; exact set10_kept ..
            have s0 : W9.cell? ⟨w.heap.size, 0, none⟩ = some (.int .i64 kk) := blk_cell hb9 0
            have s1 : W9.cell? ⟨w.heap.size, 1, none⟩ = some (.int .i64 epoch) := blk_cell hb9 1
            have s2 : W9.cell? ⟨w.heap.size, 2, none⟩ = some (.int .i64 tick) := blk_cell hb9 2
            have s3 : W9.cell? ⟨w.heap.size, 3, none⟩ = some (.int .i64 client) := blk_cell hb9 3
            have s4 : W9.cell? ⟨w.heap.size, 4, none⟩ = some (.int .i64 seq) := blk_cell hb9 4
            have s5 : W9.cell? ⟨w.heap.size, 5, none⟩ = some (.int .i64 job) := blk_cell hb9 5
            have s6 : W9.cell? ⟨w.heap.size, 6, none⟩ = some (.int .i64 attempt) := blk_cell hb9 6
            have s7 : W9.cell? ⟨w.heap.size, 7, none⟩ = some (.int .i64 node) := blk_cell hb9 7
            have s8 : W9.cell? ⟨w.heap.size, 8, none⟩ = some (.int .i64 how) := blk_cell hb9 8
            have s9 : W9.cell? ⟨w.heap.size, 9, none⟩ = some (.slice xo xm xc) := blk_cell hb9 9
            have hl9 : Below w.heap.size w7 W9 := hk9.below (Nat.le_refl _) (blk_lt hV7.res)
            have hR9 := hV7.rd.at hl9 hrbw.out hB.out
            have hO9 := hV7.ok.kept hV7.fr hk9 (Nat.le_refl _)
            have hKp9 := hV7.kp.then hl9 (Nat.le_refl _)
            have hW9' := Lib.hid hW9
            clear hW9
            replace hb7 := Lib.hid hb7; replace hV7 := Lib.hid hV7; replace hmy := Lib.hid hmy; replace hE0 := Lib.hid hE0; replace hlst2 := Lib.hid hlst2; replace hErr := Lib.hid hErr; replace q5 := Lib.hid q5; replace htk := Lib.hid htk; replace hb9 := Lib.hid hb9; replace hk9 := Lib.hid hk9; replace hl9 := Lib.hid hl9; replace hR9 := Lib.hid hR9; replace hO9 := Lib.hid hO9; replace hKp9 := Lib.hid hKp9
            go_wp2_with fail
            refine hErr.out.mono ?_
            rintro en w8 ⟨rfl, rfl⟩
            go_wp2
            rw [← hW9'.out]
            refine bodyPost_ret (v := (⟨⟨kk, epoch, tick, client, seq, job, attempt, node, how⟩, xo, xm, xc, xsp⟩ : Evv).val) (by simp [results, Tryd.results51, go_sem, s0, s1, s2, s3, s4, s5, s6, s7, s8, s9]) rfl ?_
            exact ⟨(⟨⟨kk, epoch, tick, client, seq, job, attempt, node, how⟩, xo, xm, xc, xsp⟩ : Evv), rfl, hO9.out, by rw [htk.out]; exact hXp.out, by rw [htk.out]; exact hR9.out, hKp9.out⟩
          · have d2 : (e5 != (0 : Int)) = true := by rw [bne_iff_ne]; exact q5
            obtain ⟨lz, hlz⟩ : ∃ lz, lz = l5 := ⟨_, rfl⟩
            obtain ⟨ez, hez⟩ : ∃ ez, ez = e5 := ⟨_, rfl⟩
            have htk : takeR l e = (Evp.zero, lz, ez) := by unfold takeR; rw [hlst2, if_neg q5, hlz, hez]
            rw [← hlz, ← hez] at hV7
            replace hmy := Lib.hid hmy; replace hE0 := Lib.hid hE0; replace hlst2 := Lib.hid hlst2; replace q5 := Lib.hid q5; replace htk := Lib.hid htk; replace hErr := Lib.hid hErr; replace hlz := Lib.hid hlz; replace hez := Lib.hid hez
            go_wp2_with fail
            refine hErr.out.mono ?_
            rintro en w8 ⟨rfl, rfl⟩
            have r0 : w8.cell? ⟨w.heap.size, 0, none⟩ = some (.int .i64 0) := blk_cell hV7.res 0
            have r1 : w8.cell? ⟨w.heap.size, 1, none⟩ = some (.int .i64 0) := blk_cell hV7.res 1
            have r2 : w8.cell? ⟨w.heap.size, 2, none⟩ = some (.int .i64 0) := blk_cell hV7.res 2
            have r3 : w8.cell? ⟨w.heap.size, 3, none⟩ = some (.int .i64 0) := blk_cell hV7.res 3
            have r4 : w8.cell? ⟨w.heap.size, 4, none⟩ = some (.int .i64 0) := blk_cell hV7.res 4
            have r5 : w8.cell? ⟨w.heap.size, 5, none⟩ = some (.int .i64 0) := blk_cell hV7.res 5
            have r6 : w8.cell? ⟨w.heap.size, 6, none⟩ = some (.int .i64 0) := blk_cell hV7.res 6
            have r7 : w8.cell? ⟨w.heap.size, 7, none⟩ = some (.int .i64 0) := blk_cell hV7.res 7
            have r8 : w8.cell? ⟨w.heap.size, 8, none⟩ = some (.int .i64 0) := blk_cell hV7.res 8
            have r9 : w8.cell? ⟨w.heap.size, 9, none⟩ = some (.slice none 0 0) := blk_cell hV7.res 9
            have g0 : w8.frozen? ⟨w.heap.size, 0, none⟩ = false := blk_free hV7.res 0
            have g1 : w8.frozen? ⟨w.heap.size, 1, none⟩ = false := blk_free hV7.res 1
            have g2 : w8.frozen? ⟨w.heap.size, 2, none⟩ = false := blk_free hV7.res 2
            have g3 : w8.frozen? ⟨w.heap.size, 3, none⟩ = false := blk_free hV7.res 3
            have g4 : w8.frozen? ⟨w.heap.size, 4, none⟩ = false := blk_free hV7.res 4
            have g5 : w8.frozen? ⟨w.heap.size, 5, none⟩ = false := blk_free hV7.res 5
            have g6 : w8.frozen? ⟨w.heap.size, 6, none⟩ = false := blk_free hV7.res 6
            have g7 : w8.frozen? ⟨w.heap.size, 7, none⟩ = false := blk_free hV7.res 7
            have g8 : w8.frozen? ⟨w.heap.size, 8, none⟩ = false := blk_free hV7.res 8
            have g9 : w8.frozen? ⟨w.heap.size, 9, none⟩ = false := blk_free hV7.res 9
            obtain ⟨W9, hW9⟩ : ∃ W9, W9 = ((((((((((w8.setCell ⟨w.heap.size, 0, none⟩ (.int .i64 0)).setCell ⟨w.heap.size, 1, none⟩ (.int .i64 0)).setCell ⟨w.heap.size, 2, none⟩ (.int .i64 0)).setCell ⟨w.heap.size, 3, none⟩ (.int .i64 0)).setCell ⟨w.heap.size, 4, none⟩ (.int .i64 0)).setCell ⟨w.heap.size, 5, none⟩ (.int .i64 0)).setCell ⟨w.heap.size, 6, none⟩ (.int .i64 0)).setCell ⟨w.heap.size, 7, none⟩ (.int .i64 0)).setCell ⟨w.heap.size, 8, none⟩ (.int .i64 0)).setCell ⟨w.heap.size, 9, none⟩ (.slice none 0 0)) := ⟨_, rfl⟩
            have hb9 : W9.heap[w.heap.size]? = some (.cells (⟨Evn.zero, none, 0, 0, []⟩ : Evv).cells 70 (0, 0)) := by rw [hW9]; exact set10_box hV7.res
            have hk9 : Kept w.heap.size w8 W9 := by rw [hW9]; exact set10_kept ..
            have s0 : W9.cell? ⟨w.heap.size, 0, none⟩ = some (.int .i64 0) := blk_cell hb9 0
            have s1 : W9.cell? ⟨w.heap.size, 1, none⟩ = some (.int .i64 0) := blk_cell hb9 1
            have s2 : W9.cell? ⟨w.heap.size, 2, none⟩ = some (.int .i64 0) := blk_cell hb9 2
            have s3 : W9.cell? ⟨w.heap.size, 3, none⟩ = some (.int .i64 0) := blk_cell hb9 3
            have s4 : W9.cell? ⟨w.heap.size, 4, none⟩ = some (.int .i64 0) := blk_cell hb9 4
            have s5 : W9.cell? ⟨w.heap.size, 5, none⟩ = some (.int .i64 0) := blk_cell hb9 5
            have s6 : W9.cell? ⟨w.heap.size, 6, none⟩ = some (.int .i64 0) := blk_cell hb9 6
            have s7 : W9.cell? ⟨w.heap.size, 7, none⟩ = some (.int .i64 0) := blk_cell hb9 7
            have s8 : W9.cell? ⟨w.heap.size, 8, none⟩ = some (.int .i64 0) := blk_cell hb9 8
            have s9 : W9.cell? ⟨w.heap.size, 9, none⟩ = some (.slice none 0 0) := blk_cell hb9 9
            have hl9 : Below w.heap.size w8 W9 := hk9.below (Nat.le_refl _) (blk_lt hV7.res)
            have hR9 := hV7.rd.at hl9 hrbw.out hB.out
            have hKp9 := hV7.kp.then hl9 (Nat.le_refl _)
            have hW9' := Lib.hid hW9
            clear hW9
            replace hV7 := Lib.hid hV7; replace hb9 := Lib.hid hb9; replace hk9 := Lib.hid hk9; replace hl9 := Lib.hid hl9; replace hR9 := Lib.hid hR9; replace hKp9 := Lib.hid hKp9
            go_wp2
            rw [← hW9'.out]
            refine bodyPost_ret (v := (⟨Evn.zero, none, 0, 0, []⟩ : Evv).val) (by simp [results, Tryd.results51, go_sem, s0, s1, s2, s3, s4, s5, s6, s7, s8, s9, Evn.zero]) rfl ?_
            exact ⟨(⟨Evn.zero, none, 0, 0, []⟩ : Evv), rfl, ⟨sps_none _, Nat.le_refl _, rng_kind (k := 0) (by omega)⟩, by rw [htk.out]; rfl, by rw [htk.out]; exact hR9.out, hKp9.out⟩
        · have hE0 : errE ⟨n, sp⟩ = 130 := errE_no (by simpa using hmy)
          have hlst2 : lastR l e = (failL l5 e5 130, failE e5 130) := by rw [hlst.out, if_neg hmy]
          rw [hE0]
          have d1 : ((130 : Int) != (0 : Int)) = true := rfl
          have hFl := rfail_any hV7.rd 130
          replace hb7 := Lib.hid hb7; replace hV7 := Lib.hid hV7; replace hmy := Lib.hid hmy; replace hE0 := Lib.hid hE0; replace hlst2 := Lib.hid hlst2; replace hFl := Lib.hid hFl
          go_wp2_with fail
          refine hFl.out.mono ?_
          rintro en wz ⟨rfl, hRz, hKz⟩
          obtain ⟨lz, hlz⟩ : ∃ lz, lz = failL l5 e5 130 := ⟨_, rfl⟩
          obtain ⟨ez, hez⟩ : ∃ ez, ez = failE e5 130 := ⟨_, rfl⟩
          rw [← hlz, ← hez] at hRz
          have hV7 := hV7.out.kept hKz hrbw.out hebw.out hRz
          have q5 : ez ≠ 0 := by
            rw [hez]
            unfold failE
            split
            · decide
            · next c => intro c2; exact c ⟨c2, by decide⟩
          have d2 : (ez != (0 : Int)) = true := by rw [bne_iff_ne]; exact q5
          have htk : takeR l e = (Evp.zero, lz, ez) := by unfold takeR; rw [hlst2.out, ← hlz, ← hez, if_neg q5]
          have hErr := rerr_any hV7.rd
          replace hRz := Lib.hid hRz; replace hKz := Lib.hid hKz; replace q5 := Lib.hid q5; replace htk := Lib.hid htk; replace hErr := Lib.hid hErr; replace hlz := Lib.hid hlz; replace hez := Lib.hid hez
          go_wp2_with fail
          refine hErr.out.mono ?_
          rintro en w8 ⟨rfl, rfl⟩
          have r0 : w8.cell? ⟨w.heap.size, 0, none⟩ = some (.int .i64 0) := blk_cell hV7.res 0
          have r1 : w8.cell? ⟨w.heap.size, 1, none⟩ = some (.int .i64 0) := blk_cell hV7.res 1
          have r2 : w8.cell? ⟨w.heap.size, 2, none⟩ = some (.int .i64 0) := blk_cell hV7.res 2
          have r3 : w8.cell? ⟨w.heap.size, 3, none⟩ = some (.int .i64 0) := blk_cell hV7.res 3
          have r4 : w8.cell? ⟨w.heap.size, 4, none⟩ = some (.int .i64 0) := blk_cell hV7.res 4
          have r5 : w8.cell? ⟨w.heap.size, 5, none⟩ = some (.int .i64 0) := blk_cell hV7.res 5
          have r6 : w8.cell? ⟨w.heap.size, 6, none⟩ = some (.int .i64 0) := blk_cell hV7.res 6
          have r7 : w8.cell? ⟨w.heap.size, 7, none⟩ = some (.int .i64 0) := blk_cell hV7.res 7
          have r8 : w8.cell? ⟨w.heap.size, 8, none⟩ = some (.int .i64 0) := blk_cell hV7.res 8
          have r9 : w8.cell? ⟨w.heap.size, 9, none⟩ = some (.slice none 0 0) := blk_cell hV7.res 9
          have g0 : w8.frozen? ⟨w.heap.size, 0, none⟩ = false := blk_free hV7.res 0
          have g1 : w8.frozen? ⟨w.heap.size, 1, none⟩ = false := blk_free hV7.res 1
          have g2 : w8.frozen? ⟨w.heap.size, 2, none⟩ = false := blk_free hV7.res 2
          have g3 : w8.frozen? ⟨w.heap.size, 3, none⟩ = false := blk_free hV7.res 3
          have g4 : w8.frozen? ⟨w.heap.size, 4, none⟩ = false := blk_free hV7.res 4
          have g5 : w8.frozen? ⟨w.heap.size, 5, none⟩ = false := blk_free hV7.res 5
          have g6 : w8.frozen? ⟨w.heap.size, 6, none⟩ = false := blk_free hV7.res 6
          have g7 : w8.frozen? ⟨w.heap.size, 7, none⟩ = false := blk_free hV7.res 7
          have g8 : w8.frozen? ⟨w.heap.size, 8, none⟩ = false := blk_free hV7.res 8
          have g9 : w8.frozen? ⟨w.heap.size, 9, none⟩ = false := blk_free hV7.res 9
          obtain ⟨W9, hW9⟩ : ∃ W9, W9 = ((((((((((w8.setCell ⟨w.heap.size, 0, none⟩ (.int .i64 0)).setCell ⟨w.heap.size, 1, none⟩ (.int .i64 0)).setCell ⟨w.heap.size, 2, none⟩ (.int .i64 0)).setCell ⟨w.heap.size, 3, none⟩ (.int .i64 0)).setCell ⟨w.heap.size, 4, none⟩ (.int .i64 0)).setCell ⟨w.heap.size, 5, none⟩ (.int .i64 0)).setCell ⟨w.heap.size, 6, none⟩ (.int .i64 0)).setCell ⟨w.heap.size, 7, none⟩ (.int .i64 0)).setCell ⟨w.heap.size, 8, none⟩ (.int .i64 0)).setCell ⟨w.heap.size, 9, none⟩ (.slice none 0 0)) := ⟨_, rfl⟩
          have hb9 : W9.heap[w.heap.size]? = some (.cells (⟨Evn.zero, none, 0, 0, []⟩ : Evv).cells 70 (0, 0)) := by rw [hW9]; exact set10_box hV7.res
          have hk9 : Kept w.heap.size w8 W9 := by rw [hW9]; exact set10_kept ..
          have s0 : W9.cell? ⟨w.heap.size, 0, none⟩ = some (.int .i64 0) := blk_cell hb9 0
          have s1 : W9.cell? ⟨w.heap.size, 1, none⟩ = some (.int .i64 0) := blk_cell hb9 1
          have s2 : W9.cell? ⟨w.heap.size, 2, none⟩ = some (.int .i64 0) := blk_cell hb9 2
          have s3 : W9.cell? ⟨w.heap.size, 3, none⟩ = some (.int .i64 0) := blk_cell hb9 3
          have s4 : W9.cell? ⟨w.heap.size, 4, none⟩ = some (.int .i64 0) := blk_cell hb9 4
          have s5 : W9.cell? ⟨w.heap.size, 5, none⟩ = some (.int .i64 0) := blk_cell hb9 5
          have s6 : W9.cell? ⟨w.heap.size, 6, none⟩ = some (.int .i64 0) := blk_cell hb9 6
          have s7 : W9.cell? ⟨w.heap.size, 7, none⟩ = some (.int .i64 0) := blk_cell hb9 7
          have s8 : W9.cell? ⟨w.heap.size, 8, none⟩ = some (.int .i64 0) := blk_cell hb9 8
          have s9 : W9.cell? ⟨w.heap.size, 9, none⟩ = some (.slice none 0 0) := blk_cell hb9 9
          have hl9 : Below w.heap.size w8 W9 := hk9.below (Nat.le_refl _) (blk_lt hV7.res)
          have hR9 := hV7.rd.at hl9 hrbw.out hB.out
          have hKp9 := hV7.kp.then hl9 (Nat.le_refl _)
          have hW9' := Lib.hid hW9
          clear hW9
          replace hV7 := Lib.hid hV7; replace hb9 := Lib.hid hb9; replace hk9 := Lib.hid hk9; replace hl9 := Lib.hid hl9; replace hR9 := Lib.hid hR9; replace hKp9 := Lib.hid hKp9
          go_wp2
          rw [← hW9'.out]
          refine bodyPost_ret (v := (⟨Evn.zero, none, 0, 0, []⟩ : Evv).val) (by simp [results, Tryd.results51, go_sem, s0, s1, s2, s3, s4, s5, s6, s7, s8, s9, Evn.zero]) rfl ?_
          exact ⟨(⟨Evn.zero, none, 0, 0, []⟩ : Evv), rfl, ⟨sps_none _, Nat.le_refl _, rng_kind (k := 0) (by omega)⟩, by rw [htk.out]; rfl, by rw [htk.out]; exact hR9.out, hKp9.out⟩
end Go.Proofs.YteoihdkaoipocaaDoor

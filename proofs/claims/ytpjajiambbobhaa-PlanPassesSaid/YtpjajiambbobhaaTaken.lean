/- corveelaw06.taken: raw amounts are taken, as far as they fit. -/
import Derived.Test.YtpjajiambbobhaaSemc
import Derived.Test.YtpjajiambbobhaaClone
namespace Go.Proofs.Ytpjajiambbobhaa
open Go.RowKit

/-- something that is done to a profile, raw -/
structure Act6 where
  kind : Int
  fr : Int
  tt : Int
  v : V4
def Act6.zero : Act6 := ⟨0, 0, 0, V4.zero⟩
abbrev Act6.val (a : Act6) : Value := .agg #[.int .i64 a.kind, .int .i64 a.fr, .int .i64 a.tt, .int .i64 a.v.a, .int .i64 a.v.b, .int .i64 a.v.c, .int .i64 a.v.d]
def act (l : List Act6) (i : Nat) : Act6 := l.getD i Act6.zero

/-- a row of acts that came in -/
def ActsAt (w : World) (sv : Value) (acts : List Act6) : Prop :=
  ∃ (ao : Option Addr) (cap : Nat), sv = .slice ao acts.length cap ∧ acts.length ≤ 9223372036854775807 ∧ ∀ i, i < acts.length → ∃ b off, ao = some ⟨b, off, none⟩ ∧ b < w.heap.size ∧
    w.cell? ⟨b, off + i * 7, none⟩ = some (.int .i64 (act acts i).kind) ∧ w.cell? ⟨b, off + i * 7 + 1, none⟩ = some (.int .i64 (act acts i).fr) ∧ w.cell? ⟨b, off + i * 7 + 2, none⟩ = some (.int .i64 (act acts i).tt) ∧
    w.cell? ⟨b, off + i * 7 + 3, none⟩ = some (.int .i64 (act acts i).v.a) ∧ w.cell? ⟨b, off + i * 7 + 4, none⟩ = some (.int .i64 (act acts i).v.b) ∧ w.cell? ⟨b, off + i * 7 + 5, none⟩ = some (.int .i64 (act acts i).v.c) ∧ w.cell? ⟨b, off + i * 7 + 6, none⟩ = some (.int .i64 (act acts i).v.d)

/-- behind the last span all is free -/
def LateP (whole : V4) (acts : List Act6) (k : Nat) (l : List St) : Prop :=
  ∀ M, (∀ i, i < k → i < acts.length → (act acts i).tt ≤ M) → ∀ u, M ≤ u → 0 ≤ u → u < 1099511627776 → val l u = whole

theorem late_new (whole : V4) (acts : List Act6) : LateP whole acts 0 [⟨0, whole⟩] := by
  intro M _ u _ h _
  simp [val, valR, h]
theorem late_step {whole : V4} {acts : List Act6} {k : Nat} {l l' : List St} {r : Int} (h : LateP whole acts k l) (hk : k < acts.length) (ht : Taken l (act acts k).fr (act acts k).tt (act acts k).v r l') : LateP whole acts (k + 1) l' := by
  intro M hM u h1 h2 h3
  have hb := h M (fun i hi hi2 => hM i (by omega) hi2) u h1 h2 h3
  have hMk := hM k (by omega) hk
  rcases ht with ⟨_, _, rfl⟩ | ⟨_, _, _, rfl⟩ | ⟨_, _, _, hv⟩
  · exact hb
  · exact hb
  · rw [hv u h2 h3, if_neg (by omega)]; exact hb

def TakenPost (whole : V4) (acts : List Act6) (w : World) (e : Ending) (w' : World) : Prop :=
  (whole.right = false ∧ e = .returned (.pointer none) ∧ Below w.heap.size w w') ∨
    (∃ pb sb cap l k, e = .returned (.pointer (some ⟨pb, 0, none⟩)) ∧ Prof w' pb sb cap whole l ∧ Inv whole l ∧ LateP whole acts k l ∧ k ≤ acts.length ∧ w.heap.size ≤ pb ∧ w.heap.size ≤ sb ∧ Below w.heap.size w w')

theorem below_mod {B : Nat} {S : Nat → Prop} {w w1 w2 : World} (h : Below B w w1) (hm : Mod S w1 w2) (hS : ∀ k, S k → B ≤ k) (hB : B ≤ w1.heap.size) : Below B w w2 :=
  h.trans ⟨hm.os, hm.tape, hm.output, hm.size, fun k hk => hm.block k (by omega) (fun c => by have := hS k c; omega)⟩

set_option maxRecDepth 100000 in
set_option maxHeartbeats 1600000 in
theorem taken_any (whole : V4) (sv : Value) (acts : List Act6) (w : World) (ha : ActsAt w sv acts) :
    Calls Try.prog 20 #[whole.val, sv] w (TakenPost whole acts w) := by
  obtain ⟨ao, cap, rfl, hal, hac⟩ := ha
  replace hac := Lib.hid hac
  go_enter Try.func20, Try.ntmps20
  go_wp2_with fail
  refine (new_any whole _).mono ?_
  rintro e w2 (⟨hw, rfl, hb2⟩ | ⟨hw, pb, sb, rfl, hp, hpb, hsb, hb2⟩)
  · have hB2 : Below w.heap.size w w2 := ((Below.refl _ _).alloc (Nat.le_refl _) _).trans (hb2.mono (by simp))
    replace hw := Lib.hid hw; replace hb2 := Lib.hid hb2; replace hB2 := Lib.hid hB2
    go_wp2
    go_ret
    exact .inl ⟨hw.out, rfl, hB2.out⟩
  · have hB2 : Below w.heap.size w w2 := ((Below.refl _ _).alloc (Nat.le_refl _) _).trans (hb2.mono (by simp))
    have hpb' : w.heap.size ≤ pb := by simp at hpb; omega
    have hsb' : w.heap.size ≤ sb := by simp at hsb; omega
    replace hpb := Lib.hid hpb; replace hsb := Lib.hid hsb
    replace hw := Lib.hid hw; replace hb2 := Lib.hid hb2; replace hB2 := Lib.hid hB2; replace hp := Lib.hid hp
    go_wp2
    go_loopw [6] (fun i wr => ∃ (k sb cap : Nat) (l : List St), i = .int .i64 k ∧ k ≤ acts.length ∧ Hid (Prof wr pb sb cap whole l) ∧ Hid (Inv whole l) ∧ Hid (LateP whole acts k l) ∧ w.heap.size ≤ sb ∧ Hid (Below w.heap.size w wr)) (fun i _ => acts.length - (intOf i).toNat)
    case atStart => exact ⟨0, sb, 1, _, rfl, Nat.zero_le _, hp.out, inv_new hw.out, late_new whole acts, hsb', hB2.out⟩
    case round =>
      obtain ⟨k, sb, cap1, l, rfl, hk, hpr, hin, hla, hsb2, hBr⟩ := hrel
      by_cases hc : k < acts.length ∧ k < 30
      · have hc1 : (k : Int) < acts.length := by omega
        have hc2 : (k : Int) < 30 := by omega
        have hk0 : (0 : Int) ≤ (k : Int) := by omega
        have hkl : k < acts.length := hc.1
        replace hc := Lib.hid hc
        obtain ⟨b, off, rfl, hb, a0, a1, a2, a3, a4, a5, a6⟩ := hac.out k hkl
        have b0 := (below_cell hBr.out hb).trans a0; have b1 := (below_cell hBr.out hb).trans a1; have b2 := (below_cell hBr.out hb).trans a2
        have b3 := (below_cell hBr.out hb).trans a3; have b4 := (below_cell hBr.out hb).trans a4; have b5 := (below_cell hBr.out hb).trans a5; have b6 := (below_cell hBr.out hb).trans a6
        clear a0 a1 a2 a3 a4 a5 a6
        have hsz := hBr.out.size
        have hprD : Hid (Prof wr.drew pb sb cap1 whole l) := hpr.out.drew
        obtain ⟨x, hx⟩ : ∃ x, x = act acts k := ⟨_, rfl⟩
        rw [← hx] at b0 b1 b2 b3 b4 b5 b6
        replace hx := Lib.hid hx
        go_wp2_with fail
        go_region_held3 (fun w' => w'.cell? ⟨b, off + k * 7 + 1, none⟩ = some (.int .i64 x.fr) ∧ w'.cell? ⟨b, off + k * 7 + 2, none⟩ = some (.int .i64 x.tt) ∧ w'.cell? ⟨b, off + k * 7 + 3, none⟩ = some (.int .i64 x.v.a) ∧
            w'.cell? ⟨b, off + k * 7 + 4, none⟩ = some (.int .i64 x.v.b) ∧ w'.cell? ⟨b, off + k * 7 + 5, none⟩ = some (.int .i64 x.v.c) ∧ w'.cell? ⟨b, off + k * 7 + 6, none⟩ = some (.int .i64 x.v.d))
          (first
            | (go_keep; done)
            | (go_split_ands; refine ⟨?_, ?_, ?_, ?_, ?_, ?_⟩ <;> (rw [World.cell?_of_block (w := wr) (hmb.out b hb)]; assumption)))
          (first
            | (go_at_call 23
               refine (take_any pb sb cap1 whole l x.fr x.tt x.v _ hprD.out hin.out.loose).mono ?_
               rintro e w3 ⟨r, sb', cap', l', rfl, hR, hp3, hs3, hm3⟩
               have hmb : Hid (∀ b, b < w.heap.size → w3.heap[b]? = wr.heap[b]?) := fun b hb => hm3.block b (by simp; omega) (by omega)
               replace hR := Lib.hid hR; replace hp3 := Lib.hid hp3; replace hs3 := Lib.hid hs3; replace hm3 := Lib.hid hm3))
        obtain ⟨hin3, hT3⟩ := take_facts hin.out hR.out
        have hla3 : LateP whole acts (k + 1) l' := late_step hla.out hkl (by rw [← hx.out]; exact hT3)
        have hB3 : Below w.heap.size w w3 := below_mod hBr.out.drew hm3.out (fun k h => by rcases h with h | h <;> omega) (by simpa using hsz)
        have hsb3 : w.heap.size ≤ sb' := by
          rcases hs3.out with h | h
          · omega
          · simp at h; omega
        replace hin3 := Lib.hid hin3; replace hT3 := Lib.hid hT3; replace hla3 := Lib.hid hla3; replace hB3 := Lib.hid hB3
        go_wp2
        go_roundw
        case rel => exact ⟨k + 1, sb', cap', l', by go_num, by omega, hp3.out, hin3.out, hla3.out, hsb3, hB3.out⟩
        case measure => simp [intOf]; omega
      · by_cases hc1 : k < acts.length
        · have hc2 : (k : Int) < acts.length := by omega
          have hc3 : ¬ (k : Int) < 30 := by omega
          replace hc := Lib.hid hc
          go_wp2
          go_ret
          exact .inr ⟨pb, sb, cap1, l, k, rfl, hpr.out, hin.out, hla.out, hk, hpb', hsb2, hBr.out⟩
        · have hc2 : ¬ (k : Int) < acts.length := by omega
          replace hc := Lib.hid hc
          go_wp2
          go_ret
          exact .inr ⟨pb, sb, cap1, l, k, rfl, hpr.out, hin.out, hla.out, hk, hpb', hsb2, hBr.out⟩
end Go.Proofs.Ytpjajiambbobhaa

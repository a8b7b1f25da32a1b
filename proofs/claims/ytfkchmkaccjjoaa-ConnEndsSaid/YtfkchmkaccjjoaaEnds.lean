/-
  The walk of ConnEnds.
-/
import Derived.Test.YtfkchmkaccjjoaaCStepA
import Derived.Test.YtfkchmkaccjjoaaCStepB
import Derived.Test.YtfkchmkaccjjoaaCStepC
import Derived.Test.YtfkchmkaccjjoaaCStepD
import Derived.Deep.RegionWith
namespace Go.Proofs.Ytfkchmkaccjjoaa
open Go.RowKit

theorem cstep_any (w : World) (p : Pl) (L : Nat) (aa : Option Addr) (ac : Nat) (r : RPl) (qi qo all : List UInt8) (st : Nat) (en : Bool) (d x : Int) (oa : Option Addr) (ol oc : Nat) (bs : List UInt8)
    (s : StepIn w p L aa ac r qi qo all st en oa ol oc bs) :
    Calls Try.prog 26 #[.pointer (some ⟨p.c, 0, none⟩), .pointer (some ⟨r.c, 0, none⟩), .agg #[.int .i64 d, .int .i64 x, .slice oa ol oc]] w (CStepPost w p L r qi qo all st) := by
  have pick : ∀ q : List UInt8, ∃ k : Nat, x < 0 ∧ k = 0 ∨ x = k ∧ k ≤ q.length ∨ (q.length : Int) < x ∧ k = q.length := fun q => by
    by_cases h0 : x < 0
    · exact ⟨0, .inl ⟨h0, rfl⟩⟩
    · by_cases h1 : x ≤ q.length
      · exact ⟨x.toNat, .inr (.inl ⟨by omega, by omega⟩)⟩
      · exact ⟨q.length, .inr (.inr ⟨by omega, rfl⟩)⟩
  by_cases h0 : d = 0
  · subst h0; exact cstep_arrive w p L aa ac r qi qo all st en x oa ol oc bs s
  by_cases h1 : d = 1
  · subst h1; exact cstep_end w p L aa ac r qi qo all st en x oa ol oc bs s
  by_cases h2 : d = 2
  · subst h2; exact cstep_break w p L aa ac r qi qo all st en x oa ol oc bs s
  by_cases h3 : d = 3
  · subst h3
    obtain ⟨k, hk⟩ := pick qo
    exact cstep_taken w p L aa ac r qi qo all st en x oa ol oc bs k s hk
  by_cases h4 : d = 4
  · subst h4
    obtain ⟨k, hk⟩ := pick qi
    exact cstep_peek w p L aa ac r qi qo all st en x oa ol oc bs k s hk
  by_cases h5 : d = 5
  · subst h5
    obtain ⟨k, hk⟩ := pick qi
    exact cstep_read w p L aa ac r qi qo all st en x oa ol oc bs k s hk
  by_cases h6 : d = 6
  · subst h6; exact cstep_write w p L aa ac r qi qo all st en x oa ol oc bs s
  by_cases h7 : d = 7
  · subst h7; exact cstep_close w p L aa ac r qi qo all st en x oa ol oc bs s
  by_cases h8 : d = 8
  · subst h8; exact cstep_abort w p L aa ac r qi qo all st en x oa ol oc bs s
  exact cstep_other w p L aa ac r qi qo all st en x oa ol oc bs d s ⟨h0, h1, h2, h3, h4, h5, h6, h7, h8⟩

theorem ends_no (x y : Int) (sa : Option Addr) (sl sc : Nat) (ta : Option Addr) (tl tc : Nat) (ab : Bool) (w : World) (h : (x < 1 ∨ 4096 < x) ∨ (y < 1 ∨ 4096 < y)) :
    Calls Try.prog 6 #[.int .i64 x, .int .i64 y, .slice sa sl sc, .bool ab, .slice ta tl tc] w fun e w' => e = .returned (.bool true) ∧ Below w.heap.size w w' := by
  have H := Lib.hid h
  clear h
  go_enter Try.func6, Try.ntmps6
  go_wp2_with fail
  refine (shown2_any _).mono ?_
  rintro e w1 ⟨rfl, K1⟩
  have HK1 := Lib.hid K1
  clear K1
  go_wp2_with fail
  refine (connNew_no _ _ _ H.out).mono ?_
  rintro e w2 ⟨rfl, K2⟩
  have HK2 := Lib.hid K2
  clear K2
  go_wp2
  go_ret
  exact ⟨rfl, (HK1.out.trans HK2.out).below (Nat.le_refl _) (fun _ _ h => h.elim)⟩

/-- One step of a script of the second law. -/
structure OpAt2 (w : World) (sb so j : Nat) (d x : Int) (oa : Option Addr) (ol oc : Nat) (bs : List UInt8) : Prop where
  c0 : w.cell? ⟨sb, so + j * 3, none⟩ = some (.int .i64 d)
  c1 : w.cell? ⟨sb, so + j * 3 + 1, none⟩ = some (.int .i64 x)
  c2 : w.cell? ⟨sb, so + j * 3 + 2, none⟩ = some (.slice oa ol oc)
  hl : bs.length = ol
  le : ol ≤ oc
  top : oc ≤ 140737488351232
  hb : IsB w oa bs

def Ops2 (w : World) (sa : Option Addr) (sl : Nat) : Prop := sl = 0 ∨ ∃ sb so, sa = some ⟨sb, so, none⟩ ∧ ∀ j, j < sl → ∃ d x oa ol oc bs, OpAt2 w sb so j d x oa ol oc bs

/-- How both stand. -/
structure EndAt (w0 : World) (p : Pl) (L : Nat) (r : RPl) (n : Nat) (aa : Option Addr) (ac : Nat) (qi qo all : List UInt8) (st : Nat) (en : Bool) (wr : World) : Prop where
  hc : ConnAt wr p L aa ac qi qo all st en
  hr : RefC wr r (Yb L aa) qi qo all st en
  inv : CInv st qi qo
  len : all.length ≤ n * 4096
  hk : Kept (fun b => w0.heap.size ≤ b) w0 wr
  hL : L ≤ wr.heap.size

def EndRel (w0 : World) (p : Pl) (L : Nat) (r : RPl) (sl : Nat) (i : Value) (wr : World) : Prop :=
  ∃ k aa ac qi qo all st en, i = .int .i64 (k : Nat) ∧ k ≤ sl ∧ k ≤ 100 ∧ EndAt w0 p L r k aa ac qi qo all st en wr

def EndRel2 (w0 : World) (p : Pl) (L : Nat) (r : RPl) (al : List UInt8) (sl : Nat) (was i : Value) (wr : World) : Prop :=
  ∃ k aa ac qi qo st en, i = .int .i64 (k : Nat) ∧ was = .int .i64 (st : Nat) ∧ k ≤ sl ∧ k ≤ 100 ∧ st ≠ 0 ∧ EndAt w0 p L r 100 aa ac qi qo al st en wr

/-- What is fixed. -/
structure EndFix (w0 : World) (p : Pl) (L : Nat) (r : RPl) : Prop where
  mi : r.mi = p.mi
  mo : r.mo = p.mo
  hr : ∀ i, r.In i → p.M ≤ i ∧ i < L
  hBM : p.B ≤ p.M
  hB : w0.heap.size ≤ p.B
  hML : p.M ≤ L

theorem EndAt.step {w0 wr : World} {p : Pl} {L : Nat} {r : RPl} {n : Nat} {aa : Option Addr} {ac : Nat} {qi qo all : List UInt8} {st : Nat} {en : Bool} (h : EndAt w0 p L r n aa ac qi qo all st en wr) (f : EndFix w0 p L r) (hn : n ≤ 200)
    {sb so j : Nat} {d x : Int} {oa : Option Addr} {ol oc : Nat} {bs : List UInt8} (o : OpAt2 w0 sb so j d x oa ol oc bs) : StepIn wr p L aa ac r qi qo all st en oa ol oc bs :=
  ⟨h.hc, h.hr, f.mi, f.mo, o.hl, o.le, o.top, o.hb.kept h.hk (fun y hy hne => by subst hy; have := o.hb.lt hne; show ¬ w0.heap.size ≤ y.block; omega),
    fun hne y hy => by subst hy; have := o.hb.lt hne; have := f.hB; omega, h.hL, f.hr, by have := h.len; omega, f.hBM⟩

theorem EndAt.apart {w0 wr : World} {p : Pl} {L : Nat} {r : RPl} {n : Nat} {aa : Option Addr} {ac : Nat} {qi qo all : List UInt8} {st : Nat} {en : Bool} (h : EndAt w0 p L r n aa ac qi qo all st en wr) (f : EndFix w0 p L r) : ∀ i, r.In i → ¬ p.In aa i := by
  rintro i hi (e | e)
  · have := f.hr i hi; omega
  · have := map_ge (fun y hy => (h.hc.hall.at y hy).1) e
    have := f.hr i hi
    omega
theorem EndAt.inY {w0 wr : World} {p : Pl} {L : Nat} {r : RPl} {n : Nat} {aa : Option Addr} {ac : Nat} {qi qo all : List UInt8} {st : Nat} {en : Bool} (_h : EndAt w0 p L r n aa ac qi qo all st en wr) (f : EndFix w0 p L r) : ∀ i, p.In aa i → Yb L aa i := by
  rintro i (e | e)
  · exact .inl (by have := f.hML; omega)
  · exact .inr e
theorem EndAt.low {w0 wr : World} {p : Pl} {L : Nat} {r : RPl} {n : Nat} {aa : Option Addr} {ac : Nat} {qi qo all : List UInt8} {st : Nat} {en : Bool} (h : EndAt w0 p L r n aa ac qi qo all st en wr) (f : EndFix w0 p L r) : ∀ i, p.In aa i → w0.heap.size ≤ i := by
  have := f.hB
  have := f.hBM
  have := f.hML
  rintro i (e | e)
  · omega
  · have := map_ge (fun y hy => (h.hc.hall.at y hy).1) e
    omega

set_option maxRecDepth 100000 in
set_option maxHeartbeats 2000000 in
theorem ends_yes (m1 m2 : Nat) (sa : Option Addr) (sl sc : Nat) (ta : Option Addr) (tl tc : Nat) (ab : Bool) (w : World) (h1a : 1 ≤ m1) (h1b : m1 ≤ 4096) (h2a : 1 ≤ m2) (h2b : m2 ≤ 4096) (_hsl : sl ≤ 140737488351232) (_htl : tl ≤ 140737488351232)
    (hops : Ops2 w sa sl) (hops2 : Ops2 w ta tl) :
    Calls Try.prog 6 #[.int .i64 m1, .int .i64 m2, .slice sa sl sc, .bool ab, .slice ta tl tc] w fun e w' => e = .returned (.bool true) ∧ Below w.heap.size w w' := by
  have Hops := Lib.hid hops
  have Hops2 := Lib.hid hops2
  clear hops hops2
  go_enter Try.func6, Try.ntmps6
  go_wp2_with fail
  refine (shown2_any _).mono ?_
  rintro e w1 ⟨rfl, K1⟩
  have HK1 := Lib.hid K1
  clear K1
  go_wp2_with fail
  refine (connNew_yes _ m1 m2 h1a h1b h2a h2b).mono ?_
  rintro e w2 ⟨p, rfl, hmi, hmo, hB, hM, C2, K2⟩
  have HC2 := Lib.hid C2
  have HK2 : Hid (Kept (fun b => w.heap.size ≤ b) w w2) := (HK1.out.trans K2).mono (fun _ _ h => h.elim)
  have l1 := HK1.out.size
  have l2 := K2.size
  have Hmi := Lib.hid hmi
  have Hmo := Lib.hid hmo
  have lB : w.heap.size ≤ p.B := by omega
  have HM := Lib.hid hM
  have lBM : p.B ≤ p.M := by omega
  clear hmi hmo hB hM C2 K2 HK1 l1 l2
  go_wp2_with fail
  refine (rnew_yes _ m1 m2 h1a h1b h2a h2b).mono ?_
  rintro e w3 ⟨r, rfl, hri, hro, hrI, R3, K3⟩
  obtain ⟨L, hL⟩ : ∃ L, w3.heap.size = L := ⟨_, rfl⟩
  have lK3 := K3.size
  have F : EndFix w p L r := ⟨by rw [hri, Hmi.out], by rw [hro, Hmo.out], fun i hi => by have := hrI i hi; have := HM.out; omega, lBM, lB, by have := HM.out; omega⟩
  have E3 : EndAt w p L r 0 none 0 [] [] [] 0 false w3 := ⟨(HC2.out L (by omega)).kept K3 (fun _ _ h => h), R3 _ ⟨.inl (F.hr _ (.inl rfl)).2, .inl (F.hr _ (.inr (.inl rfl))).2, .inl (F.hr _ (.inr (.inr rfl))).2⟩, .inl rfl, Nat.zero_le _, HK2.out.trans' K3 (fun _ _ h => h.elim), by omega⟩
  have HF := Lib.hid F
  have HE3 := Lib.hid E3
  clear hri hro hrI R3 hL lK3 K3 F E3 HC2 HK2 Hmi Hmo HM lBM lB
  go_wp2_with fail
  go_loopw [14] (EndRel w p L r sl) (fun i _ => 100 - (intOf i).toNat)
  case atStart => exact ⟨0, none, 0, [], [], [], 0, false, rfl, Nat.zero_le _, Nat.zero_le _, HE3.out⟩
  case round =>
    obtain ⟨k, aa, ac, qi, qo, all, st, en, rfl, hk1, hk2, E⟩ := hrel
    have HE := Lib.hid E
    clear E HE3
    by_cases hgo : k < sl ∧ k < 100
    · obtain ⟨hgo1, hgo2⟩ := hgo
      have hop : ∃ sb so, sa = some ⟨sb, so, none⟩ ∧ ∃ d x oa ol oc bs, OpAt2 w sb so k d x oa ol oc bs := by
        rcases Hops.out with h | ⟨sb, so, h, ho⟩
        · omega
        · exact ⟨sb, so, h, ho k hgo1⟩
      obtain ⟨sb, so, rfl, d, x, oa, ol, oc, bs, O⟩ := hop
      have lsb : sb < w.heap.size := World.block_lt_of_cell? w _ O.c0
      have c0 := HE.out.hk.cell O.c0 (show ¬ w.heap.size ≤ sb by omega)
      have c1 := HE.out.hk.cell O.c1 (show ¬ w.heap.size ≤ sb by omega)
      have c2 := HE.out.hk.cell O.c2 (show ¬ w.heap.size ≤ sb by omega)
      have HO := Lib.hid O
      have j1 : (0 : Int) ≤ k := by omega
      have j2 : (k : Int) < sl := by omega
      clear O
      go_wp2_with fail
      refine (cstep_any wr p L aa ac r qi qo all st en d x oa ol oc bs (HE.out.step HF.out (by omega) HO.out)).mono ?_
      rintro e w5 ⟨rfl, aa', ac', qi', qo', all', st', en', C5, R5, K5, X5⟩
      have E5 : EndAt w p L r (k + 1) aa' ac' qi' qo' all' st' en' w5 := ⟨C5, R5, X5.inv HE.out.inv, by have := X5.len; have := HE.out.len; omega, HE.out.hk.trans' K5 (fun i _ h => Nat.le_trans HF.out.hB h), Nat.le_trans HE.out.hL K5.size⟩
      have HE5 := Lib.hid E5
      clear C5 R5 K5 X5 E5 c0 c1 c2
      go_wp2_with fail
      go_roundw
      case rel => exact ⟨k + 1, aa', ac', qi', qo', all', st', en', by simp, by omega, by omega, HE5.out⟩
      case measure => simp [intOf]; omega
    · have hsplit : (¬ k < sl) ∨ (k < sl ∧ ¬ k < 100) := by omega
      clear hgo
      cases ab with
      | true =>
        rcases hsplit with hs1 | ⟨hs1, hs2⟩
        all_goals
          go_wp2_with fail
          refine (abort_any _ p L _ _ _ _ _ _ _ HE.out.hc).mono ?_
          rintro e w5 ⟨rfl, C5, K5⟩
          have HC5 := Lib.hid C5
          have HK5 := Lib.hid K5
          clear C5 K5
          go_wp2_with fail
          have R5 : RefC w5 r (Yb L aa) qi qo all st en := HE.out.hr.kept HK5.out (fun i hi h => HE.out.apart HF.out i hi h) (fun i _ h => HE.out.inY HF.out i h)
          refine (rabort_any _ r _ _ _ _ _ _ R5).mono ?_
          rintro e w6 ⟨rfl, R6, K6⟩
          have E6 : EndAt w p L r 100 aa ac (if st = 2 then qi else []) (if st = 2 then qo else []) all (if st = 2 then 2 else 3) en w6 :=
            ⟨HC5.out.kept K6 (fun b hb h => HE.out.apart HF.out b h hb), R6, (CNext.abort st qi qo all).inv HE.out.inv, by have := HE.out.len; omega,
              (HE.out.hk.trans' HK5.out (fun i _ h => HE.out.low HF.out i h)).trans' K6 (fun i _ h => by have := HF.out.hr i h; have := HF.out.hBM; have := HF.out.hB; omega), Nat.le_trans HE.out.hL (Nat.le_trans HK5.out.size K6.size)⟩
          obtain ⟨st1, hst1⟩ : ∃ st1, st1 = (if st = 2 then 2 else 3) := ⟨_, rfl⟩
          have n1 : st1 ≠ 0 := by rw [hst1]; split <;> omega
          rw [← hst1] at E6
          obtain ⟨q1, hq1⟩ : ∃ q1, q1 = (if st = 2 then qi else []) := ⟨_, rfl⟩
          obtain ⟨q2, hq2⟩ : ∃ q2, q2 = (if st = 2 then qo else []) := ⟨_, rfl⟩
          rw [← hq1, ← hq2] at E6
          have HE6 := Lib.hid E6
          clear R5 R6 K6 HC5 HK5 hst1 E6 HE hq1 hq2
          obtain ⟨n, hn⟩ : ∃ n, all.length = n := ⟨_, rfl⟩
          have Hn := Lib.hid hn
          have n2 : n ≤ 409600 := by have := HE6.out.len; omega
          clear hn
          go_wp2_with fail
          refine (written_any _ p L _ _ _ _ _ _ _ HE6.out.hc n Hn.out (by omega)).mono ?_
          rintro e w7 ⟨x7, c7, rfl, O7, C7, K7⟩
          have E7 : EndAt w p L r 100 aa ac q1 q2 all st1 en w7 := ⟨C7, HE6.out.hr.kept K7 (fun i hi h => HE6.out.apart HF.out i hi h) (fun i _ h => HE6.out.inY HF.out i h), HE6.out.inv, HE6.out.len, HE6.out.hk.trans' K7 (fun i _ h => HE6.out.low HF.out i h), Nat.le_trans HE6.out.hL K7.size⟩
          have v7 := run_convB (P := Try.prog) w7 22 5 9 Try.underlying22 Try.underlying5 Try.underlying9 x7 all n c7 Hn.out O7.isB
          have HE7 := Lib.hid E7
          clear O7 C7 K7 E7 HE6
          go_wp2_with fail
          refine (state_any _ p L _ _ _ _ _ _ _ HE7.out.hc).mono ?_
          rintro e w8 ⟨rfl, rfl⟩
          clear v7
          go_wp2_with fail
          go_loopw [16, 17] (EndRel2 w p L r all tl) (fun _ i _ => 100 - (intOf i).toNat)
          case atStart => exact ⟨0, aa, ac, q1, q2, st1, en, rfl, rfl, Nat.zero_le _, Nat.zero_le _, n1, HE7.out⟩
          case round =>
            obtain ⟨k2, aa2, ac2, p1, p2, st2, en2, rfl, rfl, hk3, hk4, hst2, E⟩ := hrel
            have HE := Lib.hid E
            clear E HE7
            by_cases hgo : k2 < tl ∧ k2 < 100
            · obtain ⟨hgo1, hgo2⟩ := hgo
              have hop : ∃ sb so, ta = some ⟨sb, so, none⟩ ∧ ∃ d x oa ol oc bs, OpAt2 w sb so k2 d x oa ol oc bs := by
                rcases Hops2.out with h | ⟨sb, so, h, ho⟩
                · omega
                · exact ⟨sb, so, h, ho k2 hgo1⟩
              obtain ⟨sb, so, rfl, d, x, oa, ol, oc, bs, O⟩ := hop
              have lsb : sb < w.heap.size := World.block_lt_of_cell? w _ O.c0
              have c0 := HE.out.hk.cell O.c0 (show ¬ w.heap.size ≤ sb by omega)
              have c1 := HE.out.hk.cell O.c1 (show ¬ w.heap.size ≤ sb by omega)
              have c2 := HE.out.hk.cell O.c2 (show ¬ w.heap.size ≤ sb by omega)
              have HO := Lib.hid O
              have j1 : (0 : Int) ≤ k2 := by omega
              have j2 : (k2 : Int) < tl := by omega
              clear O
              go_wp2_with fail
              refine (cstep_any wr p L aa2 ac2 r p1 p2 all st2 en2 d x oa ol oc bs (HE.out.step HF.out (by omega) HO.out)).mono ?_
              rintro e w9 ⟨rfl, aa', ac', qi', qo', all', st', en', C9, R9, K9, X9⟩
              have x1 := X9.open_ hst2
              have x2 := X9.closed
              have x3 := X9.aborted
              obtain ⟨x1a, rfl⟩ := x1
              have E9 : EndAt w p L r 100 aa' ac' qi' qo' all' st' en' w9 := ⟨C9, R9, X9.inv HE.out.inv, HE.out.len, HE.out.hk.trans' K9 (fun i _ h => Nat.le_trans HF.out.hB h), Nat.le_trans HE.out.hL K9.size⟩
              have hs2 : st2 = 1 ∨ st2 = 2 ∨ st2 = 3 := by rcases HE.out.inv with h | h | h <;> omega
              have hs' : (st' = 1 ∧ qi' = []) ∨ ((st' = 2 ∨ st' = 3) ∧ qi' = [] ∧ qo' = []) := by rcases E9.inv with h | h | h; exact absurd h x1a; exact .inl h; exact .inr h
              have hcase : qi' = [] ∧ ((st' = 1 ∧ st2 = 1) ∨ (qo' = [] ∧ (st' = 2 ∧ (st2 = 1 ∨ st2 = 2) ∨ st' = 3 ∧ (st2 = 1 ∨ st2 = 3)))) := by
                rcases hs' with ⟨h1, h2⟩ | ⟨h1, h2, h3⟩
                · exact ⟨h2, .inl ⟨h1, by omega⟩⟩
                · refine ⟨h2, .inr ⟨h3, ?_⟩⟩
                  rcases h1 with h1 | h1
                  · exact .inl ⟨h1, by omega⟩
                  · exact .inr ⟨h1, by omega⟩
              have HE9 := Lib.hid E9
              clear C9 R9 K9 X9 E9 c0 c1 c2 x2 x3 hs2 hs' hst2 HE x1a
              obtain ⟨rfl, hcase⟩ := hcase
              rcases hcase with ⟨rfl, rfl⟩ | ⟨rfl, ⟨rfl, rfl | rfl⟩ | ⟨rfl, rfl | rfl⟩⟩
              all_goals
                go_wp2_with (first
                  | (go_at_call 21; refine (state_any _ p L _ _ _ _ _ _ _ HE9.out.hc).mono ?_; rintro e w10 ⟨rfl, rfl⟩)
                  | (go_at_call 29; refine (waiting_any _ p L _ _ _ _ _ _ _ HE9.out.hc 0 rfl).mono ?_; rintro e w10 ⟨rfl, rfl⟩)
                  | (go_at_call 24; refine (left_any _ p L _ _ _ _ _ _ _ HE9.out.hc 0 rfl).mono ?_; rintro e w10 ⟨rfl, rfl⟩))
                refine (written_any _ p L _ _ _ _ _ _ _ HE9.out.hc n Hn.out (by omega)).mono ?_
                rintro e w11 ⟨x11, c11, rfl, O11, C11, K11⟩
                have E11 : EndAt w p L r 100 aa' ac' [] _ all' _ en' w11 := ⟨C11, HE9.out.hr.kept K11 (fun i hi h => HE9.out.apart HF.out i hi h) (fun i _ h => HE9.out.inY HF.out i h), HE9.out.inv, HE9.out.len, HE9.out.hk.trans' K11 (fun i _ h => HE9.out.low HF.out i h), Nat.le_trans HE9.out.hL K11.size⟩
                have v11 := run_convB (P := Try.prog) w11 22 5 9 Try.underlying22 Try.underlying5 Try.underlying9 x11 all' n c11 Hn.out O11.isB
                have HE11 := Lib.hid E11
                clear O11 C11 K11 E11 HE9
                go_wp2
                go_roundw
                case rel => exact ⟨k2 + 1, aa', ac', [], _, _, en', by simp, rfl, by omega, by omega, Nat.succ_ne_zero _, HE11.out⟩
                case measure => simp [intOf]; omega
            · have hsplit2 : (¬ k2 < tl) ∨ (k2 < tl ∧ ¬ k2 < 100) := by omega
              have hst3 : ((st2 : Int) != 0) = true := by simp; omega
              clear hgo
              rcases hsplit2 with hs3 | ⟨hs3, hs4⟩
              all_goals
                go_wp2
                go_ret
                exact ⟨rfl, HE.out.hk.below (Nat.le_refl _) (fun _ _ h => h)⟩
      | false =>
        rcases hsplit with hs1 | ⟨hs1, hs2⟩
        all_goals
          go_wp2_with fail
          refine (close_any _ p L _ _ _ _ _ _ _ HE.out.hc).mono ?_
          rintro e w5 ⟨rfl, C5, K5⟩
          have HC5 := Lib.hid C5
          have HK5 := Lib.hid K5
          clear C5 K5
          go_wp2_with fail
          have R5 : RefC w5 r (Yb L aa) qi qo all st en := HE.out.hr.kept HK5.out (fun i hi h => HE.out.apart HF.out i hi h) (fun i _ h => HE.out.inY HF.out i h)
          refine (rclose_any _ r _ _ _ _ _ _ R5).mono ?_
          rintro e w6 ⟨rfl, R6, K6⟩
          have E6 : EndAt w p L r 100 aa ac (if st = 0 then [] else qi) qo all (if st = 0 then settled 1 qo else st) en w6 :=
            ⟨HC5.out.kept K6 (fun b hb h => HE.out.apart HF.out b h hb), R6, (CNext.close st qi qo all).inv HE.out.inv, by have := HE.out.len; omega,
              (HE.out.hk.trans' HK5.out (fun i _ h => HE.out.low HF.out i h)).trans' K6 (fun i _ h => by have := HF.out.hr i h; have := HF.out.hBM; have := HF.out.hB; omega), Nat.le_trans HE.out.hL (Nat.le_trans HK5.out.size K6.size)⟩
          obtain ⟨st1, hst1⟩ : ∃ st1, st1 = (if st = 0 then settled 1 qo else st) := ⟨_, rfl⟩
          have n1 : st1 ≠ 0 := by
            rw [hst1]
            unfold settled
            split
            · split <;> omega
            · omega
          rw [← hst1] at E6
          obtain ⟨q1, hq1⟩ : ∃ q1, q1 = (if st = 0 then [] else qi) := ⟨_, rfl⟩
          obtain ⟨q2, hq2⟩ : ∃ q2, q2 = qo := ⟨_, rfl⟩
          rw [← hq1, ← hq2] at E6
          have HE6 := Lib.hid E6
          clear R5 R6 K6 HC5 HK5 hst1 E6 HE hq1 hq2
          obtain ⟨n, hn⟩ : ∃ n, all.length = n := ⟨_, rfl⟩
          have Hn := Lib.hid hn
          have n2 : n ≤ 409600 := by have := HE6.out.len; omega
          clear hn
          go_wp2_with fail
          refine (written_any _ p L _ _ _ _ _ _ _ HE6.out.hc n Hn.out (by omega)).mono ?_
          rintro e w7 ⟨x7, c7, rfl, O7, C7, K7⟩
          have E7 : EndAt w p L r 100 aa ac q1 q2 all st1 en w7 := ⟨C7, HE6.out.hr.kept K7 (fun i hi h => HE6.out.apart HF.out i hi h) (fun i _ h => HE6.out.inY HF.out i h), HE6.out.inv, HE6.out.len, HE6.out.hk.trans' K7 (fun i _ h => HE6.out.low HF.out i h), Nat.le_trans HE6.out.hL K7.size⟩
          have v7 := run_convB (P := Try.prog) w7 22 5 9 Try.underlying22 Try.underlying5 Try.underlying9 x7 all n c7 Hn.out O7.isB
          have HE7 := Lib.hid E7
          clear O7 C7 K7 E7 HE6
          go_wp2_with fail
          refine (state_any _ p L _ _ _ _ _ _ _ HE7.out.hc).mono ?_
          rintro e w8 ⟨rfl, rfl⟩
          clear v7
          go_wp2_with fail
          go_loopw [16, 17] (EndRel2 w p L r all tl) (fun _ i _ => 100 - (intOf i).toNat)
          case atStart => exact ⟨0, aa, ac, q1, q2, st1, en, rfl, rfl, Nat.zero_le _, Nat.zero_le _, n1, HE7.out⟩
          case round =>
            obtain ⟨k2, aa2, ac2, p1, p2, st2, en2, rfl, rfl, hk3, hk4, hst2, E⟩ := hrel
            have HE := Lib.hid E
            clear E HE7
            by_cases hgo : k2 < tl ∧ k2 < 100
            · obtain ⟨hgo1, hgo2⟩ := hgo
              have hop : ∃ sb so, ta = some ⟨sb, so, none⟩ ∧ ∃ d x oa ol oc bs, OpAt2 w sb so k2 d x oa ol oc bs := by
                rcases Hops2.out with h | ⟨sb, so, h, ho⟩
                · omega
                · exact ⟨sb, so, h, ho k2 hgo1⟩
              obtain ⟨sb, so, rfl, d, x, oa, ol, oc, bs, O⟩ := hop
              have lsb : sb < w.heap.size := World.block_lt_of_cell? w _ O.c0
              have c0 := HE.out.hk.cell O.c0 (show ¬ w.heap.size ≤ sb by omega)
              have c1 := HE.out.hk.cell O.c1 (show ¬ w.heap.size ≤ sb by omega)
              have c2 := HE.out.hk.cell O.c2 (show ¬ w.heap.size ≤ sb by omega)
              have HO := Lib.hid O
              have j1 : (0 : Int) ≤ k2 := by omega
              have j2 : (k2 : Int) < tl := by omega
              clear O
              go_wp2_with fail
              refine (cstep_any wr p L aa2 ac2 r p1 p2 all st2 en2 d x oa ol oc bs (HE.out.step HF.out (by omega) HO.out)).mono ?_
              rintro e w9 ⟨rfl, aa', ac', qi', qo', all', st', en', C9, R9, K9, X9⟩
              have x1 := X9.open_ hst2
              have x2 := X9.closed
              have x3 := X9.aborted
              obtain ⟨x1a, rfl⟩ := x1
              have E9 : EndAt w p L r 100 aa' ac' qi' qo' all' st' en' w9 := ⟨C9, R9, X9.inv HE.out.inv, HE.out.len, HE.out.hk.trans' K9 (fun i _ h => Nat.le_trans HF.out.hB h), Nat.le_trans HE.out.hL K9.size⟩
              have hs2 : st2 = 1 ∨ st2 = 2 ∨ st2 = 3 := by rcases HE.out.inv with h | h | h <;> omega
              have hs' : (st' = 1 ∧ qi' = []) ∨ ((st' = 2 ∨ st' = 3) ∧ qi' = [] ∧ qo' = []) := by rcases E9.inv with h | h | h; exact absurd h x1a; exact .inl h; exact .inr h
              have hcase : qi' = [] ∧ ((st' = 1 ∧ st2 = 1) ∨ (qo' = [] ∧ (st' = 2 ∧ (st2 = 1 ∨ st2 = 2) ∨ st' = 3 ∧ (st2 = 1 ∨ st2 = 3)))) := by
                rcases hs' with ⟨h1, h2⟩ | ⟨h1, h2, h3⟩
                · exact ⟨h2, .inl ⟨h1, by omega⟩⟩
                · refine ⟨h2, .inr ⟨h3, ?_⟩⟩
                  rcases h1 with h1 | h1
                  · exact .inl ⟨h1, by omega⟩
                  · exact .inr ⟨h1, by omega⟩
              have HE9 := Lib.hid E9
              clear C9 R9 K9 X9 E9 c0 c1 c2 x2 x3 hs2 hs' hst2 HE x1a
              obtain ⟨rfl, hcase⟩ := hcase
              rcases hcase with ⟨rfl, rfl⟩ | ⟨rfl, ⟨rfl, rfl | rfl⟩ | ⟨rfl, rfl | rfl⟩⟩
              all_goals
                go_wp2_with (first
                  | (go_at_call 21; refine (state_any _ p L _ _ _ _ _ _ _ HE9.out.hc).mono ?_; rintro e w10 ⟨rfl, rfl⟩)
                  | (go_at_call 29; refine (waiting_any _ p L _ _ _ _ _ _ _ HE9.out.hc 0 rfl).mono ?_; rintro e w10 ⟨rfl, rfl⟩)
                  | (go_at_call 24; refine (left_any _ p L _ _ _ _ _ _ _ HE9.out.hc 0 rfl).mono ?_; rintro e w10 ⟨rfl, rfl⟩))
                refine (written_any _ p L _ _ _ _ _ _ _ HE9.out.hc n Hn.out (by omega)).mono ?_
                rintro e w11 ⟨x11, c11, rfl, O11, C11, K11⟩
                have E11 : EndAt w p L r 100 aa' ac' [] _ all' _ en' w11 := ⟨C11, HE9.out.hr.kept K11 (fun i hi h => HE9.out.apart HF.out i hi h) (fun i _ h => HE9.out.inY HF.out i h), HE9.out.inv, HE9.out.len, HE9.out.hk.trans' K11 (fun i _ h => HE9.out.low HF.out i h), Nat.le_trans HE9.out.hL K11.size⟩
                have v11 := run_convB (P := Try.prog) w11 22 5 9 Try.underlying22 Try.underlying5 Try.underlying9 x11 all' n c11 Hn.out O11.isB
                have HE11 := Lib.hid E11
                clear O11 C11 K11 E11 HE9
                go_wp2
                go_roundw
                case rel => exact ⟨k2 + 1, aa', ac', [], _, _, en', by simp, rfl, by omega, by omega, Nat.succ_ne_zero _, HE11.out⟩
                case measure => simp [intOf]; omega
            · have hsplit2 : (¬ k2 < tl) ∨ (k2 < tl ∧ ¬ k2 < 100) := by omega
              have hst3 : ((st2 : Int) != 0) = true := by simp; omega
              clear hgo
              rcases hsplit2 with hs3 | ⟨hs3, hs4⟩
              all_goals
                go_wp2
                go_ret
                exact ⟨rfl, HE.out.hk.below (Nat.le_refl _) (fun _ _ h => h)⟩
end Go.Proofs.Ytfkchmkaccjjoaa

/-
  The walk of ConnCarries.
-/
import Derived.Test.YtfkchmkaccjjoaaShown2
import Derived.Deep.RegionWith
namespace Go.Proofs.Ytfkchmkaccjjoaa
open Go.RowKit

theorem carries_no (out : Int) (ba : Option Addr) (bl bc : Nat) (pa : Option Addr) (pl pc : Nat) (ab : Bool) (w : World) (h : out < 1 ∨ 4096 < out) :
    Calls Try.prog 5 #[.int .i64 out, .slice ba bl bc, .slice pa pl pc, .bool ab] w fun e w' => e = .returned (.bool true) ∧ Below w.heap.size w w' := by
  have H := Lib.hid h
  clear h
  go_enter Try.func5, Try.ntmps5
  go_wp2_with fail
  refine (shown2_any _).mono ?_
  rintro e w1 ⟨rfl, K1⟩
  have HK1 := Lib.hid K1
  clear K1
  go_wp2_with fail
  refine (connNew_no _ _ _ (.inr H.out)).mono ?_
  rintro e w2 ⟨rfl, K2⟩
  have HK2 := Lib.hid K2
  clear K2
  go_wp2
  go_ret
  exact ⟨rfl, (HK1.out.trans HK2.out).below (Nat.le_refl _) (fun _ _ h => h.elim)⟩

/-- What holds at the loop's head: d bytes were written, of which gs were taken. -/
structure CarAt (w0 : World) (p : Pl) (L bl : Nat) (bs : List UInt8) (k d m : Nat) (la : Option Addr) (lc : Nat) (ga : Option Addr) (gl gc : Nat) (gs qo : List UInt8) (aa : Option Addr) (ac : Nat) (wr : World) : Prop where
  hdm : d + m = bl
  hd : d ≤ k * 4096
  hlc : m ≤ lc
  hlc2 : lc ≤ 140737488351232
  hla : IsB w0 la (bs.drop d)
  hgl : gs.length = gl
  hg : OwnB wr L 5 ga gc gs
  hq : gs ++ qo = bs.take d
  hc : ConnAt wr p L aa ac [] qo (bs.take d) 0 false
  hne : ∀ y z, ga = some y → aa = some z → y.block ≠ z.block
  hk : Kept (fun b => w0.heap.size ≤ b) w0 wr
  hL : L ≤ wr.heap.size

def CarRel (w0 : World) (p : Pl) (L bl : Nat) (bs : List UInt8) (pl : Nat) (left got i : Value) (wr : World) : Prop :=
  ∃ k d m la lc ga gl gc gs qo aa ac, i = .int .i64 (k : Nat) ∧ left = .slice la m lc ∧ got = .slice ga gl gc ∧ k ≤ pl ∧ k ≤ 100 ∧ CarAt w0 p L bl bs k d m la lc ga gl gc gs qo aa ac wr

set_option maxRecDepth 100000 in
set_option maxHeartbeats 2000000 in
theorem carries_yes (out : Nat) (ba : Option Addr) (bl bc : Nat) (bs : List UInt8) (pa : Option Addr) (pl pc : Nat) (ps : List Int) (ab : Bool) (w : World) (h1 : 1 ≤ out) (h2 : out ≤ 4096)
    (hl : bs.length = bl) (hb : bl ≤ bc) (hb2 : bc ≤ 140737488351232) (hsrc : IsB w ba bs)
    (_hpl : pl ≤ 140737488351232) (hps : pl = 0 ∨ ∃ pb po, pa = some ⟨pb, po, none⟩ ∧ ∀ j, j < pl → w.cell? ⟨pb, po + j, none⟩ = some (.int .i64 (ps.getD j 0))) :
    Calls Try.prog 5 #[.int .i64 out, .slice ba bl bc, .slice pa pl pc, .bool ab] w fun e w' => e = .returned (.bool true) ∧ Below w.heap.size w w' := by
  obtain ⟨i0, hi, hz0, hz1, hz2⟩ := info_parts Try.infoE5
  have Hi := Lib.hid hi
  have Hz0 := Lib.hid hz0
  have Hz1 := Lib.hid hz1
  have Hz2 := Lib.hid hz2
  clear hi hz0 hz1 hz2
  have Hl := Lib.hid hl
  have Hsrc := Lib.hid hsrc
  have Hps := Lib.hid hps
  clear hl hsrc hps
  go_enter Try.func5, Try.ntmps5
  go_wp2_with fail
  refine (shown2_any _).mono ?_
  rintro e w1 ⟨rfl, K1⟩
  have HK1 := Lib.hid K1
  clear K1
  go_wp2_with fail
  refine (connNew_yes _ 1 out (by omega) (by omega) h1 h2).mono ?_
  rintro e w2 ⟨p, rfl, hmi, hmo, hB, hM, C2, K2⟩
  obtain ⟨L, hL⟩ : ∃ L, w2.heap.size = L := ⟨_, rfl⟩
  have HC2 := Lib.hid (C2 L (by omega))
  have l1 := HK1.out.size
  have l2 := K2.size
  have HK2 : Hid (Kept (fun b => w.heap.size ≤ b) w w2) := (HK1.out.trans K2).mono (fun _ _ h => h.elim)
  have Hmo := Lib.hid hmo
  have lB : w.heap.size ≤ p.B := by omega
  have lM : p.M ≤ L := by omega
  have HL := Lib.hid hL
  have lwL : w.heap.size ≤ L := by omega
  clear hmi hmo hB hM C2 K2 HK1 hL l1 l2
  go_wp2_with fail
  go_loopw [11, 12, 13] (CarRel w p L bl bs pl) (fun _ _ i _ => 100 - (intOf i).toNat)
  case atStart =>
    refine ⟨0, 0, bl, ba, bc, none, 0, 0, [], [], none, 0, rfl, rfl, rfl, Nat.zero_le _, Nat.zero_le _, ⟨Nat.zero_add _, Nat.le_refl _, hb, hb2, by simpa using Hsrc.out, rfl, OwnB.nil _ _ _, by simp, by simpa using HC2.out, (fun y z h => by cases h), HK2.out, by rw [HL.out]; exact Nat.le_refl _⟩⟩
  case round =>
    obtain ⟨k, d, m, la, lc, ga, gl, gc, gs, qo, aa, ac, rfl, rfl, rfl, hk1, hk2, R⟩ := hrel
    have HR := Lib.hid R
    clear R
    by_cases hgo : k < pl ∧ k < 100
    · obtain ⟨hgo1, hgo2⟩ := hgo
      have hpiece : ∃ pb po y, pa = some ⟨pb, po, none⟩ ∧ wr.cell? ⟨pb, po + k, none⟩ = some (.int .i64 y) ∧ pb < w.heap.size := by
        rcases Hps.out with h | ⟨pb, po, h, hc⟩
        · omega
        · have hcj := hc k hgo1
          have hlt : pb < w.heap.size := World.block_lt_of_cell? w _ hcj
          exact ⟨pb, po, _, h, HR.out.hk.cell hcj (show ¬ w.heap.size ≤ pb by omega), hlt⟩
      obtain ⟨pb, po, y, rfl, hcell, hpb⟩ := hpiece
      have j1 : (0 : Int) ≤ k := by omega
      have j2 : (k : Int) < pl := by omega
      have Hcell := Lib.hid hcell
      have inw : ∀ i, p.In aa i → w.heap.size ≤ i := fun i h => by
        rcases h with h | h
        · omega
        · cases ha : aa with
          | none => rw [ha] at h; cases h
          | some z => rw [ha] at h; simp at h; have := (HR.out.hc.hall.at z ha).1; omega
      have Inw := Lib.hid inw
      clear hcell inw
      have Sla : IsB wr la (bs.drop d) := HR.out.hla.kept HR.out.hk (fun x hx hne => by subst hx; have := HR.out.hla.lt hne; show ¬ w.heap.size ≤ x.block; omega)
      have HSla := Lib.hid Sla
      clear Sla
      obtain ⟨n, hn⟩ : ∃ n, n = min m (out - qo.length) := ⟨_, rfl⟩
      have hd' := HR.out.hd
      have hdm := HR.out.hdm
      have hlc := HR.out.hlc
      have hlc2 := HR.out.hlc2
      have i1 : n ≤ m := by omega
      have i2 : n ≤ 4096 := by omega
      obtain ⟨m', hm'⟩ : ∃ m', m' = m - n := ⟨_, rfl⟩
      obtain ⟨la', hla'⟩ : ∃ x, x = (if lc = n then la else la.map (·.add n)) := ⟨_, rfl⟩
      obtain ⟨lc', hlc'⟩ : ∃ x, x = lc - n := ⟨_, rfl⟩
      have hsl : ∀ w, (Instr.slice 22 (.slice la m lc) (some (.int .i64 n)) none none).run Try.prog w = .ok (.slice la' m' lc') w := by
        intro w
        rw [hm', hla', hlc']
        exact run_cut_l 22 5 Try.underlying22 Try.info5 w la m lc n i1
      have ld : (bs.drop d).length = m := by have := Hl.out; rw [List.length_drop]; omega
      have Hld := Lib.hid ld
      have Sla' : Hid (IsB w la' (bs.drop (d + n))) := by
        rw [hla', show bs.drop (d + n) = (bs.drop d).drop n by rw [List.drop_drop]]
        exact HR.out.hla.cut n lc (by rw [ld]; exact hlc)
      have Hn := Lib.hid hn
      have Hm' := Lib.hid hm'
      have Hlc' := Lib.hid hlc'
      have j3 : ¬ ((n : Int) < 0) := by omega
      have j4 : ¬ ((n : Int) > m) := by omega
      clear ld hn hm' hla' hlc' hd' hdm
      go_wp2_with fail
      have al : (bs.take d).length ≤ 1000000000 := by have := HR.out.hd; rw [List.length_take]; omega
      refine (write_any _ p L _ _ _ _ _ _ _ HR.out.hc la m lc (bs.drop d) Hld.out hlc (Nat.le_trans hlc2 (by omega)) HSla.out (fun hne x hx hin => by subst hx; have := HR.out.hla.lt hne; have := Inw.out _ hin; omega) HR.out.hL al).mono ?_
      have ew : written 0 m p.mo qo.length = n := by rw [Hmo.out, Hn.out]; rfl
      rw [ew]
      rintro e w3 ⟨a3, c3, rfl, C3, K3, F3⟩
      have ht : bs.take d ++ (bs.drop d).take n = bs.take (d + n) := by rw [← List.take_add]
      rw [ht] at C3
      have HC3 := Lib.hid C3
      have HK3 : Hid (Kept (fun b => w.heap.size ≤ b) w w3) := HR.out.hk.trans' K3 (fun i _ h => Inw.out i h)
      have l3 : L ≤ w3.heap.size := Nat.le_trans HR.out.hL K3.size
      have hcell := HK3.out
      have G3 : Hid (OwnB w3 L 5 ga gc gs) := HR.out.hg.kept K3 (fun y hy hin => by
        have hly := (HR.out.hg.at y hy).1
        rcases hin with h | h
        · omega
        · cases ha : aa with
          | none => rw [ha] at h; cases h
          | some z => rw [ha] at h; simp at h; exact HR.out.hne y z hy ha h.symm)
      have N3 : Hid (∀ y z, ga = some y → a3 = some z → y.block ≠ z.block) := fun y z hy hz e => by
        have hly := (HR.out.hg.at y hy).2
        rcases F3 z hz with h | h
        · cases ha : aa with
          | none => rw [ha] at h; cases h
          | some z' => rw [ha] at h; simp at h; exact HR.out.hne y z' hy ha (by omega)
        · omega
      have hcell : w3.cell? ⟨pb, po + k, none⟩ = some (.int .i64 y) := by
        have := K3.cell Hcell.out (fun hin => by have := Inw.out _ hin; simp at this; omega)
        exact this
      clear C3 K3 F3 ew al ht
      -- what is taken
      obtain ⟨q3, hq3⟩ : ∃ q3, q3 = qo ++ (bs.drop d).take n := ⟨_, rfl⟩
      rw [← hq3] at HC3
      have hk2' : ∃ t : Nat, y < 0 ∧ t = 0 ∨ y = t ∧ t ≤ q3.length ∨ (q3.length : Int) < y ∧ t = q3.length := by
        by_cases hy0 : y < 0
        · exact ⟨0, .inl ⟨hy0, rfl⟩⟩
        · by_cases hy1 : y ≤ q3.length
          · exact ⟨y.toNat, .inr (.inl ⟨by omega, by omega⟩)⟩
          · exact ⟨q3.length, .inr (.inr ⟨by omega, rfl⟩)⟩
      obtain ⟨t, ht⟩ := hk2'
      have Ht := Lib.hid ht
      have Hq3 := Lib.hid hq3
      have tq : t ≤ q3.length := by omega
      clear ht hq3
      go_wp2_with fail
      refine (taken_any _ p L _ _ _ _ _ _ _ HC3.out y t Ht.out).mono ?_
      rintro e w4 ⟨rfl, G4, C4, K4⟩
      have es : settled 0 (q3.drop t) = 0 := by simp [settled]
      rw [es] at C4
      have S4 : IsB w4 (some ⟨w3.heap.size, 0, none⟩) (q3.take t) := IsB.of_heap (arr := q3.take t) G4 0
      have HS4 := Lib.hid S4
      have HC4 := Lib.hid C4
      have hfit := HC3.out.ho.fits
      have tl : (q3.take t).length = t := by rw [List.length_take]; omega
      have gl4 : gl + t ≤ 140737488355328 := by
        have e1 := congrArg List.length HR.out.hq
        rw [List.length_append, List.length_take] at e1
        have := HR.out.hgl
        have := Hl.out
        have := HR.out.hdm
        omega
      have Htl := Lib.hid tl
      have HK4 : Hid (Kept (fun b => w.heap.size ≤ b) w w4) := HK3.out.trans' K4 (fun i _ h => by
        rcases h with h | h
        · omega
        · cases ha : a3 with
          | none => rw [ha] at h; cases h
          | some z => rw [ha] at h; simp at h; have := (HC3.out.hall.at z ha).1; omega)
      have l4 : L ≤ w4.heap.size := Nat.le_trans l3 K4.size
      have far4 : ∀ y, ga = some y → ¬ p.In a3 y.block := fun y hy hin => by
        have hly := (HR.out.hg.at y hy).1
        rcases hin with h | h
        · omega
        · cases ha : a3 with
          | none => rw [ha] at h; cases h
          | some z => rw [ha] at h; simp at h; exact N3.out y z hy ha h.symm
      have G5 : Hid (OwnB w4 L 5 ga gc gs) := G3.out.kept K4 far4
      have L3 : Hid (∀ z, a3 = some z → z.block < w4.heap.size) := fun z hz => (HC4.out.hall.at z hz).2
      have gat : Hid (∀ y, ga = some y → y.block < w4.heap.size) := fun y hy => (G5.out.at y hy).2
      have HF4 := Lib.hid far4
      clear G4 C4 K4 es S4 tl far4 hcell
      go_wp2_with (at_builtin; go_loud (refine wpList_appendB (by rfl) (.tmp 53) (.tmp 59) 22 (by rfl) L 5 i0 Try.underlying22 Hi.out Hz0.out Hz1.out Hz2.out ga gl gc gs (by rfl) HR.out.hgl G5.out _ t t (q3.take t) (by rfl) Htl.out HS4.out gl4 l4 ?_; intro a5 c5 w5 O5 K5 hat5; have HO5 := Lib.hid O5.out; have HK5 := Lib.hid K5; have Hat5 := Lib.hid hat5; clear O5 K5 hat5))
      go_roundw
      case rel =>
        have hd0 := HR.out.hd
        have hdm0 := HR.out.hdm
        have em := Hm'.out
        have elc := Hlc'.out
        refine ⟨k + 1, d + n, m', la', lc', a5, gl + t, c5, gs ++ q3.take t, q3.drop t, a3, c3, by simp, rfl, rfl, by omega, by omega, ⟨by omega, by omega, by omega, by omega, Sla'.out, ?_, HO5.out, ?_, ?_, ?_, ?_, ?_⟩⟩
        · have := HR.out.hgl; have := Htl.out; rw [List.length_append]; omega
        · rw [List.append_assoc, List.take_append_drop, Hq3.out, ← List.append_assoc, HR.out.hq, ← List.take_add]
        · refine HC4.out.kept HK5.out (fun b hb e => ?_)
          cases hga : ga with
          | none => rw [hga] at e; cases e
          | some y => rw [hga] at e; simp at e; exact HF4.out y hga (by rw [e]; exact hb)
        · intro y z hy hz e
          rcases Hat5.out y hy with h | h
          · cases hga : ga with
            | none => rw [hga] at h; cases h
            | some y' => rw [hga] at h; simp at h; exact N3.out y' z hga hz (by omega)
          · have := L3.out z hz; omega
        · refine HK4.out.trans' HK5.out (fun i hi e => ?_)
          cases hga : ga with
          | none => rw [hga] at e; cases e
          | some y => rw [hga] at e; simp at e; have := (HR.out.hg.at y hga).1; omega
        · exact Nat.le_trans l4 HK5.out.size
      case measure => simp [intOf]; omega
    · have inw : ∀ i, p.In aa i → w.heap.size ≤ i := fun i h => by
        rcases h with h | h
        · omega
        · cases ha : aa with
          | none => rw [ha] at h; cases h
          | some z => rw [ha] at h; simp at h; have := (HR.out.hc.hall.at z ha).1; omega
      have Inw := Lib.hid inw
      clear inw
      have hdm := HR.out.hdm
      have e1 : (bl : Int) - m = d := by omega
      have e2 : d ≤ bc := by omega
      have e3 : (d : Int) ≤ bc := by omega
      have e4 : (0 : Int) ≤ d := by omega
      have hsl : ∀ w, (Instr.slice 22 (.slice ba bl bc) none (some (.int .i64 d)) none).run Try.prog w = .ok (.slice ba d bc) w := fun w => run_cut_h 22 5 Try.underlying22 Try.info5 w ba bl bc d e2
      obtain ⟨al, hal⟩ : ∃ al, al = bs.take d := ⟨_, rfl⟩
      have hgq := HR.out.hq
      have lal : al.length = d := by have := Hl.out; rw [hal, List.length_take]; omega
      have HC := Lib.hid HR.out.hc
      rw [← hal] at hgq HC
      have Hal := Lib.hid hal
      have Hgq := Lib.hid hgq
      have Hlal := Lib.hid lal
      have gld : gl + qo.length = d := by have e := congrArg List.length hgq; have := HR.out.hgl; rw [List.length_append] at e; omega
      have g1 : gl ≤ bc := by omega
      have g2 : (gl : Int) ≤ bc := by omega
      have g3 : (0 : Int) ≤ gl := by omega
      have d1 : d ≤ 409600 := by have := HR.out.hd; omega
      clear hal hgq lal
      have hsl2 : ∀ w, (Instr.slice 22 (.slice ba d bc) none (some (.int .i64 gl)) none).run Try.prog w = .ok (.slice ba gl bc) w := fun w => run_cut_h 22 5 Try.underlying22 Try.info5 w ba d bc gl g1
      have S1 : IsB wr ba al := by rw [Hal.out]; exact (Hsrc.out.kept HR.out.hk (fun x hx hne => by subst hx; have := Hsrc.out.lt hne; show ¬ w.heap.size ≤ x.block; omega)).take d
      have S2 : IsB wr ba gs := by
        have e : gs = al.take gl := by rw [← Hgq.out, List.take_append_of_le_length (by have := HR.out.hgl; omega), List.take_of_length_le (by have := HR.out.hgl; omega)]
        rw [e]; exact S1.take gl
      have Sl : ∀ x, ba = some x → al ≠ [] → x.block < w.heap.size := fun x hx hne => by
        subst hx
        have : bs ≠ [] := fun e => hne (by rw [Hal.out, e, List.take_nil])
        exact Hsrc.out.lt this
      have HS1 := Lib.hid S1
      have HS2 := Lib.hid S2
      have HSl := Lib.hid Sl
      have far : ∀ y, ga = some y → ¬ p.In aa y.block := fun y hy hin => by
        have hly := (HR.out.hg.at y hy).1
        rcases hin with h | h
        · omega
        · cases ha : aa with
          | none => rw [ha] at h; cases h
          | some z => rw [ha] at h; simp at h; exact HR.out.hne y z hy ha h.symm
      have Far := Lib.hid far
      clear S1 S2 Sl far
      have hsplit : (¬ k < pl) ∨ (k < pl ∧ ¬ k < 100) := by omega
      clear hgo
      cases ab with
      | true =>
        rcases hsplit with hs1 | ⟨hs1, hs2⟩
        all_goals
          go_wp2_with fail
          refine (abort_any _ p L _ _ _ _ _ _ _ HC.out).mono ?_
          rintro e w5 ⟨rfl, C5, K5⟩
          rw [if_neg (by omega), if_neg (by omega), if_neg (by omega)] at C5
          have HC5 := Lib.hid C5
          have HK5 := Lib.hid K5
          clear C5 K5
          go_wp2_with fail
          refine (taken_any _ p L _ _ _ _ _ _ _ HC5.out 9999 0 (.inr (.inr ⟨by simp, rfl⟩))).mono ?_
          rintro e w6 ⟨rfl, G6, C6, K6⟩
          have HC6 : Hid (ConnAt w6 p L aa ac [] [] al 3 false) := C6
          have HK6 : Hid (Kept (p.In aa) wr w6) := HK5.out.trans' K6 (fun _ _ h => h)
          clear G6 C6 K6 HC5 HK5
          obtain ⟨S, hS⟩ : ∃ S : World → Prop, ∀ u, S u ↔ Kept (p.In aa) wr u := ⟨_, fun _ => Iff.rfl⟩
          haveI : Nonempty (WIn S) := ⟨⟨wr, (hS _).2 (Kept.refl _ wr)⟩⟩
          have f1 : ∀ s : WIn S, (convert 22 9 (.slice ba d bc)).run Try.prog s.w = .ok (.string ⟨al.toArray⟩) s.w := fun s =>
            run_convB (P := Try.prog) s.w 22 5 9 Try.underlying22 Try.underlying5 Try.underlying9 _ al d bc Hlal.out (HS1.out.kept ((hS _).1 s.h) (fun y hy hne hin => by have := HSl.out y hy hne; have := Inw.out _ hin; omega))
          have f2 : ∀ s : WIn S, (convert 22 9 (.slice ba gl bc)).run Try.prog s.w = .ok (.string ⟨gs.toArray⟩) s.w := fun s =>
            run_convB (P := Try.prog) s.w 22 5 9 Try.underlying22 Try.underlying5 Try.underlying9 _ gs gl bc HR.out.hgl (HS2.out.kept ((hS _).1 s.h) (fun y hy hne hin => by
              have : al ≠ [] := fun e => hne (by have := Hgq.out; rw [e] at this; exact (List.append_eq_nil_iff.1 this).1)
              have := HSl.out y hy this; have := Inw.out _ hin; omega))
          have f3 : ∀ s : WIn S, (convert 22 9 (.slice ga gl gc)).run Try.prog s.w = .ok (.string ⟨gs.toArray⟩) s.w := fun s =>
            run_convB (P := Try.prog) s.w 22 5 9 Try.underlying22 Try.underlying5 Try.underlying9 _ gs gl gc HR.out.hgl (HR.out.hg.isB.kept ((hS _).1 s.h) (fun y hy _ => Far.out y hy))
          have HS := Lib.hid hS
          clear hS
          go_wp2_with fail
          refine region_segs 32 [([0], 1), ([2, 3, 4, 5, 6, 7, 8, 9, 12, 13], 10), ([], 11), ([14, 15, 16, 17, 18, 19, 20, 21, 22, 23, 24, 25, 26, 27, 28], 29)] [30, 31] S (by kernel_rfl) (by kernel_rfl) ((HS.out _).2 (HK6.out.drewN _)) ?_
          refine segs_step (fun K' hK' => ?_)
          simp only [pick, List.getElem?_cons_zero, Option.getD_some]
          repeat (go_big_quiet_step (fail))
          refine wpQuiet_nil (hK' _ (fun Q1 hQ1 => ?_))
          clear hK' K'
          simp only [pick, List.getElem?_cons_zero, List.getElem?_cons_succ, Option.getD_some]
          go_wp2_with fail
          refine (state_any _ p L _ _ _ _ _ _ _ (HC6.out.drewN 1)).mono ?_
          rintro e w7 ⟨rfl, rfl⟩
          go_wp2
          refine hQ1 _ _ ((HS.out _).2 (HK6.out.drewN _)) (segs_step (fun K' hK' => ?_))
          clear hQ1 Q1
          simp only [pick, List.getElem?_cons_zero, List.getElem?_cons_succ, Option.getD_some]
          repeat (go_big_quiet_step (fail))
          refine wpQuiet_nil (hK' _ (fun Q2 hQ2 => ?_))
          clear hK' K'
          simp only [pick, List.getElem?_cons_zero, List.getElem?_cons_succ, Option.getD_some]
          go_wp2_with fail
          refine (written_any _ p L _ _ _ _ _ _ _ (HC6.out.drewN 1) d Hlal.out (by omega)).mono ?_
          rintro e w8 ⟨x8, c8, rfl, O8, C8, K8⟩
          have v8 := run_convB (P := Try.prog) w8 22 5 9 Try.underlying22 Try.underlying5 Try.underlying9 x8 al d c8 Hlal.out O8.isB
          have HC8 := Lib.hid C8
          have HK8 : Hid (Kept (p.In aa) wr w8) := (HK6.out.drewN 1).trans' K8 (fun _ _ h => h)
          clear O8 C8 K8
          go_wp2
          refine hQ2 _ _ ((HS.out _).2 HK8.out) (segs_step (fun K' hK' => wpQuiet_nil (hK' _ (fun Q3 hQ3 => ?_))))
          clear hK' K' hQ2 Q2
          simp only [pick, List.getElem?_cons_zero, List.getElem?_cons_succ, Option.getD_some]
          go_wp2
          refine hQ3 _ _ ((HS.out _).2 HK8.out) (segs_step (fun K' hK' => ?_))
          clear hQ3 Q3
          simp only [pick, List.getElem?_cons_zero, List.getElem?_cons_succ, Option.getD_some]
          repeat (go_big_quiet_step (fail))
          refine wpQuiet_nil (hK' _ (fun Q4 hQ4 => ?_))
          clear hK' K'
          simp only [pick, List.getElem?_cons_zero, List.getElem?_cons_succ, Option.getD_some]
          clear v8
          go_wp2_with fail
          have lL8 : L ≤ w8.heap.size := Nat.le_trans HR.out.hL HK8.out.size
          refine (write_any _ p L _ _ _ _ _ _ _ HC8.out ba bl bc bs Hl.out hb (by omega) ((Hsrc.out.kept HR.out.hk (fun x hx hne => by subst hx; have := Hsrc.out.lt hne; show ¬ w.heap.size ≤ x.block; omega)).kept HK8.out (fun x hx hne hin => by subst hx; have := Hsrc.out.lt hne; have := Inw.out _ hin; omega)) (fun hne x hx hin => by subst hx; have := Hsrc.out.lt hne; have := Inw.out _ hin; omega) lL8 (by have := Hlal.out; omega)).mono ?_
          have ew : written 3 bl p.mo ([] : List UInt8).length = 0 := rfl
          rw [ew]
          rintro e w9 ⟨a9, c9, rfl, _, K9, _⟩
          have HK9 : Hid (Kept (p.In aa) wr w9) := HK8.out.trans' K9 (fun _ _ h => h)
          clear K9 ew
          go_wp2
          refine hQ4 _ _ ((HS.out _).2 HK9.out) (segs_last (fun K' hK' => ?_))
          clear hQ4 Q4
          simp only [pick, List.getElem?_cons_zero, List.getElem?_cons_succ, Option.getD_some]
          repeat (go_big_quiet_step (fail))
          refine wpQuiet_nil (hK' _ (fun Q5 hQ5 => ?_))
          clear hK' K'
          simp only [List.drop_succ_cons, List.drop_zero]
          go_wp2
          go_ret
          exact ⟨rfl, (HR.out.hk.trans' HK9.out (fun i _ h => Inw.out i h)).below (Nat.le_refl _) (fun _ _ h => h)⟩
      | false =>
        obtain ⟨st, hst⟩ : ∃ st, st = settled 1 qo := ⟨_, rfl⟩
        have hst2 : st = 1 ∨ st = 2 := by rw [hst]; unfold settled; split; exact .inr rfl; exact .inl rfl
        have Hst := Lib.hid hst
        clear hst
        obtain ⟨ql, hql⟩ : ∃ ql, qo.length = ql := ⟨_, rfl⟩
        have hfit := HC.out.ho.fits
        rw [hql] at gld hfit
        have Hql := Lib.hid hql
        have ql9 : ql < 9999 := by omega
        clear hql hfit
        have hb1 : gl + ql ≤ 140737488355328 := by omega
        rcases hsplit with hs1 | ⟨hs1, hs2⟩
        all_goals
          rcases hst2 with rfl | rfl
        all_goals
          go_wp2_with fail
          refine (close_any _ p L _ _ _ _ _ _ _ HC.out).mono ?_
          rintro e w5 ⟨rfl, C5, K5⟩
          rw [if_pos rfl, if_pos rfl, ← Hst.out] at C5
          have HC5 := Lib.hid C5
          have HK5 := Lib.hid K5
          clear C5 K5
          go_wp2_with fail
          refine (state_any _ p L _ _ _ _ _ _ _ HC5.out).mono ?_
          rintro e w5' ⟨rfl, rfl⟩
          go_wp2_with fail
          refine (taken_any _ p L _ _ _ _ _ _ _ HC5.out 9999 ql (.inr (.inr ⟨by have := Hql.out; omega, Hql.out.symm⟩))).mono ?_
          rintro e w6 ⟨rfl, G6, C6, K6⟩
          have e6 : qo.drop ql = [] := List.drop_of_length_le (by have := Hql.out; omega)
          have e6' : qo.take ql = qo := List.take_of_length_le (by have := Hql.out; omega)
          rw [e6] at C6
          rw [e6'] at G6
          have HC6 : Hid (ConnAt w6 p L aa ac [] [] al 2 false) := C6
          have S6 : IsB w6 (some ⟨w5.heap.size, 0, none⟩) qo := IsB.of_heap (arr := qo) G6 0
          have HS6 := Lib.hid S6
          have HK6 : Hid (Kept (p.In aa) wr w6) := HK5.out.trans' K6 (fun _ _ h => h)
          have HG6 : Hid (OwnB w6 L 5 ga gc gs) := HR.out.hg.kept HK6.out (fun y hy => Far.out y hy)
          have l6 : L ≤ w6.heap.size := Nat.le_trans HR.out.hL HK6.out.size
          clear G6 C6 K6 HC5 HK5 S6 e6 e6'
          go_wp2_with (at_builtin; go_loud (refine wpList_appendB (by rfl) (.tmp 110) (.tmp 112) 22 (by rfl) L 5 i0 Try.underlying22 Hi.out Hz0.out Hz1.out Hz2.out ga gl gc gs (by rfl) HR.out.hgl HG6.out _ ql ql qo (by rfl) Hql.out HS6.out hb1 l6 ?_; intro a7 c7 w7 O7 K7 hat7; have HO7 : Hid (OwnB w7 L 5 a7 c7 al) := (by have := O7.out; rw [Hgq.out] at this; exact this); have HK7 := Lib.hid K7; have Hat7 := Lib.hid hat7; clear O7 K7 hat7; have gld' := gld))
          obtain ⟨S, hS⟩ : ∃ S : World → Prop, ∀ u, S u ↔ Kept (p.In aa) w7 u := ⟨_, fun _ => Iff.rfl⟩
          haveI : Nonempty (WIn S) := ⟨⟨w7, (hS _).2 (Kept.refl _ w7)⟩⟩
          have lga : Hid (∀ y, ga = some y → w.heap.size ≤ y.block ∧ y.block < w6.heap.size) := fun y hy => by
            have := HG6.out.at y hy
            omega
          have K67 : Kept (fun b => ga.map (·.block) = some b) w6 w7 := HK7.out
          have C7 : ConnAt w7 p L aa ac [] [] al 2 false := HC6.out.kept K67 (fun b hb e => by
            cases hga : ga with
            | none => rw [hga] at e; cases e
            | some y => rw [hga] at e; simp at e; exact Far.out y hga (by rw [e]; exact hb))
          have far7 : ∀ y, a7 = some y → ¬ p.In aa y.block := fun y hy => by
            rcases Hat7.out y hy with h | h
            · cases hga : ga with
              | none => rw [hga] at h; cases h
              | some z => rw [hga] at h; simp at h; rw [← h]; exact Far.out z hga
            · exact far_of_lt HC6.out h (by omega)
          have S7 : IsB w7 ba al := (HS1.out.kept HK6.out (fun y hy hne hin => by have := HSl.out y hy hne; have := Inw.out _ hin; omega)).kept K67 (fun y hy hne e => by
            have := HSl.out y hy hne
            cases hga : ga with
            | none => rw [hga] at e; cases e
            | some z => rw [hga] at e; simp at e; have := (lga.out z hga).1; omega)
          have k7 : Kept (fun b => w.heap.size ≤ b) w w7 := (HR.out.hk.trans' HK6.out (fun i _ h => Inw.out i h)).trans' K67 (fun i _ e => by
            cases hga : ga with
            | none => rw [hga] at e; cases e
            | some z => rw [hga] at e; simp at e; have := (lga.out z hga).1; omega)
          have l7 : L ≤ w7.heap.size := Nat.le_trans l6 K67.size
          have f1 : ∀ s : WIn S, (convert 22 9 (.slice ba d bc)).run Try.prog s.w = .ok (.string ⟨al.toArray⟩) s.w := fun s =>
            run_convB (P := Try.prog) s.w 22 5 9 Try.underlying22 Try.underlying5 Try.underlying9 _ al d bc Hlal.out (S7.kept ((hS _).1 s.h) (fun y hy hne hin => by have := HSl.out y hy hne; have := Inw.out _ hin; omega))
          have f2 : ∀ s : WIn S, (convert 22 9 (.slice a7 d c7)).run Try.prog s.w = .ok (.string ⟨al.toArray⟩) s.w := fun s =>
            run_convB (P := Try.prog) s.w 22 5 9 Try.underlying22 Try.underlying5 Try.underlying9 _ al d c7 Hlal.out (HO7.out.isB.kept ((hS _).1 s.h) (fun y hy _ => far7 y hy))
          have HS := Lib.hid hS
          have HC7 := Lib.hid C7
          have Hk7 := Lib.hid k7
          clear hS C7 far7 S7 k7 K67 HC6 HK6 HS6 HG6 HO7 HK7 Hat7 lga gld'
          refine region_segs 37 [([0], 1), ([2, 3, 4, 5, 6, 7, 8, 9, 10, 11, 14, 15], 12), ([], 13), ([16, 17, 18, 19], 20), ([21, 22, 23, 24, 25], 26), ([27, 28, 29, 30, 31, 32], 33)] [34, 35, 36] S (by kernel_rfl) (by kernel_rfl) ((HS.out _).2 ((Kept.refl _ w7).drewN _)) ?_
          refine segs_step (fun K' hK' => ?_)
          simp only [pick, List.getElem?_cons_zero, Option.getD_some]
          repeat (go_big_quiet_step (fail))
          refine wpQuiet_nil (hK' _ (fun Q1 hQ1 => ?_))
          clear hK' K'
          simp only [pick, List.getElem?_cons_zero, List.getElem?_cons_succ, Option.getD_some]
          go_wp2_with fail
          refine (state_any _ p L _ _ _ _ _ _ _ (HC7.out.drewN 1)).mono ?_
          rintro e w7' ⟨rfl, rfl⟩
          go_wp2
          refine hQ1 _ _ ((HS.out _).2 ((Kept.refl _ w7).drewN _)) (segs_step (fun K' hK' => ?_))
          clear hQ1 Q1
          simp only [pick, List.getElem?_cons_zero, List.getElem?_cons_succ, Option.getD_some]
          repeat (go_big_quiet_step (fail))
          refine wpQuiet_nil (hK' _ (fun Q2 hQ2 => ?_))
          clear hK' K'
          simp only [pick, List.getElem?_cons_zero, List.getElem?_cons_succ, Option.getD_some]
          go_wp2_with fail
          refine (written_any _ p L _ _ _ _ _ _ _ (HC7.out.drewN 1) d Hlal.out (by omega)).mono ?_
          rintro e w8 ⟨x8, c8, rfl, O8, C8, K8⟩
          have v8 := run_convB (P := Try.prog) w8 22 5 9 Try.underlying22 Try.underlying5 Try.underlying9 x8 al d c8 Hlal.out O8.isB
          have HC8 := Lib.hid C8
          have HK8 : Hid (Kept (p.In aa) w7 w8) := ((Kept.refl _ w7).drewN 1).trans' K8 (fun _ _ h => h)
          clear O8 C8 K8
          go_wp2
          refine hQ2 _ _ ((HS.out _).2 HK8.out) (segs_step (fun K' hK' => wpQuiet_nil (hK' _ (fun Q3 hQ3 => ?_))))
          clear hK' K' hQ2 Q2
          simp only [pick, List.getElem?_cons_zero, List.getElem?_cons_succ, Option.getD_some]
          go_wp2
          refine hQ3 _ _ ((HS.out _).2 HK8.out) (segs_step (fun K' hK' => ?_))
          clear hQ3 Q3
          simp only [pick, List.getElem?_cons_zero, List.getElem?_cons_succ, Option.getD_some]
          repeat (go_big_quiet_step (fail))
          refine wpQuiet_nil (hK' _ (fun Q4 hQ4 => ?_))
          clear hK' K'
          simp only [pick, List.getElem?_cons_zero, List.getElem?_cons_succ, Option.getD_some]
          clear v8
          go_wp2_with fail
          refine (left_any _ p L _ _ _ _ _ _ _ HC8.out 0 rfl).mono ?_
          rintro e w8' ⟨rfl, rfl⟩
          go_wp2
          refine hQ4 _ _ ((HS.out _).2 HK8.out) (segs_step (fun K' hK' => ?_))
          clear hQ4 Q4
          simp only [pick, List.getElem?_cons_zero, List.getElem?_cons_succ, Option.getD_some]
          repeat (go_big_quiet_step (fail))
          refine wpQuiet_nil (hK' _ (fun Q5 hQ5 => ?_))
          clear hK' K'
          simp only [pick, List.getElem?_cons_zero, List.getElem?_cons_succ, Option.getD_some]
          go_wp2_with fail
          have lL8 : L ≤ w8.heap.size := Nat.le_trans l7 HK8.out.size
          refine (write_any _ p L _ _ _ _ _ _ _ HC8.out ba bl bc bs Hl.out hb (by omega) ((Hsrc.out.kept Hk7.out (fun x hx hne => by subst hx; have := Hsrc.out.lt hne; show ¬ w.heap.size ≤ x.block; omega)).kept HK8.out (fun x hx hne hin => by subst hx; have := Hsrc.out.lt hne; have := Inw.out _ hin; omega)) (fun hne x hx hin => by subst hx; have := Hsrc.out.lt hne; have := Inw.out _ hin; omega) lL8 (by have := Hlal.out; omega)).mono ?_
          have ew : written 2 bl p.mo ([] : List UInt8).length = 0 := rfl
          rw [ew]
          rintro e w9 ⟨a9, c9, rfl, C9, K9, F9⟩
          rw [List.take_zero, List.append_nil, List.append_nil] at C9
          have HC9 := Lib.hid C9
          have HK9 : Hid (Kept (p.In aa) w7 w9) := HK8.out.trans' K9 (fun _ _ h => h)
          clear K9 ew C9 F9
          go_wp2
          refine hQ5 _ _ ((HS.out _).2 HK9.out) (segs_step (fun K' hK' => ?_))
          clear hQ5 Q5
          simp only [pick, List.getElem?_cons_zero, List.getElem?_cons_succ, Option.getD_some]
          repeat (go_big_quiet_step (fail))
          refine wpQuiet_nil (hK' _ (fun Q6 hQ6 => ?_))
          clear hK' K'
          simp only [pick, List.getElem?_cons_zero, List.getElem?_cons_succ, Option.getD_some]
          go_wp2_with fail
          try
            refine (left_any _ p L _ _ _ _ _ _ _ HC9.out 0 rfl).mono ?_
            rintro e w9' ⟨rfl, rfl⟩
            go_wp2
          refine hQ6 _ _ ((HS.out _).2 HK9.out) (segs_last (fun K' hK' => ?_))
          clear hQ6 Q6
          simp only [pick, List.getElem?_cons_zero, List.getElem?_cons_succ, Option.getD_some]
          repeat (go_big_quiet_step (fail))
          refine wpQuiet_nil (hK' _ (fun Q7 hQ7 => ?_))
          clear hK' K'
          simp only [List.drop_succ_cons, List.drop_zero]
          go_wp2
          go_ret
          exact ⟨rfl, (Hk7.out.trans' HK9.out (fun i _ h => Inw.out i h)).below (Nat.le_refl _) (fun _ _ h => h)⟩
end Go.Proofs.Ytfkchmkaccjjoaa

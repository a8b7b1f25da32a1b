/-
  Trees of nodes in memory; how many nodes a budget leaves (policy.few).
-/
import Derived.Test.YtcfgbdhpcboikaaGreatDoorProg
import Derived.Test.YtcfgbdhpcboikaaGreatDoorBase
import Derived.Lib.Hide
import Derived.LoopTactic
namespace Go.Proofs.YtcfgbdhpcboikaaGreatDoor
open Go.RowKit

inductive Nd where
  | mk (kind space : Int) (name : ByteArray) (attrs : List (ByteArray × ByteArray)) (text : ByteArray) (kids : List Nd)
def Nd.kids : Nd → List Nd | .mk _ _ _ _ _ k => k
def Nd.kind : Nd → Int | .mk k _ _ _ _ _ => k
def Nd.space : Nd → Int | .mk _ s _ _ _ _ => s
def Nd.name : Nd → ByteArray | .mk _ _ n _ _ _ => n
def Nd.attrs : Nd → List (ByteArray × ByteArray) | .mk _ _ _ a _ _ => a
def Nd.text : Nd → ByteArray | .mk _ _ _ _ t _ => t
mutual
def Nd.sz : Nd → Nat
  | .mk _ _ _ _ _ ks => 1 + szAll ks
def szAll : List Nd → Nat
  | [] => 0
  | k :: ks => k.sz + szAll ks
end
theorem sz_pos (n : Nd) : 1 ≤ n.sz := by cases n; unfold Nd.sz; omega
theorem sz_get : ∀ (ks : List Nd) (j : Nat) (h : j < ks.length), (ks[j]).sz ≤ szAll ks := by
  intro ks
  induction ks with
  | nil => intro j h; simp at h
  | cons k ks ih =>
    intro j h
    unfold szAll
    cases j with
    | zero => simp
    | succ j =>
      have := ih j (by simpa using h)
      simp only [List.getElem_cons_succ]
      omega
structure Six (w : World) (g o : Nat) (c0 c1 c2 c3 c4 c5 : Value) : Prop where
  x0 : w.cell? ⟨g, o, none⟩ = some c0
  x1 : w.cell? ⟨g, o + 1, none⟩ = some c1
  x2 : w.cell? ⟨g, o + 2, none⟩ = some c2
  x3 : w.cell? ⟨g, o + 3, none⟩ = some c3
  x4 : w.cell? ⟨g, o + 4, none⟩ = some c4
  x5 : w.cell? ⟨g, o + 5, none⟩ = some c5
theorem Six.below {w w' : World} {g o B : Nat} {c0 c1 c2 c3 c4 c5 : Value} (h : Six w g o c0 c1 c2 c3 c4 c5) (hb : Below B w w') (hB : w.heap.size ≤ B) : Six w' g o c0 c1 c2 c3 c4 c5 := by
  have hg : g < B := Nat.lt_of_lt_of_le (World.block_lt_of_cell? w _ h.x0) hB
  have k : ∀ f v, w.cell? ⟨g, f, none⟩ = some v → w'.cell? ⟨g, f, none⟩ = some v := fun f v e => by rw [hb.cell (p := ⟨g, f, none⟩) hg]; exact e
  exact ⟨k _ _ h.x0, k _ _ h.x1, k _ _ h.x2, k _ _ h.x3, k _ _ h.x4, k _ _ h.x5⟩
def AttrsV (w : World) (v : Value) (l : List (ByteArray × ByteArray)) : Prop :=
  ∃ a c, v = .slice a l.length c ∧ ∀ j (h : j < l.length), ∃ g off, a = some ⟨g, off, none⟩ ∧ w.cell? ⟨g, off + j * 2, none⟩ = some (.string (l[j]).1) ∧ w.cell? ⟨g, off + j * 2 + 1, none⟩ = some (.string (l[j]).2)
theorem AttrsV.below {w w' : World} {B : Nat} {v : Value} {l : List (ByteArray × ByteArray)} (h : AttrsV w v l) (hb : Below B w w') (hB : w.heap.size ≤ B) : AttrsV w' v l := by
  obtain ⟨a, c, e, h⟩ := h
  refine ⟨a, c, e, fun j hj => ?_⟩
  obtain ⟨g, off, ha, h1, h2⟩ := h j hj
  have hg : g < B := Nat.lt_of_lt_of_le (World.block_lt_of_cell? w _ h1) hB
  exact ⟨g, off, ha, by rw [hb.cell (p := ⟨g, _, none⟩) hg]; exact h1, by rw [hb.cell (p := ⟨g, _, none⟩) hg]; exact h2⟩
mutual
def NodeV (w : World) : Nd → Value → Prop
  | .mk kd sp nm at' tx ks, v => ∃ av a c, v = .agg #[.int .i64 kd, .int .i64 sp, .string nm, av, .string tx, .slice a ks.length c] ∧ ks.length ≤ 140737488355328 ∧ AttrsV w av at' ∧ KidsV w a 0 ks
def KidsV (w : World) (a : Option Addr) : Nat → List Nd → Prop
  | _, [] => True
  | i, n :: ks => (∃ g off c0 c1 c2 c3 c4 c5, a = some ⟨g, off, none⟩ ∧ Six w g (off + i * 6) c0 c1 c2 c3 c4 c5 ∧ NodeV w n (.agg #[c0, c1, c2, c3, c4, c5])) ∧ KidsV w a (i + 1) ks
end
theorem KidsV.get {w : World} {a : Option Addr} : ∀ (ks : List Nd) (i j : Nat) (h : j < ks.length), KidsV w a i ks → ∃ g off c0 c1 c2 c3 c4 c5, a = some ⟨g, off, none⟩ ∧ Six w g (off + (i + j) * 6) c0 c1 c2 c3 c4 c5 ∧ NodeV w ks[j] (.agg #[c0, c1, c2, c3, c4, c5]) := by
  intro ks
  induction ks with
  | nil => intro i j h; simp at h
  | cons k ks ih =>
    intro i j h hk
    unfold KidsV at hk
    cases j with
    | zero => exact hk.1
    | succ j =>
      have := ih (i + 1) j (by simpa using h) hk.2
      rw [show i + 1 + j = i + (j + 1) by omega] at this
      exact this
theorem nodes_below {w w' : World} {B : Nat} (hb : Below B w w') (hB : w.heap.size ≤ B) : ∀ m : Nat, (∀ (n : Nd) (v : Value), n.sz ≤ m → NodeV w n v → NodeV w' n v) ∧ (∀ (a : Option Addr) (ks : List Nd) (i : Nat), szAll ks ≤ m → KidsV w a i ks → KidsV w' a i ks) := by
  intro m
  induction m with
  | zero =>
    refine ⟨fun n v hn => absurd (sz_pos n) (by omega), fun a ks => ?_⟩
    induction ks with
    | nil => intro i _ h; unfold KidsV; trivial
    | cons k ks _ => intro i hs; unfold szAll at hs; exact absurd (sz_pos k) (by omega)
  | succ m ih =>
    have hN : ∀ (n : Nd) (v : Value), n.sz ≤ m + 1 → NodeV w n v → NodeV w' n v := by
      intro n v hs h
      cases n with
      | mk kd sp nm at' tx ks =>
        unfold Nd.sz at hs
        unfold NodeV at h ⊢
        obtain ⟨av, a, c, e, hl, ha, hk⟩ := h
        exact ⟨av, a, c, e, hl, ha.below hb hB, ih.2 a ks 0 (by omega) hk⟩
    refine ⟨hN, fun a ks => ?_⟩
    induction ks with
    | nil => intro i _ h; unfold KidsV; trivial
    | cons k ks ihk =>
      intro i hs h
      unfold szAll at hs
      unfold KidsV at h ⊢
      obtain ⟨⟨g, off, c0, c1, c2, c3, c4, c5, e, h6, hn⟩, hr⟩ := h
      exact ⟨⟨g, off, c0, c1, c2, c3, c4, c5, e, h6.below hb hB, hN k _ (by omega) hn⟩, ihk (i + 1) (by omega) hr⟩
theorem NodeV.below {w w' : World} {B : Nat} {n : Nd} {v : Value} (h : NodeV w n v) (hb : Below B w w') (hB : w.heap.size ≤ B) : NodeV w' n v := (nodes_below hb hB n.sz).1 n v (Nat.le_refl _) h
theorem KidsV.below {w w' : World} {B : Nat} {a : Option Addr} {ks : List Nd} {i : Nat} (h : KidsV w a i ks) (hb : Below B w w') (hB : w.heap.size ≤ B) : KidsV w' a i ks := (nodes_below hb hB (szAll ks)).2 a ks i (Nat.le_refl _) h

theorem NodeV.cells {w : World} {n : Nd} {c0 c1 c2 c3 c4 c5 : Value} (h : NodeV w n (.agg #[c0, c1, c2, c3, c4, c5])) :
    ∃ a b a' b', c0 = .int .i64 n.kind ∧ c1 = .int .i64 n.space ∧ c2 = .string n.name ∧ c3 = .slice a n.attrs.length b ∧ c4 = .string n.text ∧ c5 = .slice a' n.kids.length b' := by
  cases n with
  | mk kd sp nm at' tx ks =>
    unfold NodeV at h
    obtain ⟨av, a', b', e, _, ⟨a, b, rfl, _⟩, _⟩ := h
    simp only [Value.agg.injEq, Array.mk.injEq, List.cons.injEq, and_true] at e
    obtain ⟨rfl, rfl, rfl, rfl, rfl, rfl⟩ := e
    exact ⟨a, b, a', b', rfl, rfl, rfl, rfl, rfl, rfl⟩
mutual
def fewL : Nat → Nd → Int → Int
  | 0, _, _ => -1
  | d + 1, .mk _ _ _ _ _ ks, left => fewK d ks (left - 1)
def fewK : Nat → List Nd → Int → Int
  | _, [], left => left
  | d, k :: ks, left => if left < 0 then left else fewK d ks (fewL d k left)
end
theorem few_range : ∀ (m : Nat), (∀ (n : Nd) (d : Nat) (l : Int), n.sz ≤ m → 0 ≤ l → l ≤ 1000 → -1 ≤ fewL d n l ∧ fewL d n l ≤ 1000) ∧ (∀ (ks : List Nd) (d : Nat) (l : Int), szAll ks ≤ m → -1 ≤ l → l ≤ 1000 → -1 ≤ fewK d ks l ∧ fewK d ks l ≤ 1000) := by
  intro m
  induction m with
  | zero =>
    refine ⟨fun n _ _ hn => absurd (sz_pos n) (by omega), fun ks => ?_⟩
    cases ks with
    | nil => intro d l _ h1 h2; unfold fewK; exact ⟨h1, h2⟩
    | cons k ks => intro d l hs; unfold szAll at hs; exact absurd (sz_pos k) (by omega)
  | succ m ih =>
    have hN : ∀ (n : Nd) (d : Nat) (l : Int), n.sz ≤ m + 1 → 0 ≤ l → l ≤ 1000 → -1 ≤ fewL d n l ∧ fewL d n l ≤ 1000 := by
      intro n d l hs h0 h1
      cases n with
      | mk kd sp nm at' tx ks =>
        unfold Nd.sz at hs
        cases d with
        | zero => unfold fewL; omega
        | succ d => unfold fewL; exact ih.2 ks d (l - 1) (by omega) (by omega) (by omega)
    refine ⟨hN, fun ks => ?_⟩
    induction ks with
    | nil => intro d l _ h1 h2; unfold fewK; exact ⟨h1, h2⟩
    | cons k ks ihk =>
      intro d l hs h1 h2
      unfold szAll at hs
      unfold fewK
      split
      · omega
      · have := hN k d l (by omega) (by omega) h2
        exact ihk d _ (by omega) this.1 this.2
def FewRel (ks : List Nd) (d k : Nat) (left r : Int) (w wx : World) : Prop :=
  k ≤ ks.length ∧ -1 ≤ left ∧ left ≤ 1000 ∧ fewK d (ks.drop k) left = r ∧ Below w.heap.size w wx
set_option maxRecDepth 100000 in
set_option maxHeartbeats 2000000 in
theorem few_any : ∀ (m : Nat) (n : Nd), n.sz ≤ m → ∀ (v : Value) (d : Nat) (D : Int) (left r : Int) (w : World), Hid (D = (d : Nat)) → d ≤ 1000 → 0 ≤ left → left ≤ 1000 → Hid (NodeV w n v) → Hid (fewL d n left = r) →
    Calls Tryz.prog 89 #[v, .int .i64 left, .int .i64 D] w fun e w' => e = .returned (.int .i64 r) ∧ Below w.heap.size w w' := by
  intro m
  induction m with
  | zero => intro n hn; exact absurd (sz_pos n) (by omega)
  | succ m ih =>
    intro n hn v d D left r w hD hd h0 h1 hV hr
    have hv := hV.out
    cases n with
    | mk kd sp nm at' tx ks =>
    unfold NodeV at hv
    obtain ⟨av, a, c, rfl, hlen, hA, hK⟩ := hv
    have HK := Lib.hid hK
    have HIH := Lib.hid ih
    have HN := Lib.hid hn
    clear hA hK ih hn hV
    cases d with
    | zero =>
      have hr2 : -1 = r := by have := hr.out; unfold fewL at this; exact this
      have HR := Lib.hid hr2
      clear hr2 hr
      obtain rfl : D = 0 := hD.out
      go_enter Tryz.func89, Tryz.ntmps89
      go_wp2
      go_ret
      refine ⟨?_, (Below.refl _ w).alloc (Nat.le_refl _) _⟩
      rw [← HR.out]
      rfl
    | succ d =>
      have hr2 : fewK d ks (left - 1) = r := by have := hr.out; unfold fewL at this; exact this
      have HR : Hid (FewRel ks d 0 (left - 1) r w (w.alloc (.cells #[.int .i64 kd, .int .i64 sp, .string nm, av, .string tx, .slice a ks.length c] 45))) := ⟨Nat.zero_le _, by omega, by omega, hr2, (Below.refl _ w).alloc (Nat.le_refl _) _⟩
      clear hr2 hr
      have hDb : D = (d : Int) + 1 := by rw [hD.out]; omega
      have hq0 : (D == 0) = false := by rw [beq_eq_false_iff_ne]; omega
      have hD1 : 1 ≤ D := by omega
      have hD2 : D ≤ 1001 := by omega
      have HDD : Hid (D - 1 = (d : Nat)) := by show _ = _; omega
      clear hDb
      go_enter Tryz.func89, Tryz.ntmps89
      go_wp2
      go_loopw [1, 16] (fun l i wx => ∃ (k : Nat) (L : Int), i = .int .i64 k ∧ l = .int .i64 L ∧ Hid (FewRel ks d k L r w wx)) (fun _ i _ => ks.length - (intOf i).toNat)
      case atStart => exact ⟨0, left - 1, rfl, rfl, HR⟩
      case round =>
        obtain ⟨k, L, rfl, rfl, hR⟩ := hrel
        have hk := hR.out.1
        have hL0 := hR.out.2.1
        have hL1 := hR.out.2.2.1
        rcases Nat.lt_or_ge k ks.length with hlt | hge
        · obtain ⟨g, off, c0, c1, c2, c3, c4, c5, rfl, h6, hn⟩ := HK.out.get ks 0 k hlt
          rw [Nat.zero_add] at h6
          have h6' := h6.below hR.out.2.2.2.2 (Nat.le_refl _)
          obtain ⟨x0, x1, x2, x3, x4, x5⟩ := h6'
          have hst : fewK d (ks.drop k) L = if L < 0 then L else fewK d (ks.drop (k + 1)) (fewL d ks[k] L) := by
            rw [List.drop_eq_getElem_cons hlt]
            conv => lhs; unfold fewK
          have HST := Lib.hid hst
          obtain ⟨a1, b1, a2, b2, rfl, rfl, rfl, rfl, rfl, rfl⟩ := hn.cells
          have HND := Lib.hid (hn.below hR.out.2.2.2.2 (Nat.le_refl _))
          clear hst hn h6
          have HSZ := Lib.hid (sz_get ks k hlt)
          have HNN := HN.out
          unfold Nd.sz at HNN
          have hm : (ks[k]).sz ≤ m := by have := HSZ.out; omega
          have HM := Lib.hid hm
          clear hm HNN
          generalize ks[k] = q at *
          rcases Int.lt_or_le L 0 with hneg | hpos
          · have hrL : L = r := by
              have := hR.out.2.2.2.1
              rw [HST.out, if_pos hneg] at this
              exact this
            have HRL := Lib.hid hrL
            clear hrL
            go_wp2
            go_ret
            refine ⟨?_, hR.out.2.2.2.2.trans (((Below.refl _ wr).alloc (Nat.le_refl _) _).mono hR.out.2.2.2.2.size)⟩
            rw [HRL.out]
            rfl
          · have hB2 : Below w.heap.size w (wr.alloc (.cells #[.int .i64 q.kind, .int .i64 q.space, .string q.name, .slice a1 q.attrs.length b1, .string q.text, .slice a2 q.kids.length b2] 45)) := hR.out.2.2.2.2.trans (((Below.refl _ wr).alloc (Nat.le_refl _) _).mono hR.out.2.2.2.2.size)
            have HB2 := Lib.hid hB2
            have HND2 := Lib.hid (HND.out.below ((Below.refl wr.heap.size wr).alloc (Nat.le_refl _) (.cells #[.int .i64 q.kind, .int .i64 q.space, .string q.name, .slice a1 q.attrs.length b1, .string q.text, .slice a2 q.kids.length b2] 45)) (Nat.le_refl _))
            clear hB2
            go_wp2_with fail
            refine (HIH.out q HM.out _ d (D - 1) L (fewL d q L) _ HDD (by omega) hpos hL1 HND2 (Lib.hid rfl)).mono ?_
            rintro e W2 ⟨rfl, B2⟩
            have HN2 : Hid (FewRel ks d (k + 1) (fewL d q L) r w W2) := by
              have hrg := (few_range q.sz).1 q d L (Nat.le_refl _) hpos hL1
              refine ⟨hlt, hrg.1, hrg.2, ?_, HB2.out.trans (B2.mono HB2.out.size)⟩
              have := hR.out.2.2.2.1
              rw [HST.out, if_neg (by omega)] at this
              exact this
            clear B2
            go_wp2
            go_roundw
            case rel => exact ⟨k + 1, fewL d q L, by go_num, rfl, HN2⟩
            case measure => simp [intOf]; omega
        · have hrL : L = r := by
            have := hR.out.2.2.2.1
            rw [List.drop_eq_nil_of_le (by omega)] at this
            unfold fewK at this
            exact this
          have HRL := Lib.hid hrL
          clear hrL
          go_wp2
          go_ret
          refine ⟨?_, hR.out.2.2.2.2⟩
          rw [HRL.out]
          rfl
end Go.Proofs.YtcfgbdhpcboikaaGreatDoor

/-
  What the listed package-level variables hold, as facts on cells; that these stand behind whatever turns nothing that was there.
-/
import Derived.Test.YtcfgbdhpcboikaaGreatDoorNumD
import Derived.Test.YtcfgbdhpcboikaaGreatDoorBase
import GoSem.PinnedTables
import Derived.Shelf.Unicode.DecodeSlow
namespace Go.Proofs.YtcfgbdhpcboikaaGreatDoor
open Go.RowKit

def p10hi (i : Nat) : Nat := (Pinned.pow10Rows.getD i (0, 0)).1
def p10lo (i : Nat) : Nat := (Pinned.pow10Rows.getD i (0, 0)).2
/-- The exact powers of ten, as bits. -/
def f10s : List Nat := [4607182418800017408, 4621819117588971520, 4636737291354636288, 4652007308841189376, 4666723172467343360, 4681608360884174848, 4696837146684686336, 4711630319722168320, 4726483295884279808, 4741671816366391296, 4756540486875873280, 4771362005757984768, 4786511204640096256, 4801453603149578240, 4816244402031689728, 4831355200913801216, 4846369599423283200, 4861130398305394688, 4876203697187506176, 4891288408196988160, 4906019910204099648, 4921056587992461136, 4936209963552724370]
def pows2 : List Int := [1, 3, 6, 9, 13, 16, 19, 23, 26]

structure Tabs (w : World) : Prop where
  opt : w.cell? ⟨7, 0, none⟩ = some (.bool true)
  most : ∃ m, w.cell? ⟨1, 0, none⟩ = some (.int .i64 m)
  syn : ∃ t v, w.cell? ⟨2, 0, none⟩ = some (.iface t v)
  rng : ∃ t v, w.cell? ⟨3, 0, none⟩ = some (.iface t v)
  info0 : w.cell? ⟨8, 0, none⟩ = some (.int .u64 52)
  info1 : w.cell? ⟨8, 1, none⟩ = some (.int .u64 11)
  info2 : w.cell? ⟨8, 2, none⟩ = some (.int .i64 (-1023))
  f10 : ∃ b o, w.cell? ⟨12, 0, none⟩ = some (.slice (some ⟨b, o, none⟩) 23 23) ∧ ∀ i, i < 23 → w.cell? ⟨b, o + i, none⟩ = some (.float .f64 (f10s.getD i 0))
  p2 : ∃ b o, w.cell? ⟨11, 0, none⟩ = some (.slice (some ⟨b, o, none⟩) 9 9) ∧ ∀ i, i < 9 → w.cell? ⟨b, o + i, none⟩ = some (.int .i64 (pows2.getD i 0))
  p10 : ∀ i, i < 696 → w.cell? ⟨13, 2 * i, none⟩ = some (.int .u64 (p10hi i)) ∧ w.cell? ⟨13, 2 * i + 1, none⟩ = some (.int .u64 (p10lo i))
  cheats : ∃ b o, w.cell? ⟨14, 0, none⟩ = some (.slice (some ⟨b, o, none⟩) 61 61) ∧ ∀ i, i < 61 → w.cell? ⟨b, o + 2 * i, none⟩ = some (.int .i64 (Pinned.cheatRows.getD i (0, [])).1) ∧ w.cell? ⟨b, o + (2 * i + 1), none⟩ = some (.string ⟨(Pinned.cheatRows.getD i (0, [])).2.toArray⟩)
  u10 : Lib.TabIs Tryz.prog w "internal/strconv.uint64pow10" .u64 Lib.pow10Tab
  u8 : Lib.Utf8Tabs 4 5 w

theorem Tabs.keep {w w' : World} (h : Tabs w) (hc : ∀ a v, w.cell? a = some v → w'.cell? a = some v) (h8 : Lib.Utf8Tabs 4 5 w') (hv : ∀ cs, w.var? Tryz.prog "internal/strconv.uint64pow10" = some cs → w'.var? Tryz.prog "internal/strconv.uint64pow10" = some cs) : Tabs w' := by
  obtain ⟨m, hm⟩ := h.most
  obtain ⟨t1, v1, h1⟩ := h.syn
  obtain ⟨t2, v2, h2⟩ := h.rng
  obtain ⟨b, o, h3, h3'⟩ := h.f10
  obtain ⟨b4, o4, h4, h4'⟩ := h.p2
  obtain ⟨b5, o5, h5, h5'⟩ := h.cheats
  exact ⟨hc _ _ h.opt, ⟨m, hc _ _ hm⟩, ⟨t1, v1, hc _ _ h1⟩, ⟨t2, v2, hc _ _ h2⟩, hc _ _ h.info0, hc _ _ h.info1, hc _ _ h.info2,
    ⟨b, o, hc _ _ h3, fun i hi => hc _ _ (h3' i hi)⟩, ⟨b4, o4, hc _ _ h4, fun i hi => hc _ _ (h4' i hi)⟩, fun i hi => ⟨hc _ _ (h.p10 i hi).1, hc _ _ (h.p10 i hi).2⟩,
    ⟨b5, o5, hc _ _ h5, fun i hi => ⟨hc _ _ (h5' i hi).1, hc _ _ (h5' i hi).2⟩⟩, hv _ h.u10, h8⟩
theorem glob7 : Tryz.prog.globalNamed "internal/strconv.uint64pow10" = some 9 := by kernel_rfl
theorem Tabs.below {B : Nat} {w w' : World} (h : Tabs w) (hb : Below B w w') (hB : w.heap.size ≤ B) : Tabs w' := by
  have hc : ∀ a v, w.cell? a = some v → w'.cell? a = some v := fun a v hv => by
    have := World.block_lt_of_cell? w _ hv
    rw [hb.cell (by omega), hv]
  refine h.keep hc (Utf8Tabs_below h.u8 ⟨hb.os, hb.tape, hb.output, hb.size, fun k hk => hb.block k (Nat.lt_of_lt_of_le hk hB)⟩) ?_
  intro cs hv
  have h7 : 9 < w.heap.size := by
    obtain ⟨b, o, h5, _⟩ := h.cheats
    have := World.block_lt_of_cell? w _ h5
    simp at this; omega
  unfold World.var? at hv ⊢
  simp only [glob7, Option.bind_some] at hv ⊢
  rw [hb.block 9 (by omega)]
  exact hv
theorem Tabs.drewN {w : World} (h : Tabs w) (n : Nat) : Tabs (w.drewN n) := h.below (B := w.heap.size) ⟨rfl, rfl, rfl, Nat.le_refl _, fun _ _ => rfl⟩ (Nat.le_refl _)
theorem Tabs.size {w : World} (h : Tabs w) : 15 ≤ w.heap.size := by
  obtain ⟨b, o, h5, _⟩ := h.cheats
  have := World.block_lt_of_cell? w _ h5
  simp at this; omega
end Go.Proofs.YtcfgbdhpcboikaaGreatDoor

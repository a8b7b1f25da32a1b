/-
  From the listed variables to the facts on cells that the walks ask: the tables.
-/
import Derived.Test.YtdgmokfdkophpaaGreatDoorLaidA
namespace Go.Proofs.YtdgmokfdkophpaaGreatDoor
open Go.RowKit

theorem agg_inj {a b : List (DataW Unit)} (h : DataW.agg a = DataW.agg b) : a = b := by cases h; rfl
theorem slice_inj {a b c d : List (DataW Unit)} (h : DataW.slice a b = DataW.slice c d) : a = c := by cases h; rfl

set_option maxRecDepth 100000 in
theorem f10_of {W : World} {rest : List (String × DataW Unit)} (h : laidMet Tryz.prog (("internal/strconv.float64pow10", Rows.laid_internal_strconv_float64pow10) :: rest) W) :
    ∃ b o, W.cell? ⟨12, 0, none⟩ = some (.slice (some ⟨b, o, none⟩) 23 23) ∧ ∀ i, i < 23 → W.cell? ⟨b, o + i, none⟩ = some (.float .f64 (f10s.getD i 0)) := by
  have hg : Tryz.prog.globalNamed "internal/strconv.float64pow10" = some 12 := by kernel_rfl
  obtain ⟨cs, fuel, p, hv, hd⟩ := head_parts h hg (show (Tryz.prog.globals[12]?).map (·.type) = some 181 by kernel_rfl)
  have e : (Rows.laid_internal_strconv_float64pow10 : DataW Unit) = .slice (f10s.map fun b => .lit (.float .f64 b)) [] := by kernel_rfl
  rw [e] at hd
  obtain ⟨b, o, n, e1, hel⟩ := slice_ones Tryz.underlying181 (by kernel_rfl) hd (by decide)
  refine ⟨b, o, ?_, ?_⟩
  · rw [World.var?_cell hg hv 0]
    have : cs.toList[0]? = some (.slice (some ⟨b, o, none⟩) 23 23) := by rw [e1]; rfl
    simpa using this
  · intro i hi
    have hl : f10s.length = 23 := by decide
    obtain ⟨v, q, h1, h2⟩ := hel i (.lit (.float .f64 (f10s.getD i 0))) (by rw [List.getElem?_map, List.getD, List.getElem?_eq_getElem (by omega)]; rfl)
    have := trod_float Tryz.underlying24 h2
    simp only [List.cons.injEq, and_true] at this
    rw [h1, this]
set_option maxRecDepth 100000 in
theorem p2_of {W : World} {rest : List (String × DataW Unit)} (h : laidMet Tryz.prog (("internal/strconv.powtab", Rows.laid_internal_strconv_powtab) :: rest) W) :
    ∃ b o, W.cell? ⟨11, 0, none⟩ = some (.slice (some ⟨b, o, none⟩) 9 9) ∧ ∀ i, i < 9 → W.cell? ⟨b, o + i, none⟩ = some (.int .i64 (pows2.getD i 0)) := by
  have hg : Tryz.prog.globalNamed "internal/strconv.powtab" = some 11 := by kernel_rfl
  obtain ⟨cs, fuel, p, hv, hd⟩ := head_parts h hg (show (Tryz.prog.globals[11]?).map (·.type) = some 180 by kernel_rfl)
  have e : (Rows.laid_internal_strconv_powtab : DataW Unit) = .slice (pows2.map fun b => .lit (.int .i64 b)) [] := by kernel_rfl
  rw [e] at hd
  obtain ⟨b, o, n, e1, hel⟩ := slice_ones Tryz.underlying180 (by kernel_rfl) hd (by decide)
  refine ⟨b, o, ?_, ?_⟩
  · rw [World.var?_cell hg hv 0]
    have : cs.toList[0]? = some (.slice (some ⟨b, o, none⟩) 9 9) := by rw [e1]; rfl
    simpa using this
  · intro i hi
    have hl : pows2.length = 9 := by decide
    obtain ⟨v, q, h1, h2⟩ := hel i (.lit (.int .i64 (pows2.getD i 0))) (by rw [List.getElem?_map, List.getD, List.getElem?_eq_getElem (by omega)]; rfl)
    have := trod_intL Tryz.underlying3 h2
    simp only [List.cons.injEq, and_true] at this
    rw [h1, this]
set_option maxRecDepth 100000 in
theorem cheats_of {W : World} {rest : List (String × DataW Unit)} (h : laidMet Tryz.prog (("internal/strconv.leftcheats", Rows.laid_internal_strconv_leftcheats) :: rest) W) :
    ∃ b o, W.cell? ⟨14, 0, none⟩ = some (.slice (some ⟨b, o, none⟩) 61 61) ∧ ∀ i, i < 61 → W.cell? ⟨b, o + 2 * i, none⟩ = some (.int .i64 (Pinned.cheatRows.getD i (0, [])).1) ∧ W.cell? ⟨b, o + (2 * i + 1), none⟩ = some (.string ⟨(Pinned.cheatRows.getD i (0, [])).2.toArray⟩) := by
  have hg : Tryz.prog.globalNamed "internal/strconv.leftcheats" = some 14 := by kernel_rfl
  obtain ⟨cs, fuel, p, hv, hd⟩ := head_parts h hg (show (Tryz.prog.globals[14]?).map (·.type) = some 189 by kernel_rfl)
  have e : (Rows.laid_internal_strconv_leftcheats : DataW Unit) = .slice (Pinned.cheatRows.map fun x => .agg [.lit (.int .i64 x.1), .lit (.string x.2)]) [] := rfl
  have hl : Pinned.cheatRows.length = 61 := by kernel_rfl
  rw [e] at hd
  obtain ⟨b, o, n, e1, hel⟩ := slice_twos Tryz.underlying189 (by kernel_rfl) hd (by rw [List.length_map, hl]; omega)
  rw [List.length_map, hl] at e1
  refine ⟨b, o, ?_, ?_⟩
  · rw [World.var?_cell hg hv 0]
    have : cs.toList[0]? = some (.slice (some ⟨b, o, none⟩) 61 61) := by rw [e1]; rfl
    simpa using this
  · intro i hi
    obtain ⟨x, hx⟩ : ∃ x, Pinned.cheatRows[i]? = some x := ⟨_, List.getElem?_eq_getElem (by omega)⟩
    have hgd : Pinned.cheatRows.getD i (0, []) = x := by rw [List.getD, hx]; rfl
    rw [hgd]
    obtain ⟨v, u, q, h1, h2, h3⟩ := hel i (.agg [.lit (.int .i64 x.1), .lit (.string x.2)]) (by rw [List.getElem?_map, hx]; rfl)
    obtain ⟨y0, y1, m, ex, _, hy0, hy1⟩ := ChangeShapes.trod_struct2 Tryz.underlying188 h3
    have c3 : Tryz.prog.cellsOf 3 = 1 := by kernel_rfl
    have c9 : Tryz.prog.cellsOf 9 = 1 := by kernel_rfl
    simp only [Prod.mk.injEq] at ex
    have ea := agg_inj ex.1
    simp only [List.cons.injEq, and_true] at ea
    obtain ⟨y0a, y0b⟩ := y0
    obtain ⟨y1a, y1b⟩ := y1
    dsimp only at ea
    rw [← ea.1, c3] at hy0
    rw [← ea.2, c9] at hy1
    have k0 := trod_intL Tryz.underlying3 hy0
    have k1 := trod_strL Tryz.underlying9 hy1
    simp at k0 k1
    rw [h1, h2, k0, k1]
    exact ⟨rfl, rfl⟩

set_option maxRecDepth 100000 in
theorem p10_of {W : World} {rest : List (String × DataW Unit)} (h : laidMet Tryz.prog (("internal/strconv.pow10Tab", Rows.laid_internal_strconv_pow10Tab) :: rest) W) :
    ∀ i, i < 696 → W.cell? ⟨13, 2 * i, none⟩ = some (.int .u64 (p10hi i)) ∧ W.cell? ⟨13, 2 * i + 1, none⟩ = some (.int .u64 (p10lo i)) := by
  have hg : Tryz.prog.globalNamed "internal/strconv.pow10Tab" = some 13 := by kernel_rfl
  obtain ⟨cs, fuel, p, hv, hd⟩ := head_parts h hg (show (Tryz.prog.globals[13]?).map (·.type) = some 185 by kernel_rfl)
  have e : (Rows.laid_internal_strconv_pow10Tab : DataW Unit) = .agg (Pinned.pow10Rows.map fun x => .agg [.lit (.int .u64 x.1), .lit (.int .u64 x.2)]) := rfl
  have hl : Pinned.pow10Rows.length = 696 := by kernel_rfl
  have c184 : Tryz.prog.cellsOf 184 = 2 := by kernel_rfl
  have c22 : Tryz.prog.cellsOf 22 = 1 := by kernel_rfl
  rw [e] at hd
  obtain ⟨xs, m, _, ex, _, hxl, hel⟩ := DataW.trod_array Tryz.underlying185 hd
  intro i hi
  obtain ⟨x, hx⟩ : ∃ x, Pinned.pow10Rows[i]? = some x := ⟨_, List.getElem?_eq_getElem (by omega)⟩
  have hhi : p10hi i = x.1 := by unfold p10hi; rw [List.getD, hx]; rfl
  have hlo : p10lo i = x.2 := by unfold p10lo; rw [List.getD, hx]; rfl
  have h1 := hel i hi
  rw [c184] at h1
  have hxi : (xs.map (·.1))[i]? = some (.agg [.lit (.int .u64 x.1), .lit (.int .u64 x.2)]) := by
    have := agg_inj (Prod.mk.inj ex).1
    rw [← this, List.getElem?_map, hx]
    rfl
  rw [List.getElem?_map] at hxi
  cases hq : xs[i]? with
  | none => rw [hq] at hxi; cases hxi
  | some z =>
    rw [hq] at h1 hxi
    simp only [Option.map_some, Option.some.injEq] at hxi
    obtain ⟨za, zb⟩ := z
    dsimp only at hxi
    rw [hxi] at h1
    obtain ⟨y0, y1, k, ey, _, hy0, hy1⟩ := ChangeShapes.trod_struct2 Tryz.underlying184 h1
    simp only [Prod.mk.injEq] at ey
    have ea := agg_inj ey.1
    simp only [List.cons.injEq, and_true] at ea
    obtain ⟨y0a, y0b⟩ := y0
    obtain ⟨y1a, y1b⟩ := y1
    dsimp only at ea
    rw [← ea.1, c22] at hy0
    rw [← ea.2, c22] at hy1
    have k0 := trod_intL Tryz.underlying22 hy0
    have k1 := trod_intL Tryz.underlying22 hy1
    rw [World.var?_cell hg hv, World.var?_cell hg hv, hhi, hlo]
    have g0 := congrArg (·[0]?) k0
    have g1 := congrArg (·[0]?) k1
    simp [List.getElem?_drop] at g0 g1
    rw [Nat.mul_comm 2 i]
    exact ⟨by simpa using g0, by simpa using g1⟩

set_option maxRecDepth 100000 in
theorem info_of {W : World} {rest : List (String × DataW Unit)} (h : laidMet Tryz.prog (("internal/strconv.float64info", Rows.laid_internal_strconv_float64info) :: rest) W) :
    W.cell? ⟨9, 0, none⟩ = some (.int .u64 52) ∧ W.cell? ⟨9, 1, none⟩ = some (.int .u64 11) ∧ W.cell? ⟨9, 2, none⟩ = some (.int .i64 (-1023)) := by
  have hg : Tryz.prog.globalNamed "internal/strconv.float64info" = some 9 := by kernel_rfl
  obtain ⟨cs, fuel, p, hv, hd⟩ := head_parts h hg (show (Tryz.prog.globals[9]?).map (·.type) = some 148 by kernel_rfl)
  have c63 : Tryz.prog.cellsOf 63 = 1 := by kernel_rfl
  have c3 : Tryz.prog.cellsOf 3 = 1 := by kernel_rfl
  obtain ⟨y0, y1, y2, n, ex, _, h0, h1, h2⟩ := Deep.trod_struct3 Tryz.underlying148 hd
  have ea := agg_inj (Prod.mk.inj ex).1
  simp only [List.cons.injEq, and_true] at ea
  obtain ⟨y0a, y0b⟩ := y0
  obtain ⟨y1a, y1b⟩ := y1
  obtain ⟨y2a, y2b⟩ := y2
  dsimp only at ea
  rw [← ea.1, c63] at h0
  rw [← ea.2.1, c63] at h1
  rw [← ea.2.2, c3] at h2
  have k0 := trod_intL Tryz.underlying63 h0
  have k1 := trod_intL Tryz.underlying63 h1
  have k2 := trod_intL Tryz.underlying3 h2
  rw [World.var?_cell hg hv, World.var?_cell hg hv, World.var?_cell hg hv]
  have g0 := congrArg (·[0]?) k0
  have g1 := congrArg (·[0]?) k1
  have g2 := congrArg (·[0]?) k2
  simp [List.getElem?_drop] at g0 g1 g2
  exact ⟨by simpa using g0, by simpa using g1, by simpa using g2⟩

theorem star_name : "*" ++ "errors.errorString" = "*errors.errorString" := by decide
theorem errorString_row (u : TypeId) (h : Tryz.prog.typeName? 3 u = some "*errors.errorString") : u = 113 :=
  typeName_ptr_named (nm := "errors.errorString") (by rw [star_name]; kernel_rfl) (by kernel_rfl) (by decide) u (by rw [star_name]; exact h)
theorem err_of {W : World} {n : String} {text : List UInt8} {g : Nat} {rest : List (String × DataW Unit)} (h : laidMet Tryz.prog ((n, .iface "*errors.errorString" (.ptr (.agg [.lit (.string text)]))) :: rest) W)
    (hg : Tryz.prog.globalNamed n = some g) (hty : (Tryz.prog.globals[g]?).map (·.type) = some 47) : ∃ t v, W.cell? ⟨g, 0, none⟩ = some (.iface t v) := by
  obtain ⟨a, s, hv, _, _, _⟩ := laid_sentinel h hg hty Tryz.underlying47 errorString_row Tryz.underlying113 Tryz.underlying115 rfl rfl Tryz.underlying9 (by kernel_rfl) (by kernel_rfl)
  exact ⟨_, _, by rw [World.var?_cell hg hv 0]; rfl⟩

/-- What the rows list. -/
def laidList : List (String × DataW Unit) := Rows.realOrdersRow.laid

theorem most_of {W : World} (h : W.ShapedOpen Tryz.prog) : ∃ m, W.cell? ⟨4, 0, none⟩ = some (.int .i64 m) :=
  cell_of_shapedOpen_int (t := 3) (zero := #[.int .i64 0]) h (of_decide_eq_true (by kernel_rfl)) (by kernel_rfl) rfl (by kernel_rfl) (by kernel_rfl) Tryz.underlying3

theorem tabs_of {W : World} (hL : laidMetH Tryz.prog laidList W) (hS : W.ShapedOpen Tryz.prog) : Tabs W := by
  rw [MakeChecks.laidMetH_plain _ _ _ (by kernel_rfl)] at hL
  have h : laidMet Tryz.prog [("math/bits.deBruijn32tab", Rows.laid_math_bits_deBruijn32tab), ("math/bits.deBruijn64tab", Rows.laid_math_bits_deBruijn64tab), ("internal/strconv.float32info", Rows.laid_internal_strconv_float32info), ("internal/strconv.float64info", Rows.laid_internal_strconv_float64info), ("internal/strconv.optimize", Rows.laid_internal_strconv_optimize), ("internal/strconv.powtab", Rows.laid_internal_strconv_powtab), ("internal/strconv.float64pow10", Rows.laid_internal_strconv_float64pow10), ("internal/strconv.float32pow10", Rows.laid_internal_strconv_float32pow10), ("internal/strconv.uint64pow10", Rows.laid_internal_strconv_uint64pow10), ("unicode/utf8.acceptRanges", Rows.laid_unicode_utf8_acceptRanges), ("strconv.ErrRange", Rows.laid_strconv_ErrRange), ("strconv.ErrSyntax", Rows.laid_strconv_ErrSyntax), ("internal/strconv.leftcheats", Rows.laid_internal_strconv_leftcheats), ("internal/strconv.pow10Tab", Rows.laid_internal_strconv_pow10Tab), ("unicode/utf8.first", Rows.laid_unicode_utf8_first)] W := hL
  have h4 := h.tail.tail.tail
  have h5 := h4.tail
  have h6 := h5.tail
  have h7 := h6.tail
  have h9 := h7.tail.tail
  have h11 := h9.tail.tail
  have h12 := h11.tail
  have h13 := h12.tail
  have h14 := h13.tail
  obtain ⟨i0, i1, i2⟩ := info_of h4
  exact ⟨opt_of h5, most_of hS, err_of h12 (by kernel_rfl) (by kernel_rfl), err_of h11 (by kernel_rfl) (by kernel_rfl), i0, i1, i2, f10_of h7, p2_of h6, p10_of h14, cheats_of h13, u10_of h9⟩
end Go.Proofs.YtdgmokfdkophpaaGreatDoor

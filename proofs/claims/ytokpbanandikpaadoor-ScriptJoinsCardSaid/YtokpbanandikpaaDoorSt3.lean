/- Part 3 of the proof: D13. -/
import Derived.Test.YtokpbanandikpaaDoorSt2
import Derived.Test.YtokpbanandikpaaDoorTie
import Derived.SevenTiedAt
import Derived.Test.YtokpbanandikpaaDoorRows
import Derived.Lib.LaidTab
import Derived.LaidLaws
import Derived.LaidHandle
import Derived.LaidMore
import Derived.Lay
import Derived.Stop.Joined
import Derived.HandedShaped
import Derived.Shelf.Vars
import Derived.OpenShut
import Derived.ProofKit
set_option linter.unusedVariables false
set_option linter.unusedSimpArgs false
set_option linter.all false

set_option maxRecDepth 100000
set_option linter.unusedVariables false
set_option linter.unusedSimpArgs false
namespace Go.Proofs.YtokpbanandikpaaDoor
open Go Go.V Go.Proofs
open Go.ChangeShapes Go.WideShapes Go.ChangeAt Go.RowKit
/-! ### the listed variables -/
noncomputable def laidL : List (String × DataW Unit) := Rows.scriptParsesRow.laid
theorem laidVars_at {P : Program} {w : World} {n : String} {d : DataW Unit} : ∀ {l : List (String × DataW Unit)} {ps : List MemPlace}, DataW.LaidVars P w l ps → (n, d) ∈ l → ∃ g t cs fuel p, P.globalNamed n = some g ∧ (P.globals[g]?).map (·.type) = some t ∧ w.var? P n = some cs ∧ DataW.trod (fun _ => ()) P w 0 (fun _ => true) false fuel t cs.toList = some (d, p)
  | [], _, _, h => by cases h
  | (n', d') :: r, ps, ⟨g, t, cs, fuel, p, q, h1, h2, h3, h4, h5, _⟩, h => by
    rcases List.mem_cons.1 h with h | h
    · cases h
      exact ⟨g, t, cs, fuel, p, h1, h2, h3, h4⟩
    · exact laidVars_at h5 h
theorem cells_of_strs {P : Program} {w : World} {base fuel : Nat} {sp : Nat → Bool} {held : Bool} {t e : TypeId} {n : Nat} {cs : List Value} {zs : List (List UInt8)} {p : List MemPlace} (ht : P.underlying t = some (.array n e)) (he : P.underlying e = some .string) (hce : P.cellsOf e = 1) (hct : P.cellsOf t = n)
    (h : DataW.trod (fun _ => ()) P w base sp held fuel t cs = some (.agg (zs.map fun z => .lit (.string z)), p)) : cs = zs.map fun z => .string (sB z) := by
  obtain ⟨xs, m, _, ex, hl, hn, hel⟩ := DataW.trod_array ht h
  rw [hct] at hl
  have ex1 : (xs.map (·.1)) = zs.map fun z => (DataW.lit (.string z) : DataW Unit) := (DataW.agg.inj (Prod.mk.inj ex).1).symm
  have hz : zs.length = n := by
    have := congrArg List.length ex1
    simp at this
    omega
  apply List.ext_getElem?
  intro i
  by_cases hi : i < n
  · have hE := hel i hi
    rw [hce, Nat.mul_one, List.getElem?_eq_getElem (by omega)] at hE
    obtain ⟨s, e1, e2, _⟩ := DataW.trod_string he hE
    have h1 : cs[i]? = some (.string s) := by
      have := congrArg (·[0]?) e1
      simpa [List.getElem?_take, List.getElem?_drop] using this
    have h2 : (xs.map (·.1))[i]? = some (DataW.lit (.string s.data.toList) : DataW Unit) := by
      rw [List.getElem?_map, List.getElem?_eq_getElem (by omega : i < xs.length), e2]; rfl
    rw [ex1] at h2
    simp only [List.getElem?_map, Option.map_eq_some_iff, DataW.lit.injEq, Lit.string.injEq] at h2
    obtain ⟨z, hz, rfl⟩ := h2
    rw [h1, List.getElem?_map, hz]
    rfl
  · rw [List.getElem?_eq_none (by omega), List.getElem?_eq_none (by simp; omega)]
theorem err_iface : Pg.underlying 47 = some (.interface #[("Error", 31)]) := by kernel_rfl
theorem glb_of_laid {W : World} (h : laidMetH Tryd.prog laidL W) (hs : W.ShapedOpen Tryd.prog) : Glb W := by
  rw [MakeChecks.laidMetH_plain _ _ _ (by kernel_rfl)] at h
  obtain ⟨ps, h, _, _⟩ := h
  refine ⟨?_, ?_, ?_, ?_, ?_, ?_⟩
  · obtain ⟨g, t, cs, fuel, p, hg, ht, hv, hd⟩ := laidVars_at h (n := "besom/script.words") (d := Rows.laid_besom_script_words) (List.mem_of_getElem? (i := 6) rfl)
    obtain rfl := Option.some.inj ((show Pg.globalNamed "besom/script.words" = some 0 by kernel_rfl).symm.trans hg)
    obtain rfl := Option.some.inj ((show (Pg.globals[0]?).map (·.type) = some 44 by kernel_rfl).symm.trans ht)
    have hc := cells_of_strs (zs := wordTab) (n := 13) (e := 9) (by kernel_rfl) (by kernel_rfl) (by kernel_rfl) (by kernel_rfl) hd
    intro i x hx
    rw [World.var?_cell hg hv i, ← Array.getElem?_toList, hc, List.getElem?_map, hx]
    rfl
  · obtain ⟨g, t, cs, fuel, p, hg, ht, hv, hd⟩ := laidVars_at h (n := "besom/script.many") (d := Rows.laid_besom_script_many) (List.mem_of_getElem? (i := 7) rfl)
    obtain rfl := Option.some.inj ((show Pg.globalNamed "besom/script.many" = some 1 by kernel_rfl).symm.trans hg)
    obtain rfl := Option.some.inj ((show (Pg.globals[1]?).map (·.type) = some 45 by kernel_rfl).symm.trans ht)
    have hc := Lib.cells_of_tab (zs := manyTab) (k := .i64) (n := 13) (e := 3) (by kernel_rfl) (by kernel_rfl) (by kernel_rfl) (by kernel_rfl) hd
    intro i x hx
    rw [World.var?_cell hg hv i, ← Array.getElem?_toList, hc, List.getElem?_map, hx]
    rfl
  · obtain ⟨g, t, cs, fuel, p, hg, ht, hv, hd⟩ := laidVars_at h (n := "strconv.ErrSyntax") (d := Rows.laid_strconv_ErrSyntax) (List.mem_of_getElem? (i := 5) rfl)
    obtain rfl := Option.some.inj ((show Pg.globalNamed "strconv.ErrSyntax" = some 2 by kernel_rfl).symm.trans hg)
    obtain rfl := Option.some.inj ((show (Pg.globals[2]?).map (·.type) = some 47 by kernel_rfl).symm.trans ht)
    obtain ⟨_, u, v, hc, _⟩ := iface_of_trod err_iface hd
    exact ⟨u, v, by rw [hv, ← hc]⟩
  · obtain ⟨g, t, cs, fuel, p, hg, ht, hv, hd⟩ := laidVars_at h (n := "strconv.ErrRange") (d := Rows.laid_strconv_ErrRange) (List.mem_of_getElem? (i := 4) rfl)
    obtain rfl := Option.some.inj ((show Pg.globalNamed "strconv.ErrRange" = some 3 by kernel_rfl).symm.trans hg)
    obtain rfl := Option.some.inj ((show (Pg.globals[3]?).map (·.type) = some 47 by kernel_rfl).symm.trans ht)
    obtain ⟨_, u, v, hc, _⟩ := iface_of_trod err_iface hd
    exact ⟨u, v, by rw [hv, ← hc]⟩
  · exact cell_of_shapedOpen_int (zero := #[.int .i64 0]) (t := 3) hs (of_decide_eq_true (by kernel_rfl)) (by kernel_rfl) rfl (by kernel_rfl) (by kernel_rfl) (by kernel_rfl)
  · obtain ⟨g, t, cs, fuel, p, hg, ht, hv, hd⟩ := laidVars_at h (n := "internal/strconv.uint64pow10") (d := Rows.laid_internal_strconv_uint64pow10) (List.mem_of_getElem? (i := 2) rfl)
    obtain rfl := Option.some.inj ((show (Pg.globalNamed "internal/strconv.uint64pow10").bind (fun g => (Pg.globals[g]?).map (·.type)) = some 94 by kernel_rfl).symm.trans (by rw [hg]; exact ht))
    have hc := Lib.cells_of_tab (zs := Lib.pow10Tab) (k := .u64) (n := 20) (e := 75) (by kernel_rfl) (by kernel_rfl) (by kernel_rfl) (by kernel_rfl) hd
    show W.var? Pg _ = _
    rw [hv, ← hc]
theorem returns_laid {H : Type} {enc : TypeId × Value → H} {a : Assume} {C : Checked} {os : Os} {f : FuncId} {fn : Func} {s : ChangeSpec} {conds : List PathCond} {apart fresh handsOn again : Bool} {X : World → Array Value → Prop}
    (hX : ∀ (w w' : World) (args : Array Value), w.heap = w'.heap → X w args → X w' args)
    (own : ownKnob C.prog.godebug = none) (started : os.Started) (noInit : C.prog.inits.idxOf? f = none) (hfn : C.prog.funcs[f]? = some fn)
    (witness : ∃ (w : World) (tape : Tape) (i : Input), w.os = os ∧ (w.forCall tape i).Shaped C.prog ∧ i.vars = [] ∧ Input.okWide C.prog (w.forCall tape i) .any w.heap.size f i ∧
      ((s.pre enc C.prog fn conds apart (w.forCall tape i).memory i.args ∧ X (w.forCall tape i).memory i.args) ∧ sizedMet enc C.prog fn (OpenSpec.ofChange s) apart (w.forCall tape i).memory i.args) ∧ a.holds C.prog (lone (Frame.enter C.prog f i.args .normal) [] (w.forCall tape i)))
    (contract : ∀ (W : World) (base : Nat) (args : Array Value) (ds gs : List (DataW H)) (before : List MemPlace),
      (∀ (j : Nat) t v, fn.params[j]? = some t → args[j]? = some v → Value.okWide C.prog W .any base t v) →
      DataW.Whole enc C.prog fn.params.toList s.vars apart W args.toList ds gs before → X W args → W.ShapedOpen C.prog →
      Calls C.prog f args W fun e W' => ∃ v, e = .returned v ∧ s.post enc C.prog fn apart fresh handsOn again W args v W') :
    ReturnsInHanded a C os f .any (fun w args => (s.pre enc C.prog fn conds apart w args ∧ X w args) ∧ sizedMet enc C.prog fn (OpenSpec.ofChange s) apart w args) (s.post enc C.prog fn apart fresh handsOn again) := by
  refine returnsInHanded_of_calls own started noInit witness ?_
  intro w tape i _ hsh _ hok hpre _
  obtain ⟨_, _, _, fn', hfn', _, _, _, _, hval⟩ := hok
  have e : fn' = fn := Option.some.inj (hfn'.symm.trans hfn)
  subst e
  obtain ⟨⟨⟨ds, gs, before, hw, _⟩, hx⟩, _⟩ := hpre
  have hw' := DataW.Whole.of_heap (w' := w.forCall tape i) (by rfl) hw
  refine (contract (w.forCall tape i) w.heap.size i.args ds gs before hval hw' (hX _ _ _ (by rfl) hx) hsh).mono fun e W' ⟨v, he, hp⟩ => ?_
  subst he
  exact ChangeSpec.post_blind hp
theorem own_ : ownKnob Tryd.prog.godebug = none := by kernel_rfl
theorem laid_ : laidOutB Tryd.prog = true := by kernel_rfl

end Go.Proofs.YtokpbanandikpaaDoor

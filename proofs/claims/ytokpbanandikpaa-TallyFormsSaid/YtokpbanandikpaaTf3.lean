/- Part 3 of the proof: P1, P2, B1, B2, B3, B4, B5, B6, B7, F1, G1, G2, G3, G4, G5, G6, W1, W2, W3, W4, T1, T2, T3, T4, T5, T6, T7, T8, T9, T10, T11, P3, P4. -/
import Derived.Test.YtokpbanandikpaaTf2
import Derived.Deep.Slices
import Derived.ChangeArms
set_option linter.unusedVariables false
set_option linter.unusedSimpArgs false
set_option linter.all false

set_option maxRecDepth 100000
set_option linter.unusedVariables false
set_option linter.unusedSimpArgs false
namespace Go.Proofs.Ytokpbanandikpaa
open Go Go.V Go.Proofs
/-! ### the heap's words, and the objects as a list -/
def flatW : List ROb → List Int
  | [] => []
  | o :: r => packH o.h :: (o.ws ++ flatW r)
def flatS : List ROb → List Bool
  | [] => []
  | o :: r => true :: (List.replicate o.ws.length false ++ flatS r)
def placed : List ROb → Int → Prop
  | [], _ => True
  | o :: r, a => o.at_ = a ∧ placed r (a + 1 + o.h.l)
structure obOk (o : ROb) : Prop where
  good : goodH o.h = true
  len : (o.ws.length : Int) = o.h.l
structure HR (H : PH) (os : List ROb) (rest : List Int) : Prop where
  words : H.words = flatW os ++ rest
  starts : H.starts = flatS os ++ List.replicate rest.length false
  top : (H.top : Int) = topR os
  placed : placed os 0
  obs : ∀ o ∈ os, obOk o

theorem rawH_packH {h : Hd} (hg : goodH h = true) : rawH (packH h) = h := by
  have g := goodH_iff.1 hg
  unfold rawH packH
  have e0 : (0 : Int) ≤ h.k + 16 * (h.p + 4096 * h.l) := by omega
  rw [Int.tmod_eq_emod_of_nonneg e0, Int.tdiv_eq_ediv_of_nonneg e0]
  have e1 : (h.k + 16 * (h.p + 4096 * h.l)) / 16 = h.p + 4096 * h.l := by omega
  have e2 : (h.k + 16 * (h.p + 4096 * h.l)) % 16 = h.k := by omega
  have e6 : IntKind.wrap .i64 (h.p + 4096 * h.l) = h.p + 4096 * h.l := wrap64 (by omega) (by omega)
  have e7 : IntKind.wrap .i64 h.l = h.l := wrap64 (by omega) (by omega)
  rw [e1, e2, e6]
  have e3 : (0 : Int) ≤ h.p + 4096 * h.l := by omega
  rw [Int.tmod_eq_emod_of_nonneg e3, Int.tdiv_eq_ediv_of_nonneg e3]
  have e4 : (h.p + 4096 * h.l) / 4096 = h.l := by omega
  have e5 : (h.p + 4096 * h.l) % 4096 = h.p := by
    rcases Int.lt_or_le h.p 4096 with hh | hh
    · omega
    · omega
  rw [e4, e5, e7]
theorem unpackH_packH {h : Hd} (hg : goodH h = true) : unpackH (packH h) = (h, 0) := by
  have g := goodH_iff.1 hg
  unfold unpackH
  rw [if_neg (by unfold packH; omega), rawH_packH hg, if_pos hg]

theorem obs_tail {o : ROb} {r : List ROb} (h : ∀ x ∈ o :: r, obOk x) : ∀ x ∈ r, obOk x := fun x hx => h x (List.mem_cons_of_mem _ hx)
theorem length_flatW : ∀ {os : List ROb}, (∀ o ∈ os, obOk o) → ((flatW os).length : Int) = topR os
  | [], _ => rfl
  | o :: r, h => by
    have h1 := (h o (by simp)).len
    have h2 := length_flatW (obs_tail h)
    simp only [flatW, topR, List.length_cons, List.length_append]
    omega
theorem length_flatS : ∀ (os : List ROb), (flatS os).length = (flatW os).length
  | [] => rfl
  | o :: r => by simp only [flatS, flatW, List.length_cons, List.length_append, List.length_replicate, length_flatS r]
theorem lenOk_of {os : List ROb} (h : ∀ o ∈ os, obOk o) (hl : os.length ≤ 100000) : lenOk os :=
  ⟨fun o ho => by have := goodH_iff.1 (h o ho).good; exact ⟨this.2.2.1, this.2.2.2.1⟩, hl⟩
theorem wsOk_of {os : List ROb} (h : ∀ o ∈ os, obOk o) : wsOk os := fun o ho => (h o ho).len
theorem placed_ge : ∀ {os : List ROb} {a : Int}, placed os a → (∀ o ∈ os, obOk o) → ∀ o ∈ os, a ≤ o.at_
  | [], _, _, _, o, h => by cases h
  | x :: r, a, hp, ho, o, h => by
    have g := goodH_iff.1 (ho x (by simp)).good
    rcases List.mem_cons.1 h with rfl | h
    · exact Int.le_of_eq hp.1.symm
    · have := placed_ge hp.2 (obs_tail ho) o h
      omega

theorem starts_at : ∀ {os : List ROb} {a : Int} {m k : Nat}, placed os a → (∀ o ∈ os, obOk o) → ((flatS os ++ List.replicate m false)[k]? = some true ↔ ∃ o ∈ os, o.at_ = a + k)
  | [], a, m, k, _, _ => by simp [flatS, List.getElem?_replicate]
  | o :: r, a, m, k, hp, ho => by
    have hl := (ho o (by simp)).len
    have ih := starts_at (os := r) (a := a + 1 + o.h.l) (m := m) (k := k - 1 - o.ws.length) hp.2 (obs_tail ho)
    have hge := placed_ge hp.2 (obs_tail ho)
    have h0 := hp.1
    cases k with
    | zero => simp [flatS, h0]
    | succ k =>
      simp only [flatS, List.cons_append, List.getElem?_cons_succ, List.append_assoc]
      by_cases hk : k < o.ws.length
      · rw [List.getElem?_append_left (by simpa using hk), List.getElem?_replicate]
        simp only [hk, if_true]
        constructor
        · intro h; cases h
        · rintro ⟨x, hx, he⟩
          rcases List.mem_cons.1 hx with rfl | hx
          · omega
          · have := hge x hx; omega
      · rw [List.getElem?_append_right (by simpa using hk)]
        simp only [List.length_replicate]
        rw [show k + 1 - 1 - o.ws.length = k - o.ws.length by omega] at ih
        rw [ih]
        constructor
        · rintro ⟨x, hx, he⟩; exact ⟨x, List.mem_cons_of_mem _ hx, by omega⟩
        · rintro ⟨x, hx, he⟩
          rcases List.mem_cons.1 hx with rfl | hx
          · omega
          · exact ⟨x, hx, by omega⟩

theorem words_at : ∀ {os : List ROb} {a : Int} {rest : List Int} {j : Nat} {o : ROb}, placed os a → (∀ o ∈ os, obOk o) → os[j]? = some o →
    (flatW os ++ rest)[(o.at_ - a).toNat]? = some (packH o.h) ∧ (∀ i : Nat, i < o.ws.length → (flatW os ++ rest)[(o.at_ - a).toNat + 1 + i]? = o.ws[i]?) ∧ o.at_ + 1 + o.h.l ≤ a + topR os
  | [], _, _, _, _, _, _, h => by cases h
  | x :: r, a, rest, j, o, hp, ho, h => by
    have hl := (ho x (by simp)).len
    have h0 := hp.1
    have hb := topR_bound (os := r)
    cases j with
    | zero =>
      have : x = o := by simpa using h
      subst this
      rw [show (x.at_ - a).toNat = 0 by omega]
      have hnn : 0 ≤ topR r := by rw [← length_flatW (obs_tail ho)]; omega
      refine ⟨rfl, fun i hi => ?_, by simp only [topR]; omega⟩
      rw [show 0 + 1 + i = i + 1 by omega]
      simp only [flatW, List.cons_append, List.getElem?_cons_succ, List.append_assoc]
      rw [List.getElem?_append_left hi]
    | succ j =>
      have hj : r[j]? = some o := by simpa using h
      obtain ⟨h1, h2, h3⟩ := words_at (rest := rest) hp.2 (obs_tail ho) hj
      have hge := placed_ge hp.2 (obs_tail ho) o (List.mem_of_getElem? hj)
      have e : ∀ q, (flatW (x :: r) ++ rest)[(o.at_ - a).toNat + q]? = (flatW r ++ rest)[(o.at_ - (a + 1 + x.h.l)).toNat + q]? := fun q => by
        simp only [flatW, List.cons_append, List.append_assoc]
        rw [show (o.at_ - a).toNat + q = ((o.at_ - (a + 1 + x.h.l)).toNat + q + x.ws.length) + 1 by omega, List.getElem?_cons_succ, List.getElem?_append_right (by omega)]
        congr 1
        omega
      refine ⟨by rw [← h1]; exact e 0, fun i hi => by rw [← h2 i hi, Nat.add_assoc, e, Nat.add_assoc], by simp only [topR]; omega⟩

theorem findR_spec : ∀ {os : List ROb} {n i : Int}, 0 ≤ i → (findR n os i = -1 ∧ ∀ o ∈ os, o.at_ ≠ n) ∨ ∃ (j : Nat) (o : ROb), findR n os i = i + j ∧ os[j]? = some o ∧ o.at_ = n
  | [], n, i, _ => .inl ⟨rfl, fun _ h => by cases h⟩
  | x :: r, n, i, hi => by
    unfold findR
    split
    · exact .inr ⟨0, x, by simp, rfl, ‹_›⟩
    · rcases findR_spec (os := r) (n := n) (i := i + 1) (by omega) with ⟨h1, h2⟩ | ⟨j, o, h1, h2, h3⟩
      · refine .inl ⟨h1, fun o ho => ?_⟩
        rcases List.mem_cons.1 ho with rfl | ho
        · assumption
        · exact h2 o ho
      · exact .inr ⟨j + 1, o, by rw [h1]; omega, by simpa using h2, h3⟩
theorem findR_at {os : List ROb} {a : Int} (hp : placed os a) (ho : ∀ o ∈ os, obOk o) {j : Nat} {o : ROb} (h : os[j]? = some o) : ∀ i, 0 ≤ i → findR o.at_ os i = i + j := by
  induction os generalizing a j with
  | nil => cases h
  | cons x r ih =>
    intro i hi
    have g := goodH_iff.1 (ho x (by simp)).good
    cases j with
    | zero =>
      have : x = o := by simpa using h
      subst this
      simp [findR]
    | succ j =>
      have hj : r[j]? = some o := by simpa using h
      have := placed_ge hp.2 (obs_tail ho) o (List.mem_of_getElem? hj)
      have h0 := hp.1
      unfold findR
      rw [if_neg (by omega), ih hp.2 (obs_tail ho) hj (i + 1) (by omega)]
      simp only [Int.natCast_add]
      omega

theorem HR.len {H : PH} {os : List ROb} {rest : List Int} (h : HR H os rest) : (H.words.length : Int) = topR os + rest.length := by
  rw [h.words, List.length_append, Int.natCast_add, length_flatW h.obs]
/-- A head is that of the object of the address. -/
theorem HR.head {H : PH} {os : List ROb} {rest : List Int} (h : HR H os rest) (n : Int) :
    ((H.head n = (hd0, 3) ∧ findR n os 0 = -1) ∨ ∃ (j : Nat) (o : ROb), os[j]? = some o ∧ o.at_ = n ∧ findR n os 0 = j ∧ H.head n = (o.h, 0)) := by
  rcases findR_spec (os := os) (n := n) (i := 0) (Int.le_refl 0) with ⟨h1, h2⟩ | ⟨j, o, h1, h2, h3⟩
  · refine .inl ⟨?_, h1⟩
    unfold PH.head
    rw [if_neg]
    rintro ⟨a1, a2, a3⟩
    rw [h.starts] at a3
    obtain ⟨o, ho, he⟩ := (starts_at h.placed h.obs).1 a3
    exact h2 o ho (by omega)
  · refine .inr ⟨j, o, h2, h3, by rw [h1]; omega, ?_⟩
    obtain ⟨c1, c2, c3⟩ := words_at (rest := rest) h.placed h.obs h2
    have hm := List.mem_of_getElem? h2
    have hge := placed_ge h.placed h.obs o hm
    have g := goodH_iff.1 (h.obs o hm).good
    have ht := h.top
    unfold PH.head
    rw [if_pos]
    · unfold PH.word
      rw [h.words, ← h3, show o.at_.toNat = (o.at_ - 0).toNat by omega, c1]
      exact unpackH_packH (h.obs o hm).good
    · refine ⟨by omega, by omega, ?_⟩
      rw [h.starts]
      exact (starts_at h.placed h.obs).2 ⟨o, hm, by omega⟩

end Go.Proofs.Ytokpbanandikpaa

set_option maxRecDepth 100000
set_option linter.unusedVariables false
set_option linter.unusedSimpArgs false
namespace Go.Proofs.Ytokpbanandikpaa
open Go Go.V Go.Proofs
/-! ### what is changed in both -/
theorem flatW_append : ∀ (os os' : List ROb), flatW (os ++ os') = flatW os ++ flatW os'
  | [], _ => rfl
  | o :: r, os' => by simp [flatW, flatW_append r os']
theorem flatS_append : ∀ (os os' : List ROb), flatS (os ++ os') = flatS os ++ flatS os'
  | [], _ => rfl
  | o :: r, os' => by simp [flatS, flatS_append r os']
theorem placed_append : ∀ {os os' : List ROb} {a : Int}, placed os a → placed os' (a + topR os) → placed (os ++ os') a
  | [], _, a, _, h => by simpa [topR] using h
  | o :: r, os', a, h, h' => ⟨h.1, placed_append h.2 (by rw [show a + 1 + o.h.l + topR r = a + topR (o :: r) by simp only [topR]; omega]; exact h')⟩
theorem topR_set : ∀ {os : List ROb} {j : Nat} {o : ROb} {ws : List Int}, os[j]? = some o → topR (os.set j ⟨o.at_, o.h, ws⟩) = topR os
  | [], _, _, _, h => by cases h
  | x :: r, 0, o, ws, h => by
    have : x = o := by simpa using h
    subst this
    rfl
  | x :: r, j + 1, o, ws, h => by simp only [List.set_cons_succ, topR, topR_set (os := r) (j := j) (o := o) (ws := ws) (by simpa using h)]
theorem placed_set : ∀ {os : List ROb} {j : Nat} {o : ROb} {ws : List Int} {a : Int}, os[j]? = some o → placed os a → placed (os.set j ⟨o.at_, o.h, ws⟩) a
  | [], _, _, _, _, h, _ => by cases h
  | x :: r, 0, o, ws, a, h, hp => by
    have : x = o := by simpa using h
    subst this
    exact hp
  | x :: r, j + 1, o, ws, a, h, hp => ⟨hp.1, placed_set (os := r) (by simpa using h) hp.2⟩
theorem flatS_set : ∀ {os : List ROb} {j : Nat} {o : ROb} {ws : List Int}, os[j]? = some o → ws.length = o.ws.length → flatS (os.set j ⟨o.at_, o.h, ws⟩) = flatS os
  | [], _, _, _, h, _ => by cases h
  | x :: r, 0, o, ws, h, hl => by
    have : x = o := by simpa using h
    subst this
    simp [flatS, hl]
  | x :: r, j + 1, o, ws, h, hl => by simp only [List.set_cons_succ, flatS, flatS_set (os := r) (j := j) (o := o) (ws := ws) (by simpa using h) hl]
theorem flatW_set : ∀ {os : List ROb} {a : Int} {rest : List Int} {j : Nat} {o : ROb} {f : Nat} {x : Int}, placed os a → (∀ o ∈ os, obOk o) → os[j]? = some o → f < o.ws.length →
    flatW (os.set j ⟨o.at_, o.h, o.ws.set f x⟩) ++ rest = (flatW os ++ rest).set ((o.at_ - a).toNat + 1 + f) x
  | [], _, _, _, _, _, _, _, _, h, _ => by cases h
  | y :: r, a, rest, j, o, f, x, hp, ho, h, hf => by
    have hl := (ho y (by simp)).len
    have h0 := hp.1
    cases j with
    | zero =>
      have : y = o := by simpa using h
      subst this
      rw [show (y.at_ - a).toNat = 0 by omega, show 0 + 1 + f = f + 1 by omega]
      simp only [List.set_cons_zero, flatW, List.cons_append, List.set_cons_succ, List.append_assoc]
      rw [List.set_append_left _ _ hf]
    | succ j =>
      have hj : r[j]? = some o := by simpa using h
      have ih := flatW_set (rest := rest) (x := x) hp.2 (obs_tail ho) hj hf
      have hge := placed_ge hp.2 (obs_tail ho) o (List.mem_of_getElem? hj)
      simp only [List.set_cons_succ, flatW, List.cons_append, List.append_assoc]
      have e : ∀ k, (y.ws ++ (flatW r ++ rest)).set (k + y.ws.length) x = y.ws ++ (flatW r ++ rest).set k x := fun k => by
        rw [List.set_append_right _ _ (by omega), Nat.add_sub_cancel]
      rw [ih, show (o.at_ - a).toNat + 1 + f = ((o.at_ - (a + 1 + y.h.l)).toNat + 1 + f + y.ws.length) + 1 by omega, List.set_cons_succ, e]

section
variable {H : PH} {os : List ROb} {rest : List Int}

theorem HR.leads (h : HR H os rest) (x : Int) : H.leads x = leadsR os x := by
  unfold PH.leads leadsR
  by_cases h1 : x ≤ 0
  · rw [if_pos h1, Bool.eq_iff_iff]
    simp only [decide_eq_true_eq, beq_iff_eq]
    constructor
    · rintro (h2 | ⟨h2, _⟩)
      · exact h2
      · have := (PH.head_good h2).1.1
        omega
    · exact .inl
  · rw [if_neg h1]
    rcases h.head (x - 1) with ⟨h2, h3⟩ | ⟨j, o, h2, h3, h4, h5⟩
    · rw [h2, h3]
      simp
      omega
    · rw [h5, h4, if_pos (by omega)]
      simp only [Int.toNat_natCast, h2, Option.map_some, Option.getD_some]
      rw [Bool.eq_iff_iff]
      simp
      intro h6
      omega

theorem HR.place (h : HR H os rest) (x : Hd) : (H.place x).2 = (placeR H.words.length os x).2 ∧ (H.place x).1.words.length = H.words.length ∧
    (((placeR H.words.length os x).2.2 ≠ 0 ∧ (placeR H.words.length os x).1 = os ∧ (H.place x).1 = H) ∨ ((placeR H.words.length os x).2.2 = 0 ∧ goodH x = true ∧ topR os + 1 + x.l ≤ H.words.length ∧ (placeR H.words.length os x).1 = os ++ [⟨topR os, x, List.replicate x.l.toNat 0⟩] ∧ (placeR H.words.length os x).2.1 = topR os ∧ HR (H.place x).1 (os ++ [⟨topR os, x, List.replicate x.l.toNat 0⟩]) (rest.drop (1 + x.l.toNat)))) := by
  have ht := h.top
  have hlen := h.len
  unfold PH.place placeR
  by_cases hg : goodH x = true
  · have g := goodH_iff.1 hg
    simp only [hg, if_true, Bool.true_eq_false, if_false]
    by_cases hf : (H.words.length : Int) - H.top ≤ x.l
    · rw [if_pos hf, if_pos (by omega)]
      exact ⟨by simp, by simp, .inl ⟨by simp, by simp, by simp⟩⟩
    · rw [if_neg hf, if_neg (by omega)]
      refine ⟨by simp [ht], length_layW (by omega), .inr ⟨by simp, by simp, by omega, by simp, by simp, ?_⟩⟩
      have hfl : (flatW os).length = H.top := by have := length_flatW h.obs; omega
      have hr : 1 + x.l.toNat ≤ rest.length := by omega
      obtain ⟨y, r1, rfl⟩ : ∃ y r1, rest = y :: r1 := by
        cases rest with
        | nil => simp at hr
        | cons y r1 => exact ⟨y, r1, rfl⟩
      simp only [List.length_cons] at hr
      refine ⟨?_, ?_, ?_, ?_, ?_⟩
      · show H.layW H.top x = _
        unfold PH.layW
        rw [h.words, flatW_append, ← hfl]
        have e1 : (flatW os ++ y :: r1).set (flatW os).length (packH x) = flatW os ++ packH x :: r1 := by simp
        rw [e1]
        have e2 : (flatW os ++ packH x :: r1).take ((flatW os).length + 1) = flatW os ++ [packH x] := by
          rw [List.take_append]
          simp [List.take_of_length_le]
        have e3 : (flatW os ++ packH x :: r1).drop ((flatW os).length + 1 + x.l.toNat) = r1.drop x.l.toNat := by
          rw [show (flatW os).length + 1 + x.l.toNat = (flatW os).length + (1 + x.l.toNat) by omega, List.drop_append]
          simp [Nat.add_comm 1]
        rw [e2, e3]
        simp [flatW, Nat.add_comm 1]
      · show H.starts.set H.top true = _
        rw [h.starts, flatS_append, ← hfl, ← length_flatS]
        have e1 : ∀ m, List.replicate (m + 1) false = false :: List.replicate m false := fun m => List.replicate_succ
        rw [List.length_cons, e1]
        have e2 : (flatS os ++ false :: List.replicate r1.length false).set (flatS os).length true = flatS os ++ true :: List.replicate r1.length false := by simp
        have e3 : List.replicate r1.length false = List.replicate x.l.toNat false ++ List.replicate (r1.length - x.l.toNat) false := by
          rw [List.replicate_append_replicate]
          congr 1
          omega
        rw [e2, e3]
        simp [flatS, Nat.add_comm 1]
      · show ((H.top + 1 + x.l.toNat : Nat) : Int) = _
        rw [topR_append]
        simp only [topR]
        omega
      · exact placed_append h.placed ⟨by simp, trivial⟩
      · intro o ho
        rcases List.mem_append.1 ho with ho | ho
        · exact h.obs o ho
        · rw [List.mem_singleton.1 ho]
          exact ⟨hg, by simp; omega⟩
  · have hg2 : goodH x = false := by simpa using hg
    simp only [hg2, Bool.false_eq_true, if_false, if_true]
    exact ⟨by simp, by simp, .inl ⟨by simp, by simp, by simp⟩⟩

theorem HR.write (h : HR H os rest) (a f x : Int) : (H.write a f x).2 = (writeR os a f x).2 ∧ HR (H.write a f x).1 (writeR os a f x).1 rest ∧ (H.write a f x).1.words.length = H.words.length := by
  unfold PH.write writeR PH.field
  rcases h.head a with ⟨h2, h3⟩ | ⟨j, o, h2, h3, h4, h5⟩
  · rw [h2, h3]
    simp
    exact h
  · rw [h5, h4, if_neg (show ¬ ((j : Int) < 0) by omega)]
    have hm := List.mem_of_getElem? h2
    have hl := (h.obs o hm).len
    simp only [Int.toNat_natCast, h2, ne_eq, not_true_eq_false, if_false]
    by_cases c1 : f < 0 ∨ o.h.l ≤ f
    · rw [if_pos c1, if_pos (show f < 0 ∨ o.h.l ≤ f ∨ o.h.k = 15 by omega)]
      exact ⟨by simp, h, by simp⟩
    · rw [if_neg c1]
      simp only [not_true_eq_false, if_false]
      by_cases c2 : o.h.k = 15
      · rw [if_pos c2, if_pos (show f < 0 ∨ o.h.l ≤ f ∨ o.h.k = 15 by omega)]
        exact ⟨by simp, h, by simp⟩
      · rw [if_neg c2, if_neg (show ¬ (f < 0 ∨ o.h.l ≤ f ∨ o.h.k = 15) by omega), h.leads]
        by_cases c3 : f < o.h.p ∧ leadsR os x = false
        · rw [if_pos c3, if_pos c3]
          exact ⟨by simp, h, by simp⟩
        · rw [if_neg c3, if_neg c3]
          have hge := placed_ge h.placed h.obs o hm
          refine ⟨rfl, ⟨?_, ?_, ?_, placed_set h2 h.placed, ?_⟩, by simp⟩
          · show H.words.set (a + 1 + f).toNat x = _
            rw [flatW_set h.placed h.obs h2 (by omega), h.words]
            congr 1
            omega
          · show H.starts = _
            rw [flatS_set h2 (by simp), h.starts]
          · show (H.top : Int) = _
            rw [topR_set h2]
            exact h.top
          · intro q hq
            rcases List.mem_or_eq_of_mem_set hq with hq | rfl
            · exact h.obs q hq
            · exact ⟨(h.obs o hm).good, by simpa using hl⟩
theorem HR.fit (h : HR H os rest) : ∀ k, (H.head k).2 = 0 → k + (H.head k).1.l < H.words.length := by
  intro k hk
  have hlen := h.len
  rcases h.head k with ⟨h2, _⟩ | ⟨j, o, h2, h3, h4, h5⟩
  · rw [h2] at hk; cases hk
  · rw [h5]
    have := (words_at (rest := rest) h.placed h.obs h2).2.2
    show k + o.h.l < _
    omega
theorem HR.ok (h : HR H os rest) (h1 : 1 ≤ H.words.length) (h2 : H.words.length ≤ 65536) : H.ok :=
  ⟨by rw [h.starts, h.words, List.length_append, List.length_append, length_flatS, List.length_replicate], by have := h.top; have := h.len; omega, h2, h1⟩
theorem HR.new (n : Nat) : HR (PH.new n) [] (List.replicate n 0) := ⟨by simp [PH.new, flatW], by simp [PH.new, flatS], rfl, trivial, fun _ h => by cases h⟩
end

end Go.Proofs.Ytokpbanandikpaa

set_option maxRecDepth 100000
set_option linter.unusedVariables false
set_option linter.unusedSimpArgs false
namespace Go.Proofs.Ytokpbanandikpaa
open Go Go.V Go.Proofs
/-! ### a graph's heap, built -/
def RdI (w : World) (k : IntKind) (p : Option Addr) (xs : List Int) : Prop := ∀ (i : Nat) (x : Int), xs[i]? = some x → ∃ a, p = some a ∧ w.cell? (Addr.at_ a (i : Int) 1) = some (.int k x)
theorem RdI.old {w w' : World} {k : IntKind} {p : Option Addr} {xs : List Int} (h : RdI w k p xs) (ho : Old w w') : RdI w' k p xs := fun i x hx => let ⟨a, h1, h2⟩ := h i x hx; ⟨a, h1, ho.cell h2⟩
theorem Rw.rdI {w : World} {r : Rw} {T : TypeId} {xs : List Int} {k : IntKind} (hE : Has w (r.ent T)) (hr : r.ok 1) (hx : r.xs = xs.map (.int k)) : RdI w k r.at_ xs := by
  intro i x hi
  obtain ⟨hlt, _⟩ := List.getElem?_eq_some_iff.1 hi
  have hn : r.n = xs.length := by have := hr.len; rw [hx, List.length_map] at this; omega
  cases hp : r.p with
  | none => have := hr.nil hp; have := hr.le; omega
  | some b =>
    have hB : Blk w b T (r.xs ++ r.sp) := hE (cl b T (r.xs ++ r.sp)) (by simp [Rw.ent, hp])
    refine ⟨⟨b, 0, none⟩, by simp [Rw.at_, hp], ?_⟩
    rw [at_mk, hB.cell, hx, List.getElem?_append_left (by simp; omega), List.getElem?_map]
    simp [hi]
structure GNode where
  kind : Int
  edges : List Int
  more : Int
structure GNode.ok (nd : GNode) : Prop where
  k0 : 0 ≤ nd.kind
  k1 : nd.kind ≤ 255
  m0 : 0 ≤ nd.more
  m1 : nd.more ≤ 255
  e : ∀ x ∈ nd.edges, 0 ≤ x ∧ x ≤ 255
  el : nd.edges.length ≤ 10
def InNodes (w : World) (p : Option Addr) (ns : List GNode) : Prop := ∀ (j : Nat) (nd : GNode), ns[j]? = some nd → ∃ a ep ec, p = some a ∧ w.cell? (Addr.at_ a (j : Int) 3) = some (.int .u8 nd.kind) ∧
    w.cell? ((Addr.at_ a (j : Int) 3).add 1) = some (.slice ep nd.edges.length ec) ∧ w.cell? ((Addr.at_ a (j : Int) 3).add 2) = some (.int .u8 nd.more) ∧ RdI w .u8 ep nd.edges
def sizeN : List GNode → Int
  | [] => 0
  | nd :: r => 3 + nd.edges.length + nd.more % 4 + sizeN r
def ndH (nd : GNode) : Hd := ⟨nd.kind % 15, nd.edges.length + nd.more % 4, nd.edges.length⟩
def buildA (size : Int) : List GNode → Int → List ROb × List Int → List ROb × List Int
  | [], _, s => s
  | nd :: r, i, s =>
    let os1 := if i % 3 = 2 then (placeR size s.1 ⟨15, nd.kind % 2, 0⟩).1 else s.1
    buildA size r (i + 1) ((placeR size os1 (ndH nd)).1, s.2 ++ [(placeR size os1 (ndH nd)).2.1])
def placeN (l : List Int) (n : Int) : Int := if n % (l.length + 1) = l.length then 0 else 1 + (l[(n % (l.length + 1)).toNat]?).getD 0

theorem sizeN_bound : ∀ {ns : List GNode}, (∀ nd ∈ ns, nd.ok) → 0 ≤ sizeN ns ∧ sizeN ns ≤ 16 * ns.length
  | [], _ => ⟨Int.le_refl 0, by simp [sizeN]⟩
  | nd :: r, h => by
    have h1 := sizeN_bound (ns := r) fun x hx => h x (by simp [hx])
    have h2 := h nd (by simp)
    have := h2.el
    have := h2.m0
    simp only [sizeN, List.length_cons]
    omega
theorem sizeN_append : ∀ (a b : List GNode), sizeN (a ++ b) = sizeN a + sizeN b
  | [], _ => by simp [sizeN]
  | x :: r, b => by simp only [List.cons_append, sizeN, sizeN_append r b]; omega
theorem sizeN_take {ns : List GNode} {j : Nat} {nd : GNode} (h : ns[j]? = some nd) : sizeN (ns.take (j + 1)) = sizeN (ns.take j) + (3 + nd.edges.length + nd.more % 4) := by
  obtain ⟨hl, he⟩ := List.getElem?_eq_some_iff.1 h
  rw [List.take_succ_eq_append_getElem hl, sizeN_append, he]
  simp [sizeN]

section
variable {w0 w : World} {Ls : List (List Ent)} {K : Value → World → Prop}

theorem place_spec' {p : Option Addr} {l c : Nat} {xs : List Int} {n : Int} (hn : 0 ≤ n ∧ n ≤ 255) (hl : l = xs.length) (hl2 : xs.length ≤ 1000) (hx : ∀ x ∈ xs, 0 ≤ x ∧ x ≤ 100000) (hr : RdI w .i64 p xs) (hK : K (.int .i64 (placeN xs n)) w) : Ret Pg 21 [(.slice p l c), .int .u8 n] w K := by
  refine f21_ret ?_
  unfold f21
  subst hl
  have e1 : IntKind.wrap .i64 ((xs.length : Nat) + 1 : Int) = xs.length + 1 := wrap64 (by omega) (by omega)
  have e2 : IntKind.wrap .i64 n = n := wrap64 (by omega) (by omega)
  rw [e1, e2, Int.tmod_eq_emod_of_nonneg hn.1]
  unfold placeN at hK
  have hm0 : 0 ≤ n % ((xs.length : Int) + 1) := Int.emod_nonneg _ (by omega)
  have hm1 : n % ((xs.length : Int) + 1) < xs.length + 1 := Int.emod_lt_of_pos _ (by omega)
  refine nz_i (by omega) ?_
  refine bif_d (fun h => ?_) (fun h => ?_)
  · rw [if_pos h] at hK
    exact hK
  · rw [if_neg h] at hK
    refine ⟨hm0, by omega, ?_⟩
    obtain ⟨y, hy⟩ : ∃ y, xs[(n % ((xs.length : Int) + 1)).toNat]? = some y := ⟨_, List.getElem?_eq_getElem (by omega)⟩
    obtain ⟨a, rfl, hc⟩ := hr _ _ hy
    rw [hy] at hK
    have hyb := hx y (List.mem_of_getElem? hy)
    refine nn_i ?_
    refine LI_i (n := y) (by rw [← hc]; congr 2; omega) ?_
    refine val_i hK ?_
    rw [show IntKind.wrap .i64 (1 + y) = 1 + y from wrap64 (by omega) (by omega)]
    rfl
end

end Go.Proofs.Ytokpbanandikpaa

set_option maxRecDepth 100000
set_option linter.unusedVariables false
set_option linter.unusedSimpArgs false
namespace Go.Proofs.Ytokpbanandikpaa
open Go Go.V Go.Proofs
/-! ### the loops that build -/
section
variable {w0 w : World} {Ls : List (List Ent)}

theorem tmod_nn {a b : Int} (h : 0 ≤ a) : Int.tmod a b = a % b := Int.tmod_eq_emod_of_nonneg h

theorem build_l0 {g m3 : Option Addr} {np : Option Addr} {nl nc : Nat} {s0 : Int} {ns : List GNode} {K0 : Tup f6_l0_o0 → World → Prop} (hin : InNodes w0 np ns) (hnl : nl = ns.length) (hns : ∀ nd ∈ ns, nd.ok) (hlen : ns.length ≤ 14) (hs : 0 ≤ s0 ∧ s0 ≤ 100) (hO : Owns w0 w Ls)
    (hK : ∀ w', Owns w0 w' Ls → K0 ⟨g, m3, s0 + sizeN ns, ()⟩ w') : LoopP Pg 216 f6_l0_B f6_l0_A ⟨g, m3, s0, ⟨np, nl, nc⟩, nl, 0, ()⟩ w (K0, ()) := by
  let Inv : Option Addr → Option Addr → Int → Sl → Int → Int → World → Prop := fun p q n s m i w => p = g ∧ q = m3 ∧ 0 ≤ i ∧ i ≤ nl ∧ n = s0 + sizeN (ns.take i.toNat) ∧ s = ⟨np, nl, nc⟩ ∧ m = nl ∧ Owns w0 w Ls
  refine LoopP_intro (ann := f6_ann) follows (fun x w => Inv x.1 x.2.1 x.2.2.1 x.2.2.2.1 x.2.2.2.2.1 x.2.2.2.2.2.1 w) (fun x _ => (nl - x.2.2.2.2.2.1 : Int).toNat) ⟨rfl, rfl, Int.le_refl 0, Int.natCast_nonneg _, by simp [sizeN], rfl, rfl, hO⟩ (fun x w h => (f6_l0_eq _ _ _ _ _ _ _ _ _).mpr ?_)
  suffices S : ∀ (p q : Option Addr) (n : Int) (s : Sl) (m i : Int), Inv p q n s m i w → f6_l0 p q n s m i w (fun x w => Inv x.1 x.2.1 x.2.2.1 x.2.2.2.1 x.2.2.2.2.1 x.2.2.2.2.2.1 w ∧ (nl - x.2.2.2.2.2.1 : Int).toNat < (nl - i : Int).toNat) _ from S _ _ _ _ _ _ h
  clear h x hO
  rintro _ _ _ _ _ i ⟨rfl, rfl, h0, hi, rfl, rfl, rfl, hO⟩
  unfold f6_l0
  refine bif_d (fun h => ?_) (fun h => ?_)
  · obtain ⟨nd, hnd⟩ : ∃ nd, ns[i.toNat]? = some nd := ⟨_, List.getElem?_eq_getElem (by omega)⟩
    obtain ⟨a, ep, ec, rfl, c0, c1, c2, _⟩ := hin _ _ hnd
    rw [Int.toNat_of_nonneg h0] at c0 c1 c2
    have ok := hns nd (List.mem_of_getElem? hnd)
    refine ⟨h0, h, ?_⟩
    refine nn_i ?_
    refine ⟨nd.kind, ep, nd.edges.length, ec, nd.more, ⟨hO.cell0 c0, hO.cell0 c1, hO.cell0 c2, trivial⟩, rfl, ?_⟩
    refine new_i hO fun _ _ hO => ?_
    (refine st_i hO (k := 0) (j := 0) rfl rfl rfl trivial fun _ hO => ?_)
    (refine st_i hO (k := 0) (j := 0) rfl rfl rfl trivial fun _ hO => ?_)
    (refine st_i hO (k := 0) (j := 0) rfl rfl rfl trivial fun _ hO => ?_)
    (refine ls_i hO (k := 0) (j := 0) rfl rfl rfl ?_)
    (refine lk_i hO (k := 0) (j := 0) rfl rfl rfl ?_)
    have b1 := sizeN_bound (ns := ns.take i.toNat) fun x hx => hns x (List.mem_of_mem_take hx)
    have b2 : (ns.take i.toNat).length ≤ 14 := by simp; omega
    have := ok.el
    have := ok.m0
    have := ok.m1
    have m0 : 0 ≤ nd.more % 4 := by omega
    have m1 : nd.more % 4 < 4 := by omega
    rw [tmod_nn ok.m0]
    have e1 : IntKind.wrap .i64 (nd.more % 4) = nd.more % 4 := wrap64 (by omega) (by omega)
    have e2 : IntKind.wrap .i64 (3 + (nd.edges.length : Nat)) = 3 + (nd.edges.length : Nat) := wrap64 (by omega) (by omega)
    have e3 : IntKind.wrap .i64 (3 + (nd.edges.length : Nat) + nd.more % 4) = 3 + (nd.edges.length : Nat) + nd.more % 4 := wrap64 (by omega) (by omega)
    have e4 : IntKind.wrap .i64 (s0 + sizeN (ns.take i.toNat) + (3 + (nd.edges.length : Nat) + nd.more % 4)) = s0 + sizeN (ns.take i.toNat) + (3 + (nd.edges.length : Nat) + nd.more % 4) := wrap64 (by omega) (by omega)
    have e5 : IntKind.wrap .i64 (i + 1) = i + 1 := wrap64 (by omega) (by omega)
    rw [e1, e2, e3, e4, e5]
    refine ⟨⟨rfl, rfl, ?_, ?_, ?_, rfl, rfl, hO.dropn 1 rfl⟩, ?_⟩
    · show (0 : Int) ≤ i + 1; omega
    · show i + 1 ≤ (nl : Int); omega
    · show _ = s0 + sizeN (ns.take (i + 1).toNat)
      rw [show (i + 1).toNat = i.toNat + 1 by omega, sizeN_take hnd]
      show s0 + sizeN (ns.take i.toNat) + (3 + (nd.edges.length : Nat) + nd.more % 4) = _
      omega
    · show (nl - (i + 1) : Int).toNat < (nl - i : Int).toNat; omega
  · have e : ns.take i.toNat = ns := List.take_of_length_le (by omega)
    rw [e]
    exact hK _ hO
end

end Go.Proofs.Ytokpbanandikpaa

set_option maxRecDepth 100000
set_option linter.unusedVariables false
set_option linter.unusedSimpArgs false
namespace Go.Proofs.Ytokpbanandikpaa
open Go Go.V Go.Proofs
/-! ### objects are placed -/
theorem HR.place1 {H : PH} {os : List ROb} {rest : List Int} {size : Int} (h : HR H os rest) (hs : (H.words.length : Int) = size) (h2 : size ≤ 65536) (x : Hd) : (H.place x).2 = (placeR size os x).2 ∧ ((H.place x).1.words.length : Int) = size ∧ (∃ rest', HR (H.place x).1 (placeR size os x).1 rest') ∧ (placeR size os x).1.length ≤ os.length + 1 ∧ 0 ≤ (placeR size os x).2.1 ∧ (placeR size os x).2.1 ≤ 65536 := by
  obtain ⟨h3, h4, h5⟩ := h.place x
  have hl := h.len
  have ht : 0 ≤ topR os := by have := length_flatW h.obs; omega
  rw [hs] at h3 h5
  refine ⟨h3, by rw [h4]; exact hs, ?_⟩
  rcases h5 with ⟨a1, a2, a3⟩ | ⟨a1, a2, a3, a4, a5, a6⟩
  · have e : (placeR size os x).2.1 = 0 := by
      unfold placeR at a1 ⊢
      split at a1
      · rw [if_pos ‹_›]
      · split at a1
        · rw [if_neg ‹_›, if_pos ‹_›]
        · exact absurd rfl a1
    exact ⟨⟨rest, by rw [a2, a3]; exact h⟩, by rw [a2]; omega, by omega, by omega⟩
  · have g := goodH_iff.1 a2
    exact ⟨⟨_, by rw [a4]; exact a6⟩, by rw [a4]; simp, by rw [a5]; exact ht, by rw [a5]; omega⟩

section
variable {w0 w : World} {Ls : List (List Ent)}

set_option maxHeartbeats 2000000 in
theorem build_l1 {g m3 : Option Addr} {np : Option Addr} {nl nc : Nat} {size : Int} {ns : List GNode} {hid : HId} {mb : Nat} {E0 : List Ent} {H0 : PH} {K0 : Tup f6_l1_o2 → World → Prop} (hin : InNodes w0 np ns) (hnl : nl = ns.length) (hns : ∀ nd ∈ ns, nd.ok) (hlen : ns.length ≤ 14) (hs1 : 1 ≤ size) (hs2 : size ≤ 65536)
    (hH0 : ∃ rest, HR H0 [] rest) (hH1 : (H0.words.length : Int) = size) (hO : Owns w0 w (hpE hid H0 :: [cl mb 32 [.int .i64 size, .slice none 0 0]] :: Ls))
    (hK : ∀ (H : PH) (rest : List Int) (r : Rw) (E : List Ent) (lp : Option Addr) (ll lc : Nat) w', r.ok 1 → r.xs = (buildA size ns 0 ([], [])).2.map (.int .i64) → HR H (buildA size ns 0 ([], [])).1 rest → (H.words.length : Int) = size → RefE E lp ll (buildA size ns 0 ([], [])).1 → (buildA size ns 0 ([], [])).1.length ≤ 28 → (buildA size ns 0 ([], [])).2.length = ns.length → (∀ x ∈ (buildA size ns 0 ([], [])).2, 0 ≤ x ∧ x ≤ 65536) →
      Owns w0 w' (r.ent 3 :: hpE hid H :: [cl mb 32 [.int .i64 size, .slice lp ll lc]] :: E :: Ls) → K0 ⟨g, m3, some ⟨hid.b, 0, none⟩, some ⟨mb, 0, none⟩, ⟨r.at_, r.n, r.c⟩, ()⟩ w') :
    LoopP Pg 216 f6_l1_B f6_l1_A ⟨g, m3, some ⟨hid.b, 0, none⟩, some ⟨mb, 0, none⟩, ⟨none, 0, 0⟩, ⟨np, nl, nc⟩, nl, 0, ()⟩ w (K0, ()) := by
  obtain ⟨rest0, hH0⟩ := hH0
  let St : Sl → Int → World → Prop := fun s i w => ∃ (os : List ROb) (ats : List Int) (H : PH) (rest : List Int) (r : Rw) (E : List Ent) (lp : Option Addr) (ll lc : Nat), s = ⟨r.at_, r.n, r.c⟩ ∧ r.ok 1 ∧ r.xs = ats.map (.int .i64) ∧ HR H os rest ∧ (H.words.length : Int) = size ∧ RefE E lp ll os ∧ buildA size (ns.drop i.toNat) i (os, ats) = buildA size ns 0 ([], []) ∧ (os.length : Int) ≤ 2 * i ∧ (ats.length : Int) = i ∧ (∀ x ∈ ats, 0 ≤ x ∧ x ≤ 65536) ∧
    Owns w0 w (r.ent 3 :: hpE hid H :: [cl mb 32 [.int .i64 size, .slice lp ll lc]] :: E :: Ls)
  let Inv : Option Addr → Option Addr → Option Addr → Option Addr → Sl → Sl → Int → Int → World → Prop := fun p q hp mp s t m i w => g = p ∧ m3 = q ∧ hp = some ⟨hid.b, 0, none⟩ ∧ mp = some ⟨mb, 0, none⟩ ∧ t = ⟨np, nl, nc⟩ ∧ m = nl ∧ 0 ≤ i ∧ i ≤ nl ∧ St s i w
  refine LoopP_intro (ann := f6_ann) follows (fun x w => Inv x.1 x.2.1 x.2.2.1 x.2.2.2.1 x.2.2.2.2.1 x.2.2.2.2.2.1 x.2.2.2.2.2.2.1 x.2.2.2.2.2.2.2.1 w) (fun x _ => (nl - x.2.2.2.2.2.2.2.1 : Int).toNat)
    ⟨rfl, rfl, rfl, rfl, rfl, rfl, Int.le_refl 0, Int.natCast_nonneg _, [], [], H0, rest0, Rw.none_, [], none, 0, 0, rfl, Rw.none_ok, rfl, hH0, hH1, ⟨rfl, fun h => absurd h (by omega)⟩, rfl, by simp, rfl, fun _ h => (by cases h), hO.perm (.refl _)⟩ (fun x w h => (f6_l1_eq _ _ _ _ _ _ _ _ _ _ _).mpr ?_)
  suffices S : ∀ (p q hp mp : Option Addr) (s t : Sl) (m i : Int), Inv p q hp mp s t m i w → f6_l1 p q hp mp s t m i w (fun x w => Inv x.1 x.2.1 x.2.2.1 x.2.2.2.1 x.2.2.2.2.1 x.2.2.2.2.2.1 x.2.2.2.2.2.2.1 x.2.2.2.2.2.2.2.1 w ∧ (nl - x.2.2.2.2.2.2.2.1 : Int).toNat < (nl - i : Int).toNat) _ from S _ _ _ _ _ _ _ _ h
  clear h x hO
  rintro _ _ _ _ _ _ _ i ⟨rfl, rfl, rfl, rfl, rfl, rfl, h0, hi, os, ats, H, rest, r, E, lp, ll, lc, rfl, hr, hx, hHR, hHl, hR, hb, hol, hal, hab, hO⟩
  unfold f6_l1
  refine bif_d (fun h => ?_) (fun h => ?_)
  · obtain ⟨nd, hnd⟩ : ∃ nd, ns[i.toNat]? = some nd := ⟨_, List.getElem?_eq_getElem (by omega)⟩
    obtain ⟨a, ep, ec, rfl, c0, c1, c2, _⟩ := hin _ _ hnd
    rw [Int.toNat_of_nonneg h0] at c0 c1 c2
    have ok := hns nd (List.mem_of_getElem? hnd)
    have := ok.el
    have := ok.m0
    have := ok.m1
    have := ok.k0
    have := ok.k1
    have hdrop : ns.drop i.toNat = nd :: ns.drop (i.toNat + 1) := by
      obtain ⟨hl, he⟩ := List.getElem?_eq_some_iff.1 hnd
      rw [List.drop_eq_getElem_cons hl, he]
    rw [hdrop] at hb
    -- the object itself
    have join : ∀ (bn : Nat) (os1 : List ROb) (H1 : PH) (rest1 : List Int) (E1 : List Ent) (lp1 : Option Addr) (ll1 lc1 : Nat) (w1 : World), os1 = (if i % 3 = 2 then (placeR size os ⟨15, nd.kind % 2, 0⟩).1 else os) → HR H1 os1 rest1 → (H1.words.length : Int) = size → RefE E1 lp1 ll1 os1 → os1.length ≤ os.length + 1 →
        Owns w0 w1 ([cl bn 58 [.int .u8 nd.kind, .slice ep nd.edges.length ec, .int .u8 nd.more]] :: r.ent 3 :: hpE hid H1 :: [cl mb 32 [.int .i64 size, .slice lp1 ll1 lc1]] :: E1 :: Ls) →
        f6_j2 g m3 (some ⟨hid.b, 0, none⟩) (some ⟨mb, 0, none⟩) r.at_ r.n r.c ⟨bn, 0, none⟩ (some a) nl nc nl i w1 (fun x w => Inv x.1 x.2.1 x.2.2.1 x.2.2.2.1 x.2.2.2.2.1 x.2.2.2.2.2.1 x.2.2.2.2.2.2.1 x.2.2.2.2.2.2.2.1 w ∧ (nl - x.2.2.2.2.2.2.2.1 : Int).toNat < (nl - i : Int).toNat) K0 := by
      intro bn os1 H1 rest1 E1 lp1 ll1 lc1 w1 hos1 hHR1 hHl1 hR1 hol1 hO
      unfold f6_j2
      rw [show buildA size (nd :: ns.drop (i.toNat + 1)) i (os, ats) = buildA size (ns.drop (i.toNat + 1)) (i + 1) ((placeR size os1 (ndH nd)).1, ats ++ [(placeR size os1 (ndH nd)).2.1]) by rw [hos1]; rfl] at hb
      have e1 : IntKind.wrap .i64 (Int.tmod nd.kind 15) = nd.kind % 15 := by rw [tmod_nn ok.k0]; exact wrap64 (by omega) (by omega)
      have e2 : IntKind.wrap .i64 (Int.tmod nd.more 4) = nd.more % 4 := by rw [tmod_nn ok.m0]; exact wrap64 (by omega) (by omega)
      have e3 : IntKind.wrap .i64 (((nd.edges.length : Nat) : Int) + nd.more % 4) = ((nd.edges.length : Nat) : Int) + nd.more % 4 := wrap64 (by omega) (by omega)
      (refine lk_i hO (k := 0) (j := 0) rfl rfl rfl ?_)
      (refine ls_i hO (k := 0) (j := 0) rfl rfl rfl ?_)
      (refine lk_i hO (k := 0) (j := 0) rfl rfl rfl ?_)
      (refine ls_i hO (k := 0) (j := 0) rfl rfl rfl ?_)
      rw [e1, e2, e3]
      refine new_i hO fun _ _ hO => ?_
      (refine st_i hO (k := 0) (j := 0) rfl rfl rfl trivial fun _ hO => ?_)
      (refine st_i hO (k := 0) (j := 0) rfl rfl rfl trivial fun _ hO => ?_)
      (refine st_i hO (k := 0) (j := 0) rfl rfl rfl trivial fun _ hO => ?_)
      try dsimp only [pick1, set2, List.set] at hO
      (refine ⟨_, _, _, (by (refine ca_i hO (k := 0) (j := 0) rfl rfl)), rfl, ?_⟩)
      have hok := hHR1.ok (by omega) (by omega)
      refine place_spec (i := hid) (H := H1) (x := ndH nd) hok (hO.pick 3) fun _ hO => ?_
      try dsimp only [pick1, set2, List.set] at hO
      refine ⟨_, _, rfl, ?_⟩
      refine nn_i ?_
      (refine ⟨_, _, _, _, (by (refine ca_i hO (k := 4) (j := 0) rfl rfl)), rfl, ?_⟩)
      (refine ⟨_, _, _, (by (refine ca_i hO (k := 1) (j := 0) rfl rfl)), rfl, ?_⟩)
      obtain ⟨p1, p2, ⟨rest', p3⟩, p4, p5, p6⟩ := hHR1.place1 hHl1 hs2 (ndH nd)
      refine rplace_spec (x := ndH nd) (E := E1) (lenOk_of hHR1.obs (by omega)) (by omega) (hO.pick 5) hR1 fun E' lp' ll' lc' _ hO hR' => ?_
      try dsimp only [pick1, set2, List.set] at hO
      refine ⟨_, _, _, _, _, _, rfl, ?_⟩
      refine new_i hO fun _ _ hO => ?_
      (refine st_i hO (k := 0) (j := 0) rfl rfl rfl trivial fun _ hO => ?_)
      (refine st_i hO (k := 0) (j := 0) rfl rfl rfl trivial fun _ hO => ?_)
      try dsimp only [pick1, set2, List.set] at hO
      (refine ⟨_, _, _, _, (by (refine ca_i hO (k := 0) (j := 0) rfl rfl)), rfl, ?_⟩)
      refine nn_i ?_
      (refine st_i hO (k := 6) (j := 0) rfl rfl rfl trivial fun _ hO => ?_)
      (refine st_i hO (k := 6) (j := 0) rfl rfl rfl trivial fun _ hO => ?_)
      try dsimp only [pick1, set2, List.set] at hO
      refine new_i hO fun ba _ hO => ?_
      refine apInt (r := r) (m := 1) (news := [.int .i64 (placeR size os1 (ndH nd)).2.1]) (hO.pick 6) hr rfl (fun h => by cases h) (fun a ha j u hu => by cases ha; rw [add_mk, Nat.zero_add, (hO.row 0 0 rfl).cell]; exact hu) (by simp [Value.oneCell']) (by have := hr.len; rw [hx] at this; simp at this; omega) ?_
      intro r2 w2 hr2 hx2 hn2 hO _
      try dsimp only [pick1, set2, List.set] at hO
      have e5 : IntKind.wrap .i64 (i + 1) = i + 1 := wrap64 (by omega) (by omega)
      rw [e5]
      refine ⟨⟨rfl, rfl, rfl, rfl, rfl, rfl, ?_, ?_, _, ats ++ [(placeR size os1 (ndH nd)).2.1], _, rest', r2, E', lp', ll', lc', rfl, hr2, ?_, p3, p2, hR', ?_, ?_, ?_, ?_, (((((hO.pick 3).pick 7).pick 5).pick 3).cut 4 4)⟩, ?_⟩
      · show (0 : Int) ≤ i + 1; omega
      · show i + 1 ≤ (nl : Int); omega
      · rw [hx2, hx]; simp
      · show buildA size (ns.drop (i + 1).toNat) (i + 1) _ = _
        rw [show (i + 1).toNat = i.toNat + 1 by omega]
        exact hb
      · show _ ≤ 2 * (i + 1); omega
      · show _ = i + 1; simp; omega
      · intro x hx
        rcases List.mem_append.1 hx with hx | hx
        · exact hab x hx
        · rw [List.mem_singleton.1 hx]; exact ⟨p5, p6⟩
      · show (nl - (i + 1) : Int).toNat < (nl - i : Int).toNat; omega
    refine ⟨h0, h, ?_⟩
    refine nn_i ?_
    refine ⟨nd.kind, ep, nd.edges.length, ec, nd.more, ⟨hO.cell0 c0, hO.cell0 c1, hO.cell0 c2, trivial⟩, rfl, ?_⟩
    refine new_i hO fun _ _ hO => ?_
    (refine st_i hO (k := 0) (j := 0) rfl rfl rfl trivial fun _ hO => ?_)
    (refine st_i hO (k := 0) (j := 0) rfl rfl rfl trivial fun _ hO => ?_)
    (refine st_i hO (k := 0) (j := 0) rfl rfl rfl trivial fun _ hO => ?_)
    have e2 : IntKind.wrap .i64 (Int.tmod nd.kind 2) = nd.kind % 2 := by rw [tmod_nn ok.k0]; exact wrap64 (by omega) (by omega)
    refine bif_d (fun h3 => ?_) (fun h3 => ?_)
    · rw [tmod_nn h0] at h3
      (refine lk_i hO (k := 0) (j := 0) rfl rfl rfl ?_)
      rw [e2]
      have hok := hHR.ok (by omega) (by omega)
      try dsimp only [pick1, set2, List.set] at hO
      refine place_spec (i := hid) (H := H) (x := ⟨15, nd.kind % 2, 0⟩) hok (hO.pick 2) fun _ hO => ?_
      try dsimp only [pick1, set2, List.set] at hO
      refine ⟨_, _, rfl, ?_⟩
      refine nn_i ?_
      (refine ⟨_, _, _, _, (by (refine ca_i hO (k := 3) (j := 0) rfl rfl)), rfl, ?_⟩)
      (refine lk_i hO (k := 1) (j := 0) rfl rfl rfl ?_)
      rw [e2]
      obtain ⟨p1, p2, ⟨rest', p3⟩, p4, _, _⟩ := hHR.place1 hHl hs2 ⟨15, nd.kind % 2, 0⟩
      refine rplace_spec (x := ⟨15, nd.kind % 2, 0⟩) (E := E) (lenOk_of hHR.obs (by omega)) (by omega) (hO.pick 4) hR fun E' lp' ll' lc' _ hO hR' => ?_
      try dsimp only [pick1, set2, List.set] at hO
      refine ⟨_, _, _, _, _, _, rfl, ?_⟩
      refine nn_i ?_
      (refine st_i hO (k := 4) (j := 0) rfl rfl rfl trivial fun _ hO => ?_)
      (refine st_i hO (k := 4) (j := 0) rfl rfl rfl trivial fun _ hO => ?_)
      try dsimp only [pick1, set2, List.set] at hO
      exact join _ _ _ rest' E' lp' ll' lc' _ (by rw [if_pos h3]) p3 p2 hR' p4 (((((hO.pick 4).pick 2).pick 4).pick 4))
    · rw [tmod_nn h0] at h3
      exact join _ os H rest E lp ll lc _ (by rw [if_neg h3]) hHR hHl hR (by omega) hO
  · have e : ns.drop i.toNat = [] := List.drop_of_length_le (by omega)
    rw [e] at hb
    have hb : (os, ats) = buildA size ns 0 ([], []) := hb
    rw [← hb] at hK
    dsimp only at hK
    exact hK H rest r E lp ll lc _ hr hx hHR hHl hR (by omega) (by omega) hab hO
end

end Go.Proofs.Ytokpbanandikpaa

set_option maxRecDepth 100000
set_option linter.unusedVariables false
set_option linter.unusedSimpArgs false
namespace Go.Proofs.Ytokpbanandikpaa
open Go Go.V Go.Proofs
/-! ### words are written -/
def buildE (ats : List Int) (a : Int) : List Int → Int → List ROb → List ROb
  | [], _, os => os
  | e :: r, k, os => buildE ats a r (k + 1) (writeR os a k (placeN ats e)).1
def buildM (a i base : Int) : Nat → Int → List ROb → List ROb
  | 0, _, os => os
  | c + 1, k, os => buildM a i base c (k + 1) (writeR os a (base + k) (100 * i + k)).1
def buildB (ats : List Int) : List GNode → Int → List ROb → List ROb
  | [], _, os => os
  | nd :: r, i, os => buildB ats r (i + 1) (buildM ((ats[i.toNat]?).getD 0) i nd.edges.length (nd.more % 4).toNat 0 (buildE ats ((ats[i.toNat]?).getD 0) nd.edges 0 os))
theorem length_writeR (os : List ROb) (a f x : Int) : (writeR os a f x).1.length = os.length := by
  unfold writeR
  split
  · rfl
  · split
    · rfl
    · split
      · rfl
      · split
        · rfl
        · simp
theorem placeN_bound {xs : List Int} (hx : ∀ x ∈ xs, 0 ≤ x ∧ x ≤ 65536) (n : Int) : 0 ≤ placeN xs n ∧ placeN xs n ≤ 65537 := by
  unfold placeN
  split
  · omega
  · cases hy : xs[(n % ((xs.length : Int) + 1)).toNat]? with
    | none => simp
    | some y => have := hx y (List.mem_of_getElem? hy); simp; omega

/-- What stands while a graph is built. -/
structure BSt (size : Int) (os : List ROb) (H : PH) (rest : List Int) (E : List Ent) (lp : Option Addr) (ll : Nat) : Prop where
  hr : HR H os rest
  len : (H.words.length : Int) = size
  ref : RefE E lp ll os
  few : os.length ≤ 28

section
variable {w0 w : World} {Ls : List (List Ent)}

set_option maxHeartbeats 2000000 in
theorem build_l3 {g m3 q : Option Addr} {t : Sl} {n54 n55 : Int} {size i : Int} {ats es : List Int} {r : Rw} {hid : HId} {mb : Nat} {nb E0 : List Ent} {os0 : List ROb} {H0 : PH} {rest0 : List Int} {lp0 : Option Addr} {ll0 lc0 : Nat} {ep : Option Addr} {el ec : Nat} {K0 : Tup f6_l3_o6 → World → Prop}
    (hs1 : 1 ≤ size) (hs2 : size ≤ 65536) (hr : r.ok 1) (hx : r.xs = ats.map (.int .i64)) (hab : ∀ x ∈ ats, 0 ≤ x ∧ x ≤ 65536) (hal : ats.length ≤ 14) (hi0 : 0 ≤ i) (hi1 : i < ats.length) (hes : RdI w0 .u8 ep es) (hel : el = es.length) (heb : ∀ x ∈ es, 0 ≤ x ∧ x ≤ 255) (hel2 : es.length ≤ 10)
    (hB0 : BSt size os0 H0 rest0 E0 lp0 ll0) (hO : Owns w0 w (nb :: r.ent 3 :: hpE hid H0 :: [cl mb 32 [.int .i64 size, .slice lp0 ll0 lc0]] :: E0 :: Ls))
    (hK : ∀ (H : PH) (rest : List Int) (E : List Ent) (lp : Option Addr) (ll lc : Nat) w', BSt size (buildE ats ((ats[i.toNat]?).getD 0) es 0 os0) H rest E lp ll → Owns w0 w' (nb :: r.ent 3 :: hpE hid H :: [cl mb 32 [.int .i64 size, .slice lp ll lc]] :: E :: Ls) → K0 ⟨g, m3, some ⟨hid.b, 0, none⟩, some ⟨mb, 0, none⟩, ⟨r.at_, r.n, r.c⟩, i, q, t, n54, n55, ()⟩ w') :
    LoopP Pg 216 f6_l3_B f6_l3_A ⟨g, m3, some ⟨hid.b, 0, none⟩, some ⟨mb, 0, none⟩, ⟨r.at_, r.n, r.c⟩, i, q, t, n54, n55, ⟨ep, el, ec⟩, el, 0, ()⟩ w (K0, ()) := by
  let St : Int → World → Prop := fun k w => ∃ (os : List ROb) (H : PH) (rest : List Int) (E : List Ent) (lp : Option Addr) (ll lc : Nat), BSt size os H rest E lp ll ∧ buildE ats ((ats[i.toNat]?).getD 0) (es.drop k.toNat) k os = buildE ats ((ats[i.toNat]?).getD 0) es 0 os0 ∧
    Owns w0 w (nb :: r.ent 3 :: hpE hid H :: [cl mb 32 [.int .i64 size, .slice lp ll lc]] :: E :: Ls)
  let Inv : Option Addr → Option Addr → Option Addr → Option Addr → Sl → Int → Option Addr → Sl → Int → Int → Sl → Int → Int → World → Prop := fun p p' hp mp s i' q' t' m m' u l k w => g = p ∧ m3 = p' ∧ hp = some ⟨hid.b, 0, none⟩ ∧ mp = some ⟨mb, 0, none⟩ ∧ s = ⟨r.at_, r.n, r.c⟩ ∧ i = i' ∧ q = q' ∧ t = t' ∧ n54 = m ∧ n55 = m' ∧ u = ⟨ep, el, ec⟩ ∧ l = el ∧ 0 ≤ k ∧ k ≤ el ∧ St k w
  refine LoopP_intro (ann := f6_ann) follows (fun x w => Inv x.1 x.2.1 x.2.2.1 x.2.2.2.1 x.2.2.2.2.1 x.2.2.2.2.2.1 x.2.2.2.2.2.2.1 x.2.2.2.2.2.2.2.1 x.2.2.2.2.2.2.2.2.1 x.2.2.2.2.2.2.2.2.2.1 x.2.2.2.2.2.2.2.2.2.2.1 x.2.2.2.2.2.2.2.2.2.2.2.1 x.2.2.2.2.2.2.2.2.2.2.2.2.1 w) (fun x _ => (el - x.2.2.2.2.2.2.2.2.2.2.2.2.1 : Int).toNat)
    ⟨rfl, rfl, rfl, rfl, rfl, rfl, rfl, rfl, rfl, rfl, rfl, rfl, Int.le_refl 0, Int.natCast_nonneg _, os0, H0, rest0, E0, lp0, ll0, lc0, hB0, rfl, hO⟩ (fun x w h => (f6_l3_eq _ _ _ _ _ _ _ _ _ _ _ _ _ _ _ _).mpr ?_)
  suffices S : ∀ (p p' hp mp : Option Addr) (s : Sl) (i' : Int) (q' : Option Addr) (t' : Sl) (m m' : Int) (u : Sl) (l k : Int), Inv p p' hp mp s i' q' t' m m' u l k w → f6_l3 p p' hp mp s i' q' t' m m' u l k w (fun x w => Inv x.1 x.2.1 x.2.2.1 x.2.2.2.1 x.2.2.2.2.1 x.2.2.2.2.2.1 x.2.2.2.2.2.2.1 x.2.2.2.2.2.2.2.1 x.2.2.2.2.2.2.2.2.1 x.2.2.2.2.2.2.2.2.2.1 x.2.2.2.2.2.2.2.2.2.2.1 x.2.2.2.2.2.2.2.2.2.2.2.1 x.2.2.2.2.2.2.2.2.2.2.2.2.1 w ∧ (el - x.2.2.2.2.2.2.2.2.2.2.2.2.1 : Int).toNat < (el - k : Int).toNat) _ from S _ _ _ _ _ _ _ _ _ _ _ _ _ h
  clear h x hO
  rintro _ _ _ _ _ _ _ _ _ _ _ _ k ⟨rfl, rfl, rfl, rfl, rfl, rfl, rfl, rfl, rfl, rfl, rfl, rfl, h0, hi, os, H, rest, E, lp, ll, lc, hB, hb, hO⟩
  unfold f6_l3
  have hrn : r.n = ats.length := by have := hr.len; rw [hx, List.length_map] at this; omega
  refine bif_d (fun h => ?_) (fun h => ?_)
  · obtain ⟨e, he⟩ : ∃ e, es[k.toNat]? = some e := ⟨_, List.getElem?_eq_getElem (by omega)⟩
    obtain ⟨y, hy⟩ : ∃ y, ats[i.toNat]? = some y := ⟨_, List.getElem?_eq_getElem (by omega)⟩
    have hyb := hab y (List.mem_of_getElem? hy)
    rw [hy] at hb hK
    dsimp only [Option.getD_some] at hb hK
    have hdrop : es.drop k.toNat = e :: es.drop (k.toNat + 1) := by
      obtain ⟨hl, he⟩ := List.getElem?_eq_some_iff.1 he
      rw [List.drop_eq_getElem_cons hl, he]
    rw [hdrop] at hb
    obtain ⟨ea, rfl, hec⟩ := hes _ _ he
    rw [Int.toNat_of_nonneg h0] at hec
    have heb' := heb e (List.mem_of_getElem? he)
    have hpb := placeN_bound hab e
    refine ⟨h0, h, ?_⟩
    refine nn_i ?_
    refine LK_i (hO.cell0 hec) ?_
    obtain ⟨ra, hra, hrc⟩ := Rw.rdI (hO.has 1 rfl) hr hx _ _ hy
    rw [Int.toNat_of_nonneg hi0] at hrc
    refine ⟨hi0, by show i < ((r.n : Nat) : Int); omega, ?_⟩
    have hra' : (⟨r.at_, r.n, r.c⟩ : Sl).at_ = some ra := hra
    rw [hra']
    refine nn_i ?_
    refine LI_i hrc ?_
    rw [← hra']
    refine place_spec' (xs := ats) heb' hrn (by omega) (fun x hx => by have := hab x hx; omega) (Rw.rdI (hO.has 1 rfl) hr hx) ?_
    refine ⟨_, rfl, Old.refl _, ?_⟩
    have hok := hB.hr.ok (by have := hB.len; omega) (by have := hB.len; omega)
    refine write_spec (i := hid) (H := H) hok hB.hr.fit (by omega) (by omega) (hO.drew.pick 2) fun _ hO => ?_
    try dsimp only [pick1, set2, List.set] at hO
    refine ⟨_, rfl, ?_⟩
    replace hO := hO.drew
    refine nn_i ?_
    (refine ⟨_, _, _, _, (by (refine ca_i hO (k := 3) (j := 0) rfl rfl)), rfl, ?_⟩)
    refine ⟨hi0, by show i < ((r.n : Nat) : Int); omega, ?_⟩
    obtain ⟨ra, hra, hrc⟩ := Rw.rdI (hO.has 2 rfl) hr hx _ _ hy
    rw [Int.toNat_of_nonneg hi0] at hrc
    have hra' : (⟨r.at_, r.n, r.c⟩ : Sl).at_ = some ra := hra
    rw [hra']
    refine nn_i ?_
    refine LI_i hrc ?_
    rw [← hra']
    refine place_spec' (xs := ats) heb' hrn (by omega) (fun x hx => by have := hab x hx; omega) (Rw.rdI (hO.has 2 rfl) hr hx) ?_
    refine ⟨_, rfl, Old.refl _, ?_⟩
    obtain ⟨p1, p2, p3⟩ := hB.hr.write y k (placeN ats e)
    refine rwrite_spec (E := E) (by omega) (by omega) (lenOk_of hB.hr.obs (by have := hB.few; omega)) (wsOk_of hB.hr.obs) (hO.pick 4) hB.ref fun E' lp' ll' lc' _ hO hR' => ?_
    try dsimp only [pick1, set2, List.set] at hO
    refine ⟨_, _, _, _, _, rfl, ?_⟩
    refine nn_i ?_
    (refine st_i hO (k := 4) (j := 0) rfl rfl rfl trivial fun _ hO => ?_)
    (refine st_i hO (k := 4) (j := 0) rfl rfl rfl trivial fun _ hO => ?_)
    try dsimp only [pick1, set2, List.set] at hO
    have e5 : IntKind.wrap .i64 (k + 1) = k + 1 := wrap64 (by omega) (by omega)
    rw [e5]
    refine ⟨⟨rfl, rfl, rfl, rfl, rfl, rfl, rfl, rfl, rfl, rfl, rfl, rfl, ?_, ?_, _, _, rest, E', lp', ll', lc', ⟨p2, by rw [p3]; exact hB.len, hR', by rw [length_writeR]; exact hB.few⟩, ?_, ?_⟩, ?_⟩
    · show (0 : Int) ≤ k + 1; omega
    · show k + 1 ≤ (el : Int); omega
    · show buildE ats _ (es.drop (k + 1).toNat) (k + 1) _ = _
      rw [show (k + 1).toNat = k.toNat + 1 by omega, hy]
      exact hb
    · exact (((((hO.pick 4).pick 2).pick 4).pick 4))
    · show (el - (k + 1) : Int).toNat < (el - k : Int).toNat; omega
  · have e : es.drop k.toNat = [] := List.drop_of_length_le (by omega)
    rw [e] at hb
    have hb : os = buildE ats ((ats[i.toNat]?).getD 0) es 0 os0 := hb
    rw [← hb] at hK
    exact hK H rest E lp ll lc _ hB hO
end

end Go.Proofs.Ytokpbanandikpaa

set_option maxRecDepth 100000
set_option linter.unusedVariables false
set_option linter.unusedSimpArgs false
namespace Go.Proofs.Ytokpbanandikpaa
open Go Go.V Go.Proofs
/-! ### the other words -/
section
variable {w0 w : World} {Ls : List (List Ent)}

set_option maxHeartbeats 2000000 in
theorem build_l4 {g m3 : Option Addr} {t : Sl} {n54 n55 : Int} {size i cnt : Int} {ats : List Int} {r : Rw} {hid : HId} {mb bn : Nat} {kd md : Int} {E0 : List Ent} {os0 : List ROb} {H0 : PH} {rest0 : List Int} {lp0 : Option Addr} {ll0 lc0 : Nat} {ep : Option Addr} {el ec : Nat} {K0 : Tup f6_l4_o8 → World → Prop}
    (hs1 : 1 ≤ size) (hs2 : size ≤ 65536) (hr : r.ok 1) (hx : r.xs = ats.map (.int .i64)) (hab : ∀ x ∈ ats, 0 ≤ x ∧ x ≤ 65536) (hal : ats.length ≤ 14) (hi0 : 0 ≤ i) (hi1 : i < ats.length) (hel2 : el ≤ 10) (hc0 : 0 ≤ cnt) (hc1 : cnt ≤ 3)
    (hB0 : BSt size os0 H0 rest0 E0 lp0 ll0) (hO : Owns w0 w ([cl bn 58 [.int .u8 kd, .slice ep el ec, .int .u8 md]] :: r.ent 3 :: hpE hid H0 :: [cl mb 32 [.int .i64 size, .slice lp0 ll0 lc0]] :: E0 :: Ls))
    (hK : ∀ (H : PH) (rest : List Int) (E : List Ent) (lp : Option Addr) (ll lc : Nat) w', BSt size (buildM ((ats[i.toNat]?).getD 0) i el cnt.toNat 0 os0) H rest E lp ll → Owns w0 w' ([cl bn 58 [.int .u8 kd, .slice ep el ec, .int .u8 md]] :: r.ent 3 :: hpE hid H :: [cl mb 32 [.int .i64 size, .slice lp ll lc]] :: E :: Ls) → K0 ⟨g, m3, some ⟨hid.b, 0, none⟩, some ⟨mb, 0, none⟩, ⟨r.at_, r.n, r.c⟩, t, n54, n55, ()⟩ w') :
    LoopP Pg 216 f6_l4_B f6_l4_A ⟨g, m3, some ⟨hid.b, 0, none⟩, some ⟨mb, 0, none⟩, ⟨r.at_, r.n, r.c⟩, i, some ⟨bn, 0, none⟩, t, n54, n55, cnt, 0, ()⟩ w (K0, ()) := by
  let St : Int → World → Prop := fun k w => ∃ (os : List ROb) (H : PH) (rest : List Int) (E : List Ent) (lp : Option Addr) (ll lc : Nat), BSt size os H rest E lp ll ∧ buildM ((ats[i.toNat]?).getD 0) i el (cnt - k).toNat k os = buildM ((ats[i.toNat]?).getD 0) i el cnt.toNat 0 os0 ∧
    Owns w0 w ([cl bn 58 [.int .u8 kd, .slice ep el ec, .int .u8 md]] :: r.ent 3 :: hpE hid H :: [cl mb 32 [.int .i64 size, .slice lp ll lc]] :: E :: Ls)
  let Inv : Option Addr → Option Addr → Option Addr → Option Addr → Sl → Int → Option Addr → Sl → Int → Int → Int → Int → World → Prop := fun p p' hp mp s i' q t' m m' l k w => g = p ∧ m3 = p' ∧ hp = some ⟨hid.b, 0, none⟩ ∧ mp = some ⟨mb, 0, none⟩ ∧ s = ⟨r.at_, r.n, r.c⟩ ∧ i = i' ∧ q = some ⟨bn, 0, none⟩ ∧ t = t' ∧ n54 = m ∧ n55 = m' ∧ cnt = l ∧ 0 ≤ k ∧ k ≤ cnt ∧ St k w
  refine LoopP_intro (ann := f6_ann) follows (fun x w => Inv x.1 x.2.1 x.2.2.1 x.2.2.2.1 x.2.2.2.2.1 x.2.2.2.2.2.1 x.2.2.2.2.2.2.1 x.2.2.2.2.2.2.2.1 x.2.2.2.2.2.2.2.2.1 x.2.2.2.2.2.2.2.2.2.1 x.2.2.2.2.2.2.2.2.2.2.1 x.2.2.2.2.2.2.2.2.2.2.2.1 w) (fun x _ => (cnt - x.2.2.2.2.2.2.2.2.2.2.2.1 : Int).toNat)
    ⟨rfl, rfl, rfl, rfl, rfl, rfl, rfl, rfl, rfl, rfl, rfl, Int.le_refl 0, hc0, os0, H0, rest0, E0, lp0, ll0, lc0, hB0, by rw [Int.sub_zero], hO⟩ (fun x w h => (f6_l4_eq _ _ _ _ _ _ _ _ _ _ _ _ _ _ _).mpr ?_)
  suffices S : ∀ (p p' hp mp : Option Addr) (s : Sl) (i' : Int) (q' : Option Addr) (t' : Sl) (m m' : Int) (l k : Int), Inv p p' hp mp s i' q' t' m m' l k w → f6_l4 p p' hp mp s i' q' t' m m' l k w (fun x w => Inv x.1 x.2.1 x.2.2.1 x.2.2.2.1 x.2.2.2.2.1 x.2.2.2.2.2.1 x.2.2.2.2.2.2.1 x.2.2.2.2.2.2.2.1 x.2.2.2.2.2.2.2.2.1 x.2.2.2.2.2.2.2.2.2.1 x.2.2.2.2.2.2.2.2.2.2.1 x.2.2.2.2.2.2.2.2.2.2.2.1 w ∧ (cnt - x.2.2.2.2.2.2.2.2.2.2.2.1 : Int).toNat < (cnt - k : Int).toNat) _ from S _ _ _ _ _ _ _ _ _ _ _ _ h
  clear h x hO
  rintro _ _ _ _ _ _ _ _ _ _ _ k ⟨rfl, rfl, rfl, rfl, rfl, rfl, rfl, rfl, rfl, rfl, rfl, h0, hi, os, H, rest, E, lp, ll, lc, hB, hb, hO⟩
  unfold f6_l4
  have hrn : r.n = ats.length := by have := hr.len; rw [hx, List.length_map] at this; omega
  refine bif_d (fun h => ?_) (fun h => ?_)
  · obtain ⟨y, hy⟩ : ∃ y, ats[i.toNat]? = some y := ⟨_, List.getElem?_eq_getElem (by omega)⟩
    have hyb := hab y (List.mem_of_getElem? hy)
    rw [hy] at hb hK
    dsimp only [Option.getD_some] at hb hK
    rw [show (cnt - k).toNat = (cnt - (k + 1)).toNat + 1 by omega] at hb
    obtain ⟨ra, hra, hrc⟩ := Rw.rdI (hO.has 1 rfl) hr hx _ _ hy
    rw [Int.toNat_of_nonneg hi0] at hrc
    refine ⟨hi0, by show i < ((r.n : Nat) : Int); omega, ?_⟩
    have hra' : (⟨r.at_, r.n, r.c⟩ : Sl).at_ = some ra := hra
    rw [hra']
    refine nn_i ?_
    refine LI_i hrc ?_
    rw [← hra']
    replace hO := hO.drew
    refine nn_i ?_
    (refine ls_i hO (k := 0) (j := 0) rfl rfl rfl ?_)
    have e1 : IntKind.wrap .i64 (((el : Nat) : Int) + k) = el + k := wrap64 (by omega) (by omega)
    have e2 : IntKind.wrap .i64 (100 * i) = 100 * i := wrap64 (by omega) (by omega)
    have e3 : IntKind.wrap .i64 (100 * i + k) = 100 * i + k := wrap64 (by omega) (by omega)
    rw [e1, e2, e3]
    have hok := hB.hr.ok (by have := hB.len; omega) (by have := hB.len; omega)
    refine write_spec (i := hid) (H := H) hok hB.hr.fit (by omega) (by omega) (hO.pick 2) fun _ hO => ?_
    try dsimp only [pick1, set2, List.set] at hO
    refine ⟨_, rfl, ?_⟩
    replace hO := hO.drew
    refine nn_i ?_
    (refine ⟨_, _, _, _, (by (refine ca_i hO (k := 3) (j := 0) rfl rfl)), rfl, ?_⟩)
    refine ⟨hi0, by show i < ((r.n : Nat) : Int); omega, ?_⟩
    obtain ⟨ra, hra, hrc⟩ := Rw.rdI (hO.has 2 rfl) hr hx _ _ hy
    rw [Int.toNat_of_nonneg hi0] at hrc
    have hra' : (⟨r.at_, r.n, r.c⟩ : Sl).at_ = some ra := hra
    rw [hra']
    refine nn_i ?_
    refine LI_i hrc ?_
    rw [← hra']
    refine nn_i ?_
    (refine ls_i hO (k := 1) (j := 0) rfl rfl rfl ?_)
    rw [e1]
    obtain ⟨p1, p2, p3⟩ := hB.hr.write y (el + k) (100 * i + k)
    refine rwrite_spec (E := E) (by omega) (by omega) (lenOk_of hB.hr.obs (by have := hB.few; omega)) (wsOk_of hB.hr.obs) (hO.pick 4) hB.ref fun E' lp' ll' lc' _ hO hR' => ?_
    try dsimp only [pick1, set2, List.set] at hO
    refine ⟨_, _, _, _, _, rfl, ?_⟩
    refine nn_i ?_
    (refine st_i hO (k := 4) (j := 0) rfl rfl rfl trivial fun _ hO => ?_)
    (refine st_i hO (k := 4) (j := 0) rfl rfl rfl trivial fun _ hO => ?_)
    try dsimp only [pick1, set2, List.set] at hO
    have e5 : IntKind.wrap .i64 (k + 1) = k + 1 := wrap64 (by omega) (by omega)
    rw [e5]
    refine ⟨⟨rfl, rfl, rfl, rfl, rfl, rfl, rfl, rfl, rfl, rfl, rfl, ?_, ?_, _, _, rest, E', lp', ll', lc', ⟨p2, by rw [p3]; exact hB.len, hR', by rw [length_writeR]; exact hB.few⟩, ?_, ?_⟩, ?_⟩
    · show (0 : Int) ≤ k + 1; omega
    · show k + 1 ≤ cnt; omega
    · rw [hy]
      exact hb
    · exact (((((hO.pick 4).pick 2).pick 4).pick 4))
    · show (cnt - (k + 1) : Int).toNat < (cnt - k : Int).toNat; omega
  · rw [show (cnt - k).toNat = 0 by omega] at hb
    have hb : os = buildM ((ats[i.toNat]?).getD 0) i el cnt.toNat 0 os0 := hb
    rw [← hb] at hK
    exact hK H rest E lp ll lc _ hB hO
end

end Go.Proofs.Ytokpbanandikpaa

set_option maxRecDepth 100000
set_option linter.unusedVariables false
set_option linter.unusedSimpArgs false
namespace Go.Proofs.Ytokpbanandikpaa
open Go Go.V Go.Proofs
/-! ### all words; the roots -/
section
variable {w0 w : World} {Ls : List (List Ent)}

set_option maxHeartbeats 2000000 in
theorem build_l2 {g m3 : Option Addr} {np : Option Addr} {nl nc : Nat} {size : Int} {ns : List GNode} {ats : List Int} {r : Rw} {hid : HId} {mb : Nat} {E0 : List Ent} {os0 : List ROb} {H0 : PH} {rest0 : List Int} {lp0 : Option Addr} {ll0 lc0 : Nat} {K0 : Tup f6_l2_o4 → World → Prop}
    (hin : InNodes w0 np ns) (hnl : nl = ns.length) (hns : ∀ nd ∈ ns, nd.ok) (hlen : ns.length ≤ 14) (hs1 : 1 ≤ size) (hs2 : size ≤ 65536) (hr : r.ok 1) (hx : r.xs = ats.map (.int .i64)) (hab : ∀ x ∈ ats, 0 ≤ x ∧ x ≤ 65536) (hal : ats.length = ns.length)
    (hB0 : BSt size os0 H0 rest0 E0 lp0 ll0) (hO : Owns w0 w (r.ent 3 :: hpE hid H0 :: [cl mb 32 [.int .i64 size, .slice lp0 ll0 lc0]] :: E0 :: Ls))
    (hK : ∀ (H : PH) (rest : List Int) (E : List Ent) (lp : Option Addr) (ll lc : Nat) w', BSt size (buildB ats ns 0 os0) H rest E lp ll → Owns w0 w' (r.ent 3 :: hpE hid H :: [cl mb 32 [.int .i64 size, .slice lp ll lc]] :: E :: Ls) → K0 ⟨g, m3, some ⟨hid.b, 0, none⟩, some ⟨mb, 0, none⟩, ⟨r.at_, r.n, r.c⟩, ()⟩ w') :
    LoopP Pg 216 f6_l2_B f6_l2_A ⟨g, m3, some ⟨hid.b, 0, none⟩, some ⟨mb, 0, none⟩, ⟨r.at_, r.n, r.c⟩, ⟨np, nl, nc⟩, nl, 0, ()⟩ w (K0, ()) := by
  let St : Int → World → Prop := fun i w => ∃ (os : List ROb) (H : PH) (rest : List Int) (E : List Ent) (lp : Option Addr) (ll lc : Nat), BSt size os H rest E lp ll ∧ buildB ats (ns.drop i.toNat) i os = buildB ats ns 0 os0 ∧
    Owns w0 w (r.ent 3 :: hpE hid H :: [cl mb 32 [.int .i64 size, .slice lp ll lc]] :: E :: Ls)
  let Inv : Option Addr → Option Addr → Option Addr → Option Addr → Sl → Sl → Int → Int → World → Prop := fun p q hp mp s t m i w => g = p ∧ m3 = q ∧ hp = some ⟨hid.b, 0, none⟩ ∧ mp = some ⟨mb, 0, none⟩ ∧ s = ⟨r.at_, r.n, r.c⟩ ∧ t = ⟨np, nl, nc⟩ ∧ m = nl ∧ 0 ≤ i ∧ i ≤ nl ∧ St i w
  refine LoopP_intro (ann := f6_ann) follows (fun x w => Inv x.1 x.2.1 x.2.2.1 x.2.2.2.1 x.2.2.2.2.1 x.2.2.2.2.2.1 x.2.2.2.2.2.2.1 x.2.2.2.2.2.2.2.1 w) (fun x _ => (nl - x.2.2.2.2.2.2.2.1 : Int).toNat)
    ⟨rfl, rfl, rfl, rfl, rfl, rfl, rfl, Int.le_refl 0, Int.natCast_nonneg _, os0, H0, rest0, E0, lp0, ll0, lc0, hB0, rfl, hO⟩ (fun x w h => (f6_l2_eq _ _ _ _ _ _ _ _ _ _ _).mpr ?_)
  suffices S : ∀ (p q hp mp : Option Addr) (s t : Sl) (m i : Int), Inv p q hp mp s t m i w → f6_l2 p q hp mp s t m i w (fun x w => Inv x.1 x.2.1 x.2.2.1 x.2.2.2.1 x.2.2.2.2.1 x.2.2.2.2.2.1 x.2.2.2.2.2.2.1 x.2.2.2.2.2.2.2.1 w ∧ (nl - x.2.2.2.2.2.2.2.1 : Int).toNat < (nl - i : Int).toNat) _ from S _ _ _ _ _ _ _ _ h
  clear h x hO
  rintro _ _ _ _ _ _ _ i ⟨rfl, rfl, rfl, rfl, rfl, rfl, rfl, h0, hi, os, H, rest, E, lp, ll, lc, hB, hb, hO⟩
  unfold f6_l2
  refine bif_d (fun h => ?_) (fun h => ?_)
  · obtain ⟨nd, hnd⟩ : ∃ nd, ns[i.toNat]? = some nd := ⟨_, List.getElem?_eq_getElem (by omega)⟩
    obtain ⟨a, ep, ec, rfl, c0, c1, c2, c3⟩ := hin _ _ hnd
    rw [Int.toNat_of_nonneg h0] at c0 c1 c2
    have ok := hns nd (List.mem_of_getElem? hnd)
    have := ok.m0
    have hdrop : ns.drop i.toNat = nd :: ns.drop (i.toNat + 1) := by
      obtain ⟨hl, he⟩ := List.getElem?_eq_some_iff.1 hnd
      rw [List.drop_eq_getElem_cons hl, he]
    rw [hdrop] at hb
    refine ⟨h0, h, ?_⟩
    refine nn_i ?_
    refine ⟨nd.kind, ep, nd.edges.length, ec, nd.more, ⟨hO.cell0 c0, hO.cell0 c1, hO.cell0 c2, trivial⟩, rfl, ?_⟩
    refine new_i hO fun _ _ hO => ?_
    (refine st_i hO (k := 0) (j := 0) rfl rfl rfl trivial fun _ hO => ?_)
    (refine st_i hO (k := 0) (j := 0) rfl rfl rfl trivial fun _ hO => ?_)
    (refine st_i hO (k := 0) (j := 0) rfl rfl rfl trivial fun _ hO => ?_)
    try dsimp only [pick1, set2, List.set] at hO
    (refine ls_i hO (k := 0) (j := 0) rfl rfl rfl ?_)
    refine build_l3 (g := g) (m3 := m3) hs1 hs2 hr hx hab (by omega) h0 (by omega) c3 rfl ok.e ok.el hB hO fun H1 rest1 E1 lp1 ll1 lc1 w1 hB1 hO => ?_
    show f6_j4 g m3 (some ⟨hid.b, 0, none⟩) (some ⟨mb, 0, none⟩) r.at_ r.n r.c i _ (some a) nl nc nl i w1 _ _
    unfold f6_j4
    refine nn_i ?_
    (refine lk_i hO (k := 0) (j := 0) rfl rfl rfl ?_)
    have e2 : IntKind.wrap .i64 (Int.tmod nd.more 4) = nd.more % 4 := by rw [tmod_nn ok.m0]; exact wrap64 (by omega) (by omega)
    rw [e2]
    refine build_l4 (g := g) (m3 := m3) hs1 hs2 hr hx hab (by omega) h0 (by omega) ok.el (by omega) (by omega) hB1 hO fun H2 rest2 E2 lp2 ll2 lc2 w2 hB2 hO => ?_
    have e5 : IntKind.wrap .i64 (i + 1) = i + 1 := wrap64 (by omega) (by omega)
    show Inv g m3 (some ⟨hid.b, 0, none⟩) (some ⟨mb, 0, none⟩) ⟨r.at_, r.n, r.c⟩ ⟨some a, nl, nc⟩ nl (IntKind.wrap .i64 (i + 1)) w2 ∧ (nl - IntKind.wrap .i64 (i + 1) : Int).toNat < (nl - i : Int).toNat
    rw [e5]
    refine ⟨⟨rfl, rfl, rfl, rfl, rfl, rfl, rfl, by omega, by omega, _, H2, rest2, E2, lp2, ll2, lc2, hB2, ?_, hO.drop⟩, by omega⟩
    rw [show (i + 1).toNat = i.toNat + 1 by omega]
    exact hb
  · have e : ns.drop i.toNat = [] := List.drop_of_length_le (by omega)
    rw [e] at hb
    have hb : os = buildB ats ns 0 os0 := hb
    rw [← hb] at hK
    exact hK H rest E lp ll lc _ hB hO

theorem build_l5 {m3 hp mp : Option Addr} {rp : Option Addr} {rl rc : Nat} {rs ats : List Int} {r : Rw} {K0 : Tup f6_l5_o10 → World → Prop}
    (hin : RdI w0 .u8 rp rs) (hrl : rl = rs.length) (hrs : ∀ x ∈ rs, 0 ≤ x ∧ x ≤ 255) (hlen : rs.length ≤ 14) (hr : r.ok 1) (hx : r.xs = ats.map (.int .i64)) (hab : ∀ x ∈ ats, 0 ≤ x ∧ x ≤ 65536) (hal : ats.length ≤ 14) (hO : Owns w0 w (r.ent 3 :: Ls))
    (hK : ∀ (q : Rw) w', q.ok 1 → q.xs = (rs.map (placeN ats)).map (.int .i64) → Owns w0 w' (q.ent 3 :: r.ent 3 :: Ls) → K0 ⟨m3, hp, mp, ⟨q.at_, q.n, q.c⟩, ()⟩ w') :
    LoopP Pg 216 f6_l5_B f6_l5_A ⟨m3, hp, mp, ⟨r.at_, r.n, r.c⟩, ⟨none, 0, 0⟩, ⟨rp, rl, rc⟩, rl, 0, ()⟩ w (K0, ()) := by
  let St : Sl → Int → World → Prop := fun s i w => ∃ q : Rw, s = ⟨q.at_, q.n, q.c⟩ ∧ q.ok 1 ∧ q.xs = ((rs.take i.toNat).map (placeN ats)).map (.int .i64) ∧ Owns w0 w (q.ent 3 :: r.ent 3 :: Ls)
  let Inv : Option Addr → Option Addr → Option Addr → Sl → Sl → Sl → Int → Int → World → Prop := fun a b c s u t m i w => m3 = a ∧ hp = b ∧ mp = c ∧ s = ⟨r.at_, r.n, r.c⟩ ∧ t = ⟨rp, rl, rc⟩ ∧ m = rl ∧ 0 ≤ i ∧ i ≤ rl ∧ St u i w
  refine LoopP_intro (ann := f6_ann) follows (fun x w => Inv x.1 x.2.1 x.2.2.1 x.2.2.2.1 x.2.2.2.2.1 x.2.2.2.2.2.1 x.2.2.2.2.2.2.1 x.2.2.2.2.2.2.2.1 w) (fun x _ => (rl - x.2.2.2.2.2.2.2.1 : Int).toNat)
    ⟨rfl, rfl, rfl, rfl, rfl, rfl, Int.le_refl 0, Int.natCast_nonneg _, Rw.none_, rfl, Rw.none_ok, rfl, hO.perm (.refl _)⟩ (fun x w h => (f6_l5_eq _ _ _ _ _ _ _ _ _ _ _).mpr ?_)
  suffices S : ∀ (a b c : Option Addr) (s u t : Sl) (m i : Int), Inv a b c s u t m i w → f6_l5 a b c s u t m i w (fun x w => Inv x.1 x.2.1 x.2.2.1 x.2.2.2.1 x.2.2.2.2.1 x.2.2.2.2.2.1 x.2.2.2.2.2.2.1 x.2.2.2.2.2.2.2.1 w ∧ (rl - x.2.2.2.2.2.2.2.1 : Int).toNat < (rl - i : Int).toNat) _ from S _ _ _ _ _ _ _ _ h
  clear h x hO
  rintro _ _ _ _ _ _ _ i ⟨rfl, rfl, rfl, rfl, rfl, rfl, h0, hi, q, rfl, hq, hqx, hO⟩
  unfold f6_l5
  have hrn : r.n = ats.length := by have := hr.len; rw [hx, List.length_map] at this; omega
  refine bif_d (fun h => ?_) (fun h => ?_)
  · obtain ⟨e, he⟩ : ∃ e, rs[i.toNat]? = some e := ⟨_, List.getElem?_eq_getElem (by omega)⟩
    obtain ⟨ea, rfl, hec⟩ := hin _ _ he
    rw [Int.toNat_of_nonneg h0] at hec
    have heb' := hrs e (List.mem_of_getElem? he)
    refine ⟨h0, h, ?_⟩
    refine nn_i ?_
    refine LK_i (hO.cell0 hec) ?_
    refine place_spec' (xs := ats) heb' hrn (by omega) (fun x hx => by have := hab x hx; omega) (Rw.rdI (hO.has 1 rfl) hr hx) ?_
    refine ⟨_, rfl, ?_⟩
    refine new_i hO fun ba _ hO => ?_
    have hqn : q.n = i.toNat := by have := hq.len; rw [hqx] at this; simp at this; omega
    refine apInt (r := q) (m := 1) (news := [.int .i64 (placeN ats e)]) (hO.pick 1) hq rfl (fun h => by cases h) (fun a ha j u hu => by cases ha; rw [add_mk, Nat.zero_add, (hO.row 0 0 rfl).cell]; exact hu) (by simp [Value.oneCell']) (by omega) ?_
    intro q2 w2 hq2 hx2 hn2 hO _
    try dsimp only [pick1, set2, List.set] at hO
    have e5 : IntKind.wrap .i64 (i + 1) = i + 1 := wrap64 (by omega) (by omega)
    show Inv _ _ _ ⟨r.at_, r.n, r.c⟩ ⟨q2.at_, q2.n, q2.c⟩ ⟨some ea, rl, rc⟩ rl (IntKind.wrap .i64 (i + 1)) w2 ∧ (rl - IntKind.wrap .i64 (i + 1) : Int).toNat < (rl - i : Int).toNat
    rw [e5]
    refine ⟨⟨rfl, rfl, rfl, rfl, rfl, rfl, by omega, by omega, q2, rfl, hq2, ?_, hO.cut 1 1⟩, by omega⟩
    rw [hx2, hqx, show (i + 1).toNat = i.toNat + 1 by omega]
    obtain ⟨hl, he'⟩ := List.getElem?_eq_some_iff.1 he
    rw [List.take_succ_eq_append_getElem hl, he']
    simp
  · have e : rs.take i.toNat = rs := List.take_of_length_le (by omega)
    rw [e] at hqx
    exact hK q _ hq hqx hO
end

end Go.Proofs.Ytokpbanandikpaa

set_option maxRecDepth 100000
set_option linter.unusedVariables false
set_option linter.unusedSimpArgs false
namespace Go.Proofs.Ytokpbanandikpaa
open Go Go.V Go.Proofs
/-! ### a graph's heap -/
def bSize (ns : List GNode) (room : Int) : Int := 1 + room + sizeN ns
def bAts (ns : List GNode) (room : Int) : List Int := (buildA (bSize ns room) ns 0 ([], [])).2
def bObs (ns : List GNode) (room : Int) : List ROb := buildB (bAts ns room) ns 0 (buildA (bSize ns room) ns 0 ([], [])).1

section
variable {w0 w : World} {Ls : List (List Ent)} {K : Value → World → Prop}

set_option maxHeartbeats 2000000 in
theorem build_spec {np rp : Option Addr} {nl nc rl rc : Nat} {ns : List GNode} {rs : List Int} {room : Int} (hin : InNodes w0 np ns) (hnl : nl = ns.length) (hns : ∀ nd ∈ ns, nd.ok) (hlen : ns.length ≤ 14) (hrin : RdI w0 .u8 rp rs) (hrl : rl = rs.length) (hrs : ∀ x ∈ rs, 0 ≤ x ∧ x ≤ 255) (hrlen : rs.length ≤ 14) (hr0 : 0 ≤ room) (hr1 : room ≤ 90)
    (hO : Owns w0 w Ls)
    (hK : ∀ (hid : HId) (H : PH) (rest : List Int) (E : List Ent) (lp : Option Addr) (ll lc : Nat) (q : Rw) w', BSt (bSize ns room) (bObs ns room) H rest E lp ll → (bAts ns room).length = ns.length → (∀ x ∈ bAts ns room, 0 ≤ x ∧ x ≤ 65536) → q.ok 1 → q.xs = (rs.map (placeN (bAts ns room))).map (.int .i64) → Owns w0 w' (q.ent 3 :: hpE hid H :: E :: Ls) →
      K (.tuple ⟨[hpP hid, .slice q.at_ q.n q.c, .agg ⟨[.int .i64 (bSize ns room), .slice lp ll lc]⟩]⟩) w') :
    Ret Pg 6 [.agg ⟨[.slice np nl nc, .slice rp rl rc]⟩, .int .i64 room] w K := by
  refine f6_ret ?_
  unfold f6
  have hsb := sizeN_bound hns
  refine new_i hO fun b1 _ hO => ?_
  refine new_i hO fun b2 _ hO => ?_
  (refine ls_i hO (k := 1) (j := 0) rfl rfl rfl ?_)
  have e1 : IntKind.wrap .i64 (1 + room) = 1 + room := wrap64 (by omega) (by omega)
  rw [e1]
  refine build_l0 (g := some ⟨b1, 0, none⟩) (m3 := some ⟨b2, 0, none⟩) hin hnl hns hlen (by omega) hO fun w1 hO => ?_
  show f6_j1 (some ⟨b1, 0, none⟩) (some ⟨b2, 0, none⟩) (bSize ns room) w1 K
  unfold f6_j1
  have hs1 : 1 ≤ bSize ns room := by unfold bSize; omega
  have hs2 : bSize ns room ≤ 65536 := by unfold bSize; omega
  refine new_spec hs1 hs2 hO fun hid w2 hO => ?_
  refine ⟨_, _, rfl, ?_⟩
  refine new_i hO fun mb _ hO => ?_
  (refine st_i hO (k := 0) (j := 0) rfl rfl rfl trivial fun _ hO => ?_)
  (refine st_i hO (k := 0) (j := 0) rfl rfl rfl trivial fun _ hO => ?_)
  refine nn_i ?_
  (refine ls_i hO (k := 3) (j := 0) rfl rfl rfl ?_)
  try dsimp only [pick1, set2, List.set] at hO
  refine build_l1 (g := some ⟨b1, 0, none⟩) (m3 := some ⟨b2, 0, none⟩) (hid := hid) (mb := mb) (size := bSize ns room) (H0 := PH.new (bSize ns room).toNat) (E0 := []) hin hnl hns hlen hs1 hs2 ⟨_, HR.new _⟩ (by simp [PH.new]; omega) (hO.pick 1) fun H rest r E lp ll lc w3 hr hx hHR hHl hR hfew hal hab hO => ?_
  show f6_j3 (some ⟨b1, 0, none⟩) (some ⟨b2, 0, none⟩) (some ⟨hid.b, 0, none⟩) (some ⟨mb, 0, none⟩) r.at_ r.n r.c w3 K
  unfold f6_j3
  refine nn_i ?_
  (refine ls_i hO (k := 5) (j := 0) rfl rfl rfl ?_)
  refine build_l2 (g := some ⟨b1, 0, none⟩) (m3 := some ⟨b2, 0, none⟩) (ats := bAts ns room) hin hnl hns hlen hs1 hs2 hr hx hab hal ⟨hHR, hHl, hR, hfew⟩ hO fun H2 rest2 E2 lp2 ll2 lc2 w4 hB2 hO => ?_
  show f6_j5 (some ⟨b1, 0, none⟩) (some ⟨b2, 0, none⟩) (some ⟨hid.b, 0, none⟩) (some ⟨mb, 0, none⟩) r.at_ r.n r.c w4 K
  unfold f6_j5
  refine nn_i ?_
  (refine ls_i hO (k := 5) (j := 0) rfl rfl rfl ?_)
  refine build_l5 (m3 := some ⟨b2, 0, none⟩) (hp := some ⟨hid.b, 0, none⟩) (mp := some ⟨mb, 0, none⟩) hrin hrl hrs hrlen hr hx hab (by unfold bAts at *; omega) hO fun q w5 hq hqx hO => ?_
  replace hO := hO.drew
  refine nn_i ?_
  (refine ⟨_, _, _, _, (by (refine ca_i hO (k := 3) (j := 0) rfl rfl)), rfl, ?_⟩)
  refine nn_i ?_
  (refine st_i hO (k := 5) (j := 0) rfl rfl rfl trivial fun _ hO => ?_)
  (refine st_i hO (k := 5) (j := 0) rfl rfl rfl trivial fun _ hO => ?_)
  refine nn_i ?_
  (refine ⟨_, _, _, _, (by (refine ca_i hO (k := 5) (j := 0) rfl rfl)), rfl, ?_⟩)
  refine hK hid H2 rest2 E2 lp2 ll2 lc2 q _ hB2 hal hab hq hqx ?_
  try dsimp only [pick1, set2, List.set] at hO
  exact (((((hO.pick 4).pick 3).pick 2).cut 3 4))
end

end Go.Proofs.Ytokpbanandikpaa

set_option maxRecDepth 100000
set_option linter.unusedVariables false
set_option linter.unusedSimpArgs false
namespace Go.Proofs.Ytokpbanandikpaa
open Go Go.V Go.Proofs
/-! ### a graph that isn't great -/
def fewG (ns : List GNode) (rl : Nat) : Bool := decide ((∀ nd ∈ ns, nd.edges.length ≤ 10) ∧ ns.length ≤ 14 ∧ rl ≤ 14)
section
variable {w : World} {K : Value → World → Prop}
theorem few_spec {np rp : Option Addr} {nl nc rl rc : Nat} {ns : List GNode} (hin : InNodes w np ns) (hnl : nl = ns.length) (hbig : ns.length ≤ 9223372036854775807) (hK : ∀ w', Old w w' → K (.bool (fewG ns rl)) w') : Ret Pg 5 [.agg ⟨[.slice np nl nc, .slice rp rl rc]⟩] w K := by
  refine f5_ret ?_
  have hO := Owns.start (w := w)
  unfold f5
  refine new_i hO fun b1 w1 hO => ?_
  (refine ls_i hO (k := 0) (j := 0) rfl rfl rfl ?_)
  let Inv : Option Addr → Sl → Int → Int → World → Prop := fun p s m i w' => p = some ⟨b1, 0, none⟩ ∧ s = ⟨np, nl, nc⟩ ∧ m = nl ∧ 0 ≤ i ∧ i ≤ nl ∧ (∀ nd ∈ ns.take i.toNat, nd.edges.length ≤ 10) ∧ Owns w w' [[cl b1 25 [.slice np nl nc, .slice rp rl rc]]]
  refine LoopP_intro (ann := f5_ann) follows (fun x w => Inv x.1 x.2.1 x.2.2.1 x.2.2.2.1 w) (fun x _ => (nl - x.2.2.2.1 : Int).toNat) ⟨rfl, rfl, rfl, Int.le_refl 0, Int.natCast_nonneg _, fun _ h => (by simp at h), hO⟩ (fun x w h => (f5_l0_eq _ _ _ _ _ _ _ _).mpr ?_)
  suffices S : ∀ (p : Option Addr) (s : Sl) (m i : Int), Inv p s m i w → f5_l0 p s m i w (fun x w => Inv x.1 x.2.1 x.2.2.1 x.2.2.2.1 w ∧ (nl - x.2.2.2.1 : Int).toNat < (nl - i : Int).toNat) _ _ from S _ _ _ _ h
  clear h x hO
  rintro _ _ _ i ⟨rfl, rfl, rfl, h0, hi, hf, hO⟩
  unfold f5_l0
  refine bif_d (fun h => ?_) (fun h => ?_)
  · obtain ⟨nd, hnd⟩ : ∃ nd, ns[i.toNat]? = some nd := ⟨_, List.getElem?_eq_getElem (by omega)⟩
    obtain ⟨a, ep, ec, rfl, c0, c1, c2, _⟩ := hin _ _ hnd
    rw [Int.toNat_of_nonneg h0] at c0 c1 c2
    refine ⟨h0, h, ?_⟩
    refine nn_i ?_
    refine ⟨nd.kind, ep, nd.edges.length, ec, nd.more, ⟨hO.cell0 c0, hO.cell0 c1, hO.cell0 c2, trivial⟩, rfl, ?_⟩
    refine new_i hO fun _ _ hO => ?_
    (refine st_i hO (k := 0) (j := 0) rfl rfl rfl trivial fun _ hO => ?_)
    (refine st_i hO (k := 0) (j := 0) rfl rfl rfl trivial fun _ hO => ?_)
    (refine st_i hO (k := 0) (j := 0) rfl rfl rfl trivial fun _ hO => ?_)
    (refine ls_i hO (k := 0) (j := 0) rfl rfl rfl ?_)
    refine bif_d (fun hc => ?_) (fun hc => ?_)
    · refine val_i (hK _ hO.old) ?_
      have : fewG ns rl = false := decide_eq_false fun hh => by have := hh.1 nd (List.mem_of_getElem? hnd); omega
      rw [this]
    · have e5 : IntKind.wrap .i64 (i + 1) = i + 1 := wrap64 (by omega) (by omega)
      rw [e5]
      refine ⟨⟨rfl, rfl, rfl, ?_, ?_, ?_, hO.dropn 1 rfl⟩, ?_⟩
      · show (0 : Int) ≤ i + 1; omega
      · show i + 1 ≤ (nl : Int); omega
      · show ∀ nd ∈ ns.take (i + 1).toNat, nd.edges.length ≤ 10
        rw [show (i + 1).toNat = i.toNat + 1 by omega]
        obtain ⟨hl, he⟩ := List.getElem?_eq_some_iff.1 hnd
        rw [List.take_succ_eq_append_getElem hl, he]
        intro x hx
        rcases List.mem_append.1 hx with hx | hx
        · exact hf x hx
        · rw [List.mem_singleton.1 hx]; omega
      · show (nl - (i + 1) : Int).toNat < (nl - i : Int).toNat; omega
  · have e : ns.take i.toNat = ns := List.take_of_length_le (by omega)
    rw [e] at hf
    refine nn_i ?_
    (refine ls_i hO (k := 0) (j := 0) rfl rfl rfl ?_)
    refine bif_d (fun hc => ?_) (fun hc => ?_)
    · refine nn_i ?_
      (refine ls_i hO (k := 0) (j := 0) rfl rfl rfl ?_)
      refine val_i (hK _ hO.old) ?_
      rw [Value.bool.injEq, Bool.eq_iff_iff]
      simp only [fewG, decide_eq_true_eq]
      exact ⟨fun hh => by omega, fun hh => ⟨hf, by omega, by omega⟩⟩
    · refine val_i (hK _ hO.old) ?_
      have : fewG ns rl = false := decide_eq_false fun hh => by omega
      rw [this]
end

end Go.Proofs.Ytokpbanandikpaa

set_option maxRecDepth 100000
set_option linter.unusedVariables false
set_option linter.unusedSimpArgs false
namespace Go.Proofs.Ytokpbanandikpaa
open Go Go.V Go.Proofs
/-! ### a finder -/
def entsF : Nat → List Int → List MapEntry
  | _, [] => []
  | j, a :: r => { key := .int .i64 a, val := .int .i64 ((j + 1 : Nat) : Int), born := j } :: entsF (j + 1) r
def idxF (x : Int) : List Int → Option Nat
  | [] => none
  | a :: r => if x = a then some 0 else (idxF x r).map (· + 1)
def numP (H : PH) (found : List Int) (x : Int) : List Int × Int × Bool :=
  if x = 0 then (found, 0, true) else if H.leads x = false then (found, 0, false) else match idxF (x - 1) found with
  | some q => (found, ((q + 1 : Nat) : Int), true)
  | none => (found ++ [x - 1], ((found.length + 1 : Nat) : Int), true)
theorem entsF_append : ∀ (j : Nat) (l : List Int) (x : Int), entsF j (l ++ [x]) = entsF j l ++ [{ key := .int .i64 x, val := .int .i64 ((j + l.length + 1 : Nat) : Int), born := j + l.length }]
  | j, [], x => by simp [entsF]
  | j, a :: r, x => by
    have := entsF_append (j + 1) r x
    simp only [List.cons_append, entsF, this, List.length_cons]
    rw [show j + 1 + r.length = j + (r.length + 1) by omega]
theorem findNow_entsF (x : Int) : ∀ (l : List Int) (j i : Nat), Instr.findNow (.int .i64) (.int .i64 x) (entsF j l) i = match idxF x l with
    | some q => some (some (i + q, .int .i64 ((j + q + 1 : Nat) : Int)))
    | none => some none
  | [], j, i => rfl
  | a :: r, j, i => by
    have ih := findNow_entsF x r (j + 1) (i + 1)
    have hs : Instr.sameNow (.int .i64) (.int .i64 x) (.int .i64 a) = some (decide (x = a)) := by
      simp [Instr.sameNow]
      rfl
    unfold entsF Instr.findNow idxF
    simp only [hs]
    by_cases h : x = a
    · simp [h]
    · simp only [h, decide_false, if_false]
      rw [ih]
      cases idxF x r with
      | none => rfl
      | some q =>
        simp only [Option.map_some]
        rw [show i + 1 + q = i + (q + 1) by omega, show j + 1 + q + 1 = j + (q + 1) + 1 by omega]
theorem idxF_lt {x : Int} : ∀ {l : List Int} {q : Nat}, idxF x l = some q → q < l.length
  | [], _, h => by cases h
  | a :: r, q, h => by
    unfold idxF at h
    split at h
    · cases h; simp
    · cases hr : idxF x r with
      | none => rw [hr] at h; cases h
      | some q' =>
        rw [hr] at h
        cases h
        have := idxF_lt hr
        simp; omega

theorem idxF_new {x : Int} : ∀ {l : List Int}, idxF x l = none → idxF x (l ++ [x]) = some l.length
  | [], _ => by simp [idxF]
  | a :: r, h => by
    unfold idxF at h
    split at h
    · cases h
    · rename_i hne
      have hq' : idxF x r = none := by
        cases hr : idxF x r with
        | none => rfl
        | some v => rw [hr] at h; cases h
      simp only [List.cons_append, idxF, hne, if_false, idxF_new hq', Option.map_some, List.length_cons]

/-- The finder's own rows. -/
def fdE (fb mr : Nat) (i : HId) (fr : Rw) (found : List Int) : List Ent := [cl fb 74 [hpP i, .slice fr.at_ fr.n fr.c, .map (some mr)], (mr, .map ⟨entsF 0 found⟩ found.length)]

section
variable {w0 w : World} {Ls : List (List Ent)} {K : Value → World → Prop} {i : HId} {H : PH}

theorem number_spec {fb mr : Nat} {fr : Rw} {found : List Int} {x : Int} (hok : H.ok) (hx1 : -9223372036854775808 < x) (hx2 : x ≤ 9223372036854775807) (hfr : fr.ok 1) (hfx : fr.xs = found.map (.int .i64)) (hfl : found.length ≤ 100000)
    (hO : Owns w0 w (fdE fb mr i fr found :: fr.ent 3 :: hpE i H :: Ls))
    (hK : ∀ (fr' : Rw) w', fr'.ok 1 → fr'.xs = (numP H found x).1.map (.int .i64) → Owns w0 w' (fdE fb mr i fr' (numP H found x).1 :: fr'.ent 3 :: hpE i H :: Ls) → K (.tuple ⟨[.int .i64 (numP H found x).2.1, .bool (numP H found x).2.2]⟩) w') :
    Ret Pg 23 [.pointer (some ⟨fb, 0, none⟩), .int .i64 x] w K := by
  refine f23_ret ?_
  unfold f23
  unfold numP at hK
  have hfn : fr.n = found.length := by have := hfr.len; rw [hfx, List.length_map] at this; omega
  refine bif_d (fun h0 => ?_) (fun h0 => ?_)
  · rw [if_pos h0] at hK
    exact hK fr _ hfr hfx hO
  · rw [if_neg h0] at hK
    have e1 : IntKind.wrap .i64 (x - 1) = x - 1 := wrap64 (by omega) (by omega)
    rw [e1]
    refine nn_i ?_
    (refine lp_i hO (k := 0) (j := 0) rfl rfl rfl ?_)
    (refine (head_spec hok (hO.has 2 rfl)) fun _ ho => ?_; replace hO := hO.after ho)
    refine ⟨_, _, _, _, rfl, ?_⟩
    refine new_i hO fun _ _ hO => ?_
    (refine st_i hO (k := 0) (j := 0) rfl rfl rfl trivial fun _ hO => ?_)
    (refine st_i hO (k := 0) (j := 0) rfl rfl rfl trivial fun _ hO => ?_)
    (refine st_i hO (k := 0) (j := 0) rfl rfl rfl trivial fun _ hO => ?_)
    try dsimp only [pick1, set2, List.set] at hO
    refine bif_ne (fun h1 => ?_) (fun h1 => ?_)
    · have hl : H.leads x = false := by
        unfold PH.leads
        exact decide_eq_false fun hh => hh.elim h0 fun hh => h1 hh.1
      rw [if_pos hl] at hK
      exact hK fr _ hfr hfx hO.drop
    · (refine li_i hO (k := 0) (j := 0) rfl rfl rfl ?_)
      refine bif_d (fun h2 => ?_) (fun h2 => ?_)
      · have hl : H.leads x = false := by
          unfold PH.leads
          exact decide_eq_false fun hh => hh.elim h0 fun hh => hh.2 h2
        rw [if_pos hl] at hK
        exact hK fr _ hfr hfx hO.drop
      · have hl : ¬ H.leads x = false := by
          unfold PH.leads
          rw [decide_eq_true (Or.inr ⟨h1, h2⟩)]
          simp
        rw [if_neg hl] at hK
        replace hO := hO.drop
        unfold f23_j1
        rw [e1]
        refine nn_i ?_
        (refine lm_i hO (k := 0) (j := 0) rfl rfl rfl ?_)
        refine nm_i ?_
        have hfind := findNow_entsF (x - 1) found 0 0
        cases hq : idxF (x - 1) found with
        | some q =>
          rw [hq] at hK hfind
          refine ⟨_, _, mg_some hO (k := 0) (j := 1) rfl hfind, ?_⟩
          rw [show (!true) = false from rfl, cond_false]
          refine nn_i ?_
          (refine lm_i hO (k := 0) (j := 0) rfl rfl rfl ?_)
          refine nm_i ?_
          refine ⟨_, _, mg_some hO (k := 0) (j := 1) rfl hfind, ?_⟩
          refine val_i (hK fr _ hfr hfx hO) ?_
          simp
        | none =>
          rw [hq] at hK hfind
          refine ⟨_, _, mg_none hO (k := 0) (j := 1) rfl hfind, ?_⟩
          rw [show (!false) = true from rfl, cond_true]
          refine nn_i ?_
          (refine ls_i hO (k := 0) (j := 0) rfl rfl rfl ?_)
          refine new_i hO fun ba _ hO => ?_
          refine apInt (r := fr) (m := 1) (news := [.int .i64 (x - 1)]) (hO.pick 2) hfr rfl (fun h => by cases h) (fun a ha j u hu => by cases ha; rw [add_mk, Nat.zero_add, (hO.row 0 0 rfl).cell]; exact hu) (by simp [Value.oneCell']) (by omega) ?_
          intro fr2 w2 hr2 hx2' hn2 hO _
          try dsimp only [pick1, set2, List.set] at hO
          refine nn_i ?_
          refine st_i hO (k := 2) (j := 0) rfl rfl rfl trivial fun _ hO => ?_
          replace hO := hO.drew
          refine nn_i ?_
          refine lm_i hO (k := 2) (j := 0) rfl rfl rfl ?_
          refine nn_i ?_
          refine ls_i hO (k := 2) (j := 0) rfl rfl rfl ?_
          refine nm_i ?_
          refine ⟨⟨entsF 0 found⟩, found.length, hO.get (at2_mem (k := 2) (j := 1) rfl), hfind, ?_⟩
          replace hO := hO.setObj (o' := .map ((⟨entsF 0 found⟩ : Array MapEntry).push { key := .int .i64 (x - 1), val := .int .i64 ((fr2.n : Nat) : Int), born := found.length }) (found.length + 1)) (k := 2) (j := 1) rfl
          refine nn_i ?_
          refine lm_i hO (k := 2) (j := 0) rfl rfl rfl ?_
          refine nm_i ?_
          have hes : ((⟨entsF 0 found⟩ : Array MapEntry).push { key := .int .i64 (x - 1), val := .int .i64 ((fr2.n : Nat) : Int), born := found.length }) = ⟨entsF 0 (found ++ [x - 1])⟩ := by
            rw [entsF_append, hn2, hfn]
            simp
          have hidx := idxF_new hq
          have hfind2 := findNow_entsF (x - 1) (found ++ [x - 1]) 0 0
          rw [hidx] at hfind2
          rw [hes] at hO ⊢
          refine ⟨_, _, mg_some hO (k := 2) (j := 1) rfl hfind2, ?_⟩
          refine val_i (hK fr2 _ hr2 (by rw [hx2', hfx]; simp) ?_) ?_
          · have e3 : (found ++ [x - 1]).length = found.length + 1 := by simp
            unfold fdE
            rw [e3]
            exact ((((hO.pick 3).pick 1).pick 3).cut 3 1)
          · simp
end

end Go.Proofs.Ytokpbanandikpaa

set_option maxRecDepth 100000
set_option linter.unusedVariables false
set_option linter.unusedSimpArgs false
namespace Go.Proofs.Ytokpbanandikpaa
open Go Go.V Go.Proofs
/-! ### a node -/
structure NSt where
  fd : List Int
  es : List Int
  ws : List Int
def nodeL (H : PH) (at_ p : Int) : Nat → Int → NSt → NSt × Bool
  | 0, _, s => (s, true)
  | c + 1, f, s => if p ≤ f then nodeL H at_ p c (f + 1) ⟨s.fd, s.es, s.ws ++ [(H.read at_ f).1]⟩ else
    if (numP H s.fd (H.read at_ f).1).2.2 = false then (⟨(numP H s.fd (H.read at_ f).1).1, s.es, s.ws⟩, false) else nodeL H at_ p c (f + 1) ⟨(numP H s.fd (H.read at_ f).1).1, s.es ++ [(numP H s.fd (H.read at_ f).1).2.1], s.ws⟩
theorem nodeL_succ (H : PH) (at_ p : Int) (c : Nat) (f : Int) (s : NSt) : nodeL H at_ p (c + 1) f s = if p ≤ f then nodeL H at_ p c (f + 1) ⟨s.fd, s.es, s.ws ++ [(H.read at_ f).1]⟩ else
    if (numP H s.fd (H.read at_ f).1).2.2 = false then (⟨(numP H s.fd (H.read at_ f).1).1, s.es, s.ws⟩, false) else nodeL H at_ p c (f + 1) ⟨(numP H s.fd (H.read at_ f).1).1, s.es ++ [(numP H s.fd (H.read at_ f).1).2.1], s.ws⟩ := rfl
theorem length_numP (H : PH) (found : List Int) (x : Int) : found.length ≤ (numP H found x).1.length ∧ (numP H found x).1.length ≤ found.length + 1 := by
  unfold numP
  split
  · exact ⟨Nat.le_refl _, Nat.le_succ _⟩
  · split
    · exact ⟨Nat.le_refl _, Nat.le_succ _⟩
    · cases idxF (x - 1) found with
      | some q => exact ⟨Nat.le_refl _, Nat.le_succ _⟩
      | none => simp
def PH.fits (H : PH) : Prop := ∀ n f, -9223372036854775808 < (H.read n f).1 ∧ (H.read n f).1 ≤ 9223372036854775807
theorem PH.read_fits {H : PH} (h : H.fits) (n f : Int) : -9223372036854775808 < (H.read n f).1 ∧ (H.read n f).1 ≤ 9223372036854775807 := h n f

section
variable {w0 w : World} {Ls : List (List Ent)} {K : Value → World → Prop} {i : HId} {H : PH}

set_option maxHeartbeats 2000000 in
theorem node_spec {fb mr : Nat} {fr : Rw} {found : List Int} {a : Int} (hok : H.ok) (hfit : ∀ k, (H.head k).2 = 0 → k + (H.head k).1.l < H.words.length) (hrg : H.fits) (hl0 : 0 ≤ (H.head a).1.l) (hl1 : (H.head a).1.l ≤ 4095) (hfr : fr.ok 1) (hfx : fr.xs = found.map (.int .i64)) (hfl : found.length ≤ 90000)
    (hO : Owns w0 w (fdE fb mr i fr found :: fr.ent 3 :: hpE i H :: Ls))
    (hK1 : ∀ (s : NSt) (fr' er wr : Rw) w', nodeL H a (H.head a).1.p (H.head a).1.l.toNat 0 ⟨found, [], []⟩ = (s, true) → fr'.ok 1 → fr'.xs = s.fd.map (.int .i64) → er.ok 1 → er.xs = s.es.map (.int .i64) → wr.ok 1 → wr.xs = s.ws.map (.int .i64) → Owns w0 w' (er.ent 3 :: wr.ent 3 :: fdE fb mr i fr' s.fd :: fr'.ent 3 :: hpE i H :: Ls) → K (.tuple ⟨[.agg ⟨[.int .i64 (H.head a).1.k, .slice er.at_ er.n er.c, .slice wr.at_ wr.n wr.c]⟩, .bool true]⟩) w')
    (hK2 : ∀ (s : NSt) (fr' : Rw) w', nodeL H a (H.head a).1.p (H.head a).1.l.toNat 0 ⟨found, [], []⟩ = (s, false) → fr'.ok 1 → fr'.xs = s.fd.map (.int .i64) → Owns w0 w' (fdE fb mr i fr' s.fd :: fr'.ent 3 :: hpE i H :: Ls) → K (.tuple ⟨[.agg ⟨[.int .i64 0, .slice none 0 0, .slice none 0 0]⟩, .bool false]⟩) w') :
    Ret Pg 24 [.pointer (some ⟨fb, 0, none⟩), .int .i64 a] w K := by
  refine f24_ret ?_
  unfold f24
  refine new_i hO fun b1 _ hO => ?_
  refine nn_i ?_
  (refine lp_i hO (k := 1) (j := 0) rfl rfl rfl ?_)
  (refine (head_spec hok (hO.has 3 rfl)) fun _ ho => ?_; replace hO := hO.after ho)
  refine ⟨_, _, _, _, rfl, ?_⟩
  refine new_i hO fun b3 _ hO => ?_
  (refine st_i hO (k := 0) (j := 0) rfl rfl rfl trivial fun _ hO => ?_)
  (refine st_i hO (k := 0) (j := 0) rfl rfl rfl trivial fun _ hO => ?_)
  (refine st_i hO (k := 0) (j := 0) rfl rfl rfl trivial fun _ hO => ?_)
  (refine li_i hO (k := 0) (j := 0) rfl rfl rfl ?_)
  try dsimp only [pick1, set2, List.set] at hO
  refine new_i hO fun b4 _ hO => ?_
  (refine st_i hO (k := 0) (j := 0) rfl rfl rfl trivial fun _ hO => ?_)
  (refine st_i hO (k := 0) (j := 0) rfl rfl rfl trivial fun _ hO => ?_)
  (refine st_i hO (k := 0) (j := 0) rfl rfl rfl trivial fun _ hO => ?_)
  try dsimp only [pick1, set2, List.set] at hO
  (refine li_i hO (k := 1) (j := 0) rfl rfl rfl ?_)
  let St : Int → World → Prop := fun f w => ∃ (s : NSt) (fr er wr : Rw), fr.ok 1 ∧ fr.xs = s.fd.map (.int .i64) ∧ er.ok 1 ∧ er.xs = s.es.map (.int .i64) ∧ wr.ok 1 ∧ wr.xs = s.ws.map (.int .i64) ∧ (s.fd.length : Int) ≤ found.length + f ∧ (s.es.length : Int) ≤ f ∧ (s.ws.length : Int) ≤ f ∧ nodeL H a (H.head a).1.p ((H.head a).1.l - f).toNat f s = nodeL H a (H.head a).1.p (H.head a).1.l.toNat 0 ⟨found, [], []⟩ ∧
    Owns w0 w ([cl b4 78 [.int .i64 (H.head a).1.k, .slice er.at_ er.n er.c, .slice wr.at_ wr.n wr.c]] :: er.ent 3 :: wr.ent 3 :: fdE fb mr i fr s.fd :: fr.ent 3 :: hpE i H :: [cl b3 64 [.int .i64 (H.head a).1.k, .int .i64 (H.head a).1.l, .int .i64 (H.head a).1.p]] :: [cl b1 78 [.int .i64 0, .slice none 0 0, .slice none 0 0]] :: Ls)
  let Inv : Option Addr → Int → Option Addr → Option Addr → Option Addr → Int → Int → World → Prop := fun p n r1 r3 r4 m f w => p = some ⟨fb, 0, none⟩ ∧ a = n ∧ r1 = some ⟨b1, 0, none⟩ ∧ r3 = some ⟨b3, 0, none⟩ ∧ r4 = some ⟨b4, 0, none⟩ ∧ m = (H.head a).1.l ∧ 0 ≤ f ∧ f ≤ (H.head a).1.l ∧ St f w
  refine LoopP_intro (ann := f24_ann) follows (fun x w => Inv x.1 x.2.1 x.2.2.1 x.2.2.2.1 x.2.2.2.2.1 x.2.2.2.2.2.1 x.2.2.2.2.2.2.1 w) (fun x _ => ((H.head a).1.l - x.2.2.2.2.2.2.1 : Int).toNat)
    ⟨rfl, rfl, rfl, rfl, rfl, rfl, Int.le_refl 0, hl0, ⟨found, [], []⟩, fr, Rw.none_, Rw.none_, hfr, hfx, Rw.none_ok, rfl, Rw.none_ok, rfl, by show (found.length : Int) ≤ found.length + 0; omega, by simp, by simp, by rw [Int.sub_zero], ?_⟩ (fun x w h => (f24_l0_eq _ _ _ _ _ _ _ _ _ _ _).mpr ?_)
  · exact ((((((((hO.pick 2).pick 2).pick 5).pick 5).pick 5).pick 5))).perm (.refl _)
  suffices S : ∀ (p : Option Addr) (n : Int) (r1 r3 r4 : Option Addr) (m f : Int), Inv p n r1 r3 r4 m f w → f24_l0 p n r1 r3 r4 m f w (fun x w => Inv x.1 x.2.1 x.2.2.1 x.2.2.2.1 x.2.2.2.2.1 x.2.2.2.2.2.1 x.2.2.2.2.2.2.1 w ∧ ((H.head a).1.l - x.2.2.2.2.2.2.1 : Int).toNat < ((H.head a).1.l - f : Int).toNat) _ _ from S _ _ _ _ _ _ _ h
  clear h x hO
  rintro _ _ _ _ _ _ f ⟨rfl, rfl, rfl, rfl, rfl, rfl, h0, hf, s, fr, er, wr, hfr, hfx, her, hex, hwr, hwx, hl3, hl4, hl5, hb, hO⟩
  unfold f24_l0
  have hen : er.n = s.es.length := by have := her.len; rw [hex, List.length_map] at this; omega
  have hwn : wr.n = s.ws.length := by have := hwr.len; rw [hwx, List.length_map] at this; omega
  refine bif_d (fun h => ?_) (fun h => ?_)
  · rw [show ((H.head a).1.l - f).toNat = ((H.head a).1.l - (f + 1)).toNat + 1 by omega] at hb
    rw [nodeL_succ] at hb
    have e5 : IntKind.wrap .i64 (f + 1) = f + 1 := wrap64 (by omega) (by omega)
    refine nn_i ?_
    (refine lp_i hO (k := 3) (j := 0) rfl rfl rfl ?_)
    (refine (read_spec hok hfit (hO.has 5 rfl)) fun _ ho => ?_; replace hO := hO.after ho)
    refine ⟨_, _, rfl, ?_⟩
    refine nn_i ?_
    (refine li_i hO (k := 6) (j := 0) rfl rfl rfl ?_)
    have hrf := PH.read_fits hrg a f
    rw [e5]
    refine bif_d (fun hp => ?_) (fun hp => ?_)
    · rw [if_pos hp] at hb
      refine nn_i ?_
      (refine ls_i hO (k := 0) (j := 0) rfl rfl rfl ?_)
      refine new_i hO fun ba _ hO => ?_
      refine apInt (r := wr) (m := 1) (news := [.int .i64 (H.read a f).1]) (hO.pick 3) hwr rfl (fun h => by cases h) (fun a ha j u hu => by cases ha; rw [add_mk, Nat.zero_add, (hO.row 0 0 rfl).cell]; exact hu) (by simp [Value.oneCell']) (by omega) ?_
      intro wr2 w2 hwr2 hwx2 hwn2 hO _
      try dsimp only [pick1, set2, List.set] at hO
      refine nn_i ?_
      refine st_i hO (k := 2) (j := 0) rfl rfl rfl trivial fun _ hO => ?_
      refine ⟨⟨rfl, rfl, rfl, rfl, rfl, rfl, ?_, ?_, ⟨s.fd, s.es, s.ws ++ [(H.read a f).1]⟩, fr, er, wr2, hfr, hfx, her, hex, hwr2, ?_, ?_, ?_, ?_, hb, (((hO.pick 3).pick 3).cut 3 1)⟩, ?_⟩
      · show (0 : Int) ≤ f + 1; omega
      · show f + 1 ≤ (H.head a).1.l; omega
      · rw [hwx2, hwx]; simp
      · show (s.fd.length : Int) ≤ found.length + (f + 1); omega
      · show (s.es.length : Int) ≤ f + 1; omega
      · show ((s.ws ++ [(H.read a f).1]).length : Int) ≤ f + 1; simp; omega
      · show ((H.head a).1.l - (f + 1) : Int).toNat < ((H.head a).1.l - f : Int).toNat; omega
    · rw [if_neg hp] at hb
      have hnl := length_numP H s.fd (H.read a f).1
      refine number_spec hok hrf.1 hrf.2 hfr hfx (by omega) ((((hO.pick 5).pick 5).pick 5)) ?_
      intro fr2 w2 hfr2 hfx2 hO
      refine ⟨_, _, rfl, ?_⟩
      refine bif_nb (fun hq => ?_) (fun hq => ?_)
      · rw [if_pos hq] at hb
        refine nn_i ?_
        (refine st_i hO (k := 7) (j := 0) rfl rfl rfl trivial fun _ hO => ?_)
        (refine st_i hO (k := 7) (j := 0) rfl rfl rfl trivial fun _ hO => ?_)
        (refine st_i hO (k := 7) (j := 0) rfl rfl rfl trivial fun _ hO => ?_)
        try dsimp only [pick1, set2, List.set] at hO
        refine nn_i ?_
        (refine ⟨_, _, _, _, _, _, _, (by (refine ca_i hO (k := 7) (j := 0) rfl rfl)), rfl, ?_⟩)
        exact hK2 _ fr2 _ hb.symm hfr2 hfx2 (hO.cut 3 5)
      · rw [if_neg (by rw [hq]; simp)] at hb
        refine nn_i ?_
        (refine ls_i hO (k := 3) (j := 0) rfl rfl rfl ?_)
        refine new_i hO fun ba _ hO => ?_
        refine apInt (r := er) (m := 1) (news := [.int .i64 (numP H s.fd (H.read a f).1).2.1]) (hO.pick 5) her rfl (fun h => by cases h) (fun a ha j u hu => by cases ha; rw [add_mk, Nat.zero_add, (hO.row 0 0 rfl).cell]; exact hu) (by simp [Value.oneCell']) (by omega) ?_
        intro er2 w3 her2 hex2 hen2 hO _
        try dsimp only [pick1, set2, List.set] at hO
        refine nn_i ?_
        refine st_i hO (k := 5) (j := 0) rfl rfl rfl trivial fun _ hO => ?_
        refine ⟨⟨rfl, rfl, rfl, rfl, rfl, rfl, ?_, ?_, ⟨(numP H s.fd (H.read a f).1).1, s.es ++ [(numP H s.fd (H.read a f).1).2.1], s.ws⟩, fr2, er2, wr, hfr2, hfx2, her2, ?_, hwr, hwx, ?_, ?_, ?_, hb, (((((((hO.pick 4).pick 4).pick 4).pick 6).pick 4).pick 6).cut 6 1)⟩, ?_⟩
        · show (0 : Int) ≤ f + 1; omega
        · show f + 1 ≤ (H.head a).1.l; omega
        · rw [hex2, hex]; simp
        · show ((numP H s.fd (H.read a f).1).1.length : Int) ≤ found.length + (f + 1); omega
        · show ((s.es ++ [(numP H s.fd (H.read a f).1).2.1]).length : Int) ≤ f + 1; simp; omega
        · show (s.ws.length : Int) ≤ f + 1; omega
        · show ((H.head a).1.l - (f + 1) : Int).toNat < ((H.head a).1.l - f : Int).toNat; omega
  · rw [show ((H.head a).1.l - f).toNat = 0 by omega] at hb
    have hb : (s, true) = nodeL H a (H.head a).1.p (H.head a).1.l.toNat 0 ⟨found, [], []⟩ := hb
    refine nn_i ?_
    (refine ⟨_, _, _, _, _, _, _, (by (refine ca_i hO (k := 0) (j := 0) rfl rfl)), rfl, ?_⟩)
    refine nn_i ?_
    (refine st_i hO (k := 7) (j := 0) rfl rfl rfl trivial fun _ hO => ?_)
    (refine st_i hO (k := 7) (j := 0) rfl rfl rfl trivial fun _ hO => ?_)
    (refine st_i hO (k := 7) (j := 0) rfl rfl rfl trivial fun _ hO => ?_)
    try dsimp only [pick1, set2, List.set] at hO
    refine nn_i ?_
    (refine ⟨_, _, _, _, _, _, _, (by (refine ca_i hO (k := 7) (j := 0) rfl rfl)), rfl, ?_⟩)
    exact hK1 s fr er wr _ hb.symm hfr hfx her hex hwr hwx (hO.drop.cut 5 2)
end

end Go.Proofs.Ytokpbanandikpaa

set_option maxRecDepth 100000
set_option linter.unusedVariables false
set_option linter.unusedSimpArgs false
namespace Go.Proofs.Ytokpbanandikpaa
open Go Go.V Go.Proofs
/-! ### a form -/
structure GNd where
  k : Int
  es : List Int
  ws : List Int
structure GForm where
  roots : List Int
  nodes : List GNd
def rootsL (H : PH) : List Int → List Int → List Int → (List Int × List Int) × Bool
  | [], fd, rt => ((fd, rt), true)
  | x :: r, fd, rt => if (numP H fd x).2.2 = false then (((numP H fd x).1, rt), false) else rootsL H r (numP H fd x).1 (rt ++ [(numP H fd x).2.1])
def nodesL (H : PH) : Nat → List Int → List GNd → (List Int × List GNd) × Bool
  | 0, fd, nd => ((fd, nd), true)
  | c + 1, fd, nd => match fd[nd.length]? with
    | none => ((fd, nd), true)
    | some a =>
      let q := nodeL H a (H.head a).1.p (H.head a).1.l.toNat 0 ⟨fd, [], []⟩
      if q.2 = false then ((q.1.fd, nd), false) else nodesL H c q.1.fd (nd ++ [⟨(H.head a).1.k, q.1.es, q.1.ws⟩])
theorem rootsL_cons (H : PH) (x : Int) (r fd rt : List Int) : rootsL H (x :: r) fd rt = if (numP H fd x).2.2 = false then (((numP H fd x).1, rt), false) else rootsL H r (numP H fd x).1 (rt ++ [(numP H fd x).2.1]) := rfl

/-- What has been found: objects, each once. -/
structure FdOk (H : PH) (fd : List Int) : Prop where
  obs : ∀ a ∈ fd, (H.head a).2 = 0 ∧ (H.head a).1.k ≠ 15
  nodup : fd.Nodup
theorem nodup_bound : ∀ (n : Nat) (l : List Int), l.Nodup → (∀ x ∈ l, 0 ≤ x ∧ x < n) → l.length ≤ n
  | 0, l, _, h => by
    cases l with
    | nil => exact Nat.le_refl 0
    | cons x r => have := h x (by simp); omega
  | n + 1, l, hn, h => by
    have ih := nodup_bound n (l.erase (n : Int)) (hn.erase _) fun x hx => by
      have h1 := h x (List.mem_of_mem_erase hx)
      have h2 : x ≠ n := fun e => by
        subst e
        exact (hn.not_mem_erase) hx
      omega
    by_cases hm : (n : Int) ∈ l
    · have := List.length_erase_of_mem hm
      have h0 : 0 < l.length := List.length_pos_of_mem hm
      omega
    · rw [List.erase_of_not_mem hm] at ih
      omega
theorem FdOk.bound {H : PH} {fd : List Int} (h : FdOk H fd) : fd.length ≤ H.top :=
  nodup_bound H.top fd h.nodup fun x hx => by
    have := (PH.head_good (h.obs x hx).1).1
    exact ⟨this.1, this.2.1⟩
theorem idxF_none {x : Int} : ∀ {l : List Int}, idxF x l = none → x ∉ l
  | [], _ => by simp
  | a :: r, h => by
    unfold idxF at h
    split at h
    · cases h
    · rename_i hne
      have hq' : idxF x r = none := by
        cases hr : idxF x r with
        | none => rfl
        | some v => rw [hr] at h; cases h
      intro hm
      rcases List.mem_cons.1 hm with e | hm
      · exact hne e
      · exact idxF_none hq' hm
theorem FdOk.num {H : PH} {fd : List Int} (h : FdOk H fd) (x : Int) : FdOk H (numP H fd x).1 := by
  unfold numP
  split
  · exact h
  · rename_i h0
    split
    · exact h
    · rename_i h1
      cases hq : idxF (x - 1) fd with
      | some q => exact h
      | none =>
        have hl : H.leads x = true := by simpa using h1
        unfold PH.leads at hl
        have hl := of_decide_eq_true hl
        refine ⟨fun a ha => ?_, ?_⟩
        · rcases List.mem_append.1 ha with ha | ha
          · exact h.obs a ha
          · rw [List.mem_singleton.1 ha]
            exact hl.resolve_left h0
        · refine List.nodup_append.2 ⟨h.nodup, by simp, fun a ha b hb => ?_⟩
          rw [List.mem_singleton.1 hb]
          intro e
          exact idxF_none hq (e ▸ ha)
theorem FdOk.node {H : PH} {a p : Int} : ∀ {c : Nat} {f : Int} {s : NSt}, FdOk H s.fd → FdOk H (nodeL H a p c f s).1.fd
  | 0, _, _, h => h
  | c + 1, f, s, h => by
    rw [nodeL_succ]
    split
    · exact FdOk.node (c := c) h
    · split
      · exact h.num _
      · exact FdOk.node (c := c) (h.num _)

end Go.Proofs.Ytokpbanandikpaa

set_option maxRecDepth 100000
set_option linter.unusedVariables false
set_option linter.unusedSimpArgs false
namespace Go.Proofs.Ytokpbanandikpaa
open Go Go.V Go.Proofs
/-! ### a heap's form: its roots -/
section
variable {w0 w : World} {Ls : List (List Ent)} {i : HId} {H : PH}

set_option maxHeartbeats 2000000 in
theorem of_l0 {b1 b3 fb mr : Nat} {q : Rw} {rs : List Int} {fr0 : Rw} {K0 : Tup f7_l0_o0 → World → Prop} {Kr : Tup f7_l0_or → World → Prop} (hok : H.ok) (hrs : ∀ x ∈ rs, -9223372036854775808 < x ∧ x ≤ 9223372036854775807) (hlen : rs.length ≤ 10000) (hq : q.ok 1) (hqx : q.xs = rs.map (.int .i64)) (hfr0 : fr0.ok 1) (hfx0 : fr0.xs = [])
    (hO : Owns w0 w ([cl b3 37 [.slice none 0 0, .slice none 0 0]] :: fdE fb mr i fr0 [] :: fr0.ent 3 :: hpE i H :: q.ent 3 :: [cl b1 37 [.slice none 0 0, .slice none 0 0]] :: Ls))
    (hK1 : ∀ (fd rt : List Int) (fr rr : Rw) w', rootsL H rs [] [] = ((fd, rt), true) → FdOk H fd → fr.ok 1 → fr.xs = fd.map (.int .i64) → rr.ok 1 → rr.xs = rt.map (.int .i64) → rt.length = rs.length →
      Owns w0 w' ([cl b3 37 [.slice rr.at_ rr.n rr.c, .slice none 0 0]] :: rr.ent 3 :: fdE fb mr i fr fd :: fr.ent 3 :: hpE i H :: q.ent 3 :: [cl b1 37 [.slice none 0 0, .slice none 0 0]] :: Ls) → K0 ⟨some ⟨b1, 0, none⟩, some ⟨fb, 0, none⟩, some ⟨b3, 0, none⟩, ()⟩ w')
    (hK2 : ∀ (x : List Int × List Int) w', rootsL H rs [] [] = (x, false) → Owns w0 w' (hpE i H :: q.ent 3 :: [cl b1 37 [.slice none 0 0, .slice none 0 0]] :: Ls) → Kr ⟨some ⟨b1, 0, none⟩, 5, ()⟩ w') :
    LoopP Pg 73 f7_l0_B f7_l0_A ⟨some ⟨b1, 0, none⟩, some ⟨fb, 0, none⟩, some ⟨b3, 0, none⟩, ⟨q.at_, q.n, q.c⟩, ((q.n : Nat) : Int), 0, ()⟩ w (K0, Kr, ()) := by
  have hqn : q.n = rs.length := by have := hq.len; rw [hqx, List.length_map] at this; omega
  let St : Int → World → Prop := fun j w => ∃ (fd rt : List Int) (fr rr : Rw), rootsL H (rs.drop j.toNat) fd rt = rootsL H rs [] [] ∧ FdOk H fd ∧ fr.ok 1 ∧ fr.xs = fd.map (.int .i64) ∧ rr.ok 1 ∧ rr.xs = rt.map (.int .i64) ∧ (rt.length : Int) = j ∧
    Owns w0 w ([cl b3 37 [.slice rr.at_ rr.n rr.c, .slice none 0 0]] :: rr.ent 3 :: fdE fb mr i fr fd :: fr.ent 3 :: hpE i H :: q.ent 3 :: [cl b1 37 [.slice none 0 0, .slice none 0 0]] :: Ls)
  let Inv : Option Addr → Option Addr → Option Addr → Sl → Int → Int → World → Prop := fun r1 r2 r3 s m j w => r1 = some ⟨b1, 0, none⟩ ∧ r2 = some ⟨fb, 0, none⟩ ∧ r3 = some ⟨b3, 0, none⟩ ∧ s = ⟨q.at_, q.n, q.c⟩ ∧ m = q.n ∧ 0 ≤ j ∧ j ≤ q.n ∧ St j w
  refine LoopP_intro (ann := f7_ann) follows (fun x w => Inv x.1 x.2.1 x.2.2.1 x.2.2.2.1 x.2.2.2.2.1 x.2.2.2.2.2.1 w) (fun x _ => (q.n - x.2.2.2.2.2.1 : Int).toNat)
    ⟨rfl, rfl, rfl, rfl, rfl, Int.le_refl 0, Int.natCast_nonneg _, [], [], fr0, Rw.none_, rfl, ⟨fun _ h => (by cases h), List.nodup_nil⟩, hfr0, hfx0, Rw.none_ok, rfl, rfl, hO.perm (.refl _)⟩ (fun x w h => (f7_l0_eq _ _ _ _ _ _ _ _ _ _).mpr ?_)
  suffices S : ∀ (r1 r2 r3 : Option Addr) (s : Sl) (m j : Int), Inv r1 r2 r3 s m j w → f7_l0 r1 r2 r3 s m j w (fun x w => Inv x.1 x.2.1 x.2.2.1 x.2.2.2.1 x.2.2.2.2.1 x.2.2.2.2.2.1 w ∧ (q.n - x.2.2.2.2.2.1 : Int).toNat < (q.n - j : Int).toNat) _ _ from S _ _ _ _ _ _ h
  clear h x hO
  rintro _ _ _ _ _ j ⟨rfl, rfl, rfl, rfl, rfl, h0, hj, fd, rt, fr, rr, hb, hfd, hfr, hfx, hrr, hrx, hrl, hO⟩
  unfold f7_l0
  have hrn : rr.n = rt.length := by have := hrr.len; rw [hrx, List.length_map] at this; omega
  have hfb := hfd.bound
  have htop := hok.top
  have hbig := hok.big
  refine bif_d (fun h => ?_) (fun h => ?_)
  · obtain ⟨x, hx⟩ : ∃ x, rs[j.toNat]? = some x := ⟨_, List.getElem?_eq_getElem (by omega)⟩
    have hdrop : rs.drop j.toNat = x :: rs.drop (j.toNat + 1) := by
      obtain ⟨hl, he⟩ := List.getElem?_eq_some_iff.1 hx
      rw [List.drop_eq_getElem_cons hl, he]
    rw [hdrop, rootsL_cons] at hb
    obtain ⟨qa, hqa, hqc⟩ := Rw.rdI (hO.has 5 rfl) hq hqx _ _ hx
    rw [Int.toNat_of_nonneg h0] at hqc
    have hxb := hrs x (List.mem_of_getElem? hx)
    have e5 : IntKind.wrap .i64 (j + 1) = j + 1 := wrap64 (by omega) (by omega)
    refine ⟨h0, h, ?_⟩
    have hqa' : (⟨q.at_, q.n, q.c⟩ : Sl).at_ = some qa := hqa
    rw [hqa']
    refine nn_i ?_
    refine LI_i hqc ?_
    rw [← hqa', e5]
    refine number_spec hok hxb.1 hxb.2 hfr hfx (by omega) ((((hO.pick 4).pick 4).pick 4)) ?_
    intro fr2 w2 hfr2 hfx2 hO
    refine ⟨_, _, rfl, ?_⟩
    refine bif_nb (fun hq2 => ?_) (fun hq2 => ?_)
    · rw [if_pos hq2] at hb
      refine nn_i ?_
      refine st_i hO (k := 6) (j := 0) rfl rfl rfl trivial fun _ hO => ?_
      refine st_i hO (k := 6) (j := 0) rfl rfl rfl trivial fun _ hO => ?_
      try dsimp only [pick1, set2, List.set] at hO
      exact hK2 _ _ hb.symm ((((hO.pick 6).pick 6).pick 4).cut 3 4)
    · rw [if_neg (by rw [hq2]; simp)] at hb
      refine nn_i ?_
      (refine ls_i hO (k := 3) (j := 0) rfl rfl rfl ?_)
      refine new_i hO fun ba _ hO => ?_
      refine apInt (r := rr) (m := 1) (news := [.int .i64 (numP H fd x).2.1]) (hO.pick 5) hrr rfl (fun h => by cases h) (fun a ha j u hu => by cases ha; rw [add_mk, Nat.zero_add, (hO.row 0 0 rfl).cell]; exact hu) (by simp [Value.oneCell']) (by omega) ?_
      intro rr2 w3 hrr2 hrx2 hrn2 hO _
      try dsimp only [pick1, set2, List.set] at hO
      refine nn_i ?_
      refine st_i hO (k := 5) (j := 0) rfl rfl rfl trivial fun _ hO => ?_
      refine ⟨⟨rfl, rfl, rfl, rfl, rfl, ?_, ?_, (numP H fd x).1, rt ++ [(numP H fd x).2.1], fr2, rr2, ?_, hfd.num x, hfr2, hfx2, hrr2, ?_, ?_, ((((((hO.pick 4).pick 4).pick 4).pick 3).pick 5).cut 5 1)⟩, ?_⟩
      · show (0 : Int) ≤ j + 1; omega
      · show j + 1 ≤ (q.n : Int); omega
      · show rootsL H (rs.drop (j + 1).toNat) _ _ = _
        rw [show (j + 1).toNat = j.toNat + 1 by omega]
        exact hb
      · rw [hrx2, hrx]; simp
      · show ((rt ++ [(numP H fd x).2.1]).length : Int) = j + 1; simp; omega
      · show (q.n - (j + 1) : Int).toNat < (q.n - j : Int).toNat; omega
  · have e : rs.drop j.toNat = [] := List.drop_of_length_le (by omega)
    rw [e] at hb
    exact hK1 fd rt fr rr _ hb.symm hfd hfr hfx hrr hrx (by omega) hO
end

end Go.Proofs.Ytokpbanandikpaa

set_option maxRecDepth 100000
set_option linter.unusedVariables false
set_option linter.unusedSimpArgs false
namespace Go.Proofs.Ytokpbanandikpaa
open Go Go.V Go.Proofs
/-! ### a heap's form: its nodes -/
def ndc (g : GNd) (ep : Option Addr) (ec : Nat) (wp : Option Addr) (wc : Nat) : List Value := [.int .i64 g.k, .slice ep g.es.length ec, .slice wp g.ws.length wc]
def NdsE (E : List Ent) : List GNd → List Value → Prop
  | [], cs => cs = []
  | g :: r, cs => ∃ ep ec wp wc rest, cs = ndc g ep ec wp wc ++ rest ∧ IntsE E ep g.es ∧ IntsE E wp g.ws ∧ NdsE E r rest
theorem NdsE.mono {E E' : List Ent} (hE : ∀ x ∈ E, x ∈ E') : ∀ {l : List GNd} {cs : List Value}, NdsE E l cs → NdsE E' l cs
  | [], _, h => h
  | _ :: _, _, ⟨ep, ec, wp, wc, rest, h1, h2, h3, h4⟩ => ⟨ep, ec, wp, wc, rest, h1, h2.mono hE, h3.mono hE, h4.mono hE⟩
theorem NdsE.snoc {E : List Ent} {g : GNd} {ep wp : Option Addr} {ec wc : Nat} (h2 : IntsE E ep g.es) (h3 : IntsE E wp g.ws) : ∀ {l : List GNd} {cs : List Value}, NdsE E l cs → NdsE E (l ++ [g]) (cs ++ ndc g ep ec wp wc)
  | [], cs, h => by
    have : cs = [] := h
    subst this
    exact ⟨ep, ec, wp, wc, [], by simp, h2, h3, rfl⟩
  | _ :: _, _, ⟨ep', ec', wp', wc', rest, e, a2, a3, a4⟩ => ⟨ep', ec', wp', wc', rest ++ ndc g ep ec wp wc, by rw [e, List.append_assoc], a2, a3, NdsE.snoc h2 h3 a4⟩
theorem NdsE.len {E : List Ent} : ∀ {l : List GNd} {cs : List Value}, NdsE E l cs → cs.length = l.length * 3
  | [], cs, h => by have : cs = [] := h; simp [this]
  | _ :: _, _, ⟨_, _, _, _, rest, e, _, _, a4⟩ => by
    have := NdsE.len a4
    simp [e, ndc, this]
    omega
theorem Rw.intsE {E : List Ent} {r : Rw} {T : TypeId} {xs : List Int} (hr : r.ok 1) (hx : r.xs = xs.map (.int .i64)) (hE : ∀ y ∈ r.ent T, y ∈ E) : IntsE E r.at_ xs := by
  intro i x hi
  obtain ⟨hlt, _⟩ := List.getElem?_eq_some_iff.1 hi
  have hn : r.n = xs.length := by have := hr.len; rw [hx, List.length_map] at this; omega
  cases hp : r.p with
  | none => have := hr.nil hp; have := hr.le; omega
  | some b =>
    refine ⟨b, 0, r.xs ++ r.sp, T, by simp [Rw.at_, hp], hE _ (by simp [Rw.ent, hp]), ?_⟩
    rw [hx, Nat.zero_add, List.getElem?_append_left (by simpa using hlt), List.getElem?_map, hi]
    rfl

theorem nodeL_len (H : PH) (a p : Int) : ∀ (c : Nat) (f : Int) (s : NSt), s.fd.length ≤ (nodeL H a p c f s).1.fd.length
  | 0, _, _ => Nat.le_refl _
  | c + 1, f, s => by
    have hn := length_numP H s.fd (H.read a f).1
    rw [nodeL_succ]
    split
    · exact nodeL_len H a p c (f + 1) ⟨s.fd, s.es, s.ws ++ [(H.read a f).1]⟩
    · split
      · exact hn.1
      · exact Nat.le_trans hn.1 (nodeL_len H a p c (f + 1) ⟨(numP H s.fd (H.read a f).1).1, s.es ++ [(numP H s.fd (H.read a f).1).2.1], s.ws⟩)
theorem nodesL_some {H : PH} {c : Nat} {fd : List Int} {nd : List GNd} {a : Int} (ha : fd[nd.length]? = some a) : nodesL H (c + 1) fd nd = if (nodeL H a (H.head a).1.p (H.head a).1.l.toNat 0 ⟨fd, [], []⟩).2 = false then (((nodeL H a (H.head a).1.p (H.head a).1.l.toNat 0 ⟨fd, [], []⟩).1.fd, nd), false) else nodesL H c (nodeL H a (H.head a).1.p (H.head a).1.l.toNat 0 ⟨fd, [], []⟩).1.fd (nd ++ [⟨(H.head a).1.k, (nodeL H a (H.head a).1.p (H.head a).1.l.toNat 0 ⟨fd, [], []⟩).1.es, (nodeL H a (H.head a).1.p (H.head a).1.l.toNat 0 ⟨fd, [], []⟩).1.ws⟩]) := by
  conv => lhs; unfold nodesL
  rw [ha]
theorem nodesL_none {H : PH} {c : Nat} {fd : List Int} {nd : List GNd} (ha : fd[nd.length]? = none) : nodesL H (c + 1) fd nd = ((fd, nd), true) := by
  conv => lhs; unfold nodesL
  rw [ha]
def lenAt (w : World) (a : Addr) : Nat := match w.cell? a with
  | some (.slice _ l _) => l
  | _ => 0

section
variable {w0 w : World} {Ls : List (List Ent)} {i : HId} {H : PH}
theorem apNode {r : Rw} {K : Option Addr → Nat → Nat → World → Prop} {x : Option Addr} {m c : Nat} {news : List Value} (hO : Owns w0 w (r.ent 78 :: Ls)) (hr : r.ok 3) (hl : news.length = m * 3) (hx : x = none → m = 0) (hnews : ∀ a, x = some a → ∀ j u, news[j]? = some u → w.cell? (a.add j) = some u) (h1 : ∀ u ∈ news, u.oneCell' = true) (hb : r.n + m ≤ 1000000000)
    (hK : ∀ (r' : Rw) (w' : World), r'.ok 3 → r'.xs = r.xs ++ news → r'.n = r.n + m → Owns w0 w' (r'.ent 78 :: Ls) → (r.sp = [] → Old w w') → K r'.at_ r'.n r'.c w') : ApW Pg 35 35 (.slice r.at_ r.n r.c) (.slice x m c) w K :=
  ap_i (e := 78) rfl rfl rfl rfl hO hr hl hx hnews h1 (by simp only [maxLen]; omega) (by show (r.n + m) * 56 ≤ _; omega) hK

set_option maxHeartbeats 4000000 in
theorem of_l1 {b1 b3 fb mr : Nat} {rp : Option Addr} {rl rc : Nat} {fd0 : List Int} {fr0 : Rw} {K0 : Tup f7_l1_o2 → World → Prop} {Kr : Tup f7_l1_or → World → Prop} (hok : H.ok) (hfit : ∀ k, (H.head k).2 = 0 → k + (H.head k).1.l < H.words.length) (hrg : H.fits) (hfd0 : FdOk H fd0) (hfr0 : fr0.ok 1) (hfx0 : fr0.xs = fd0.map (.int .i64))
    (hO : Owns w0 w ([cl b3 37 [.slice rp rl rc, .slice none 0 0]] :: fdE fb mr i fr0 fd0 :: fr0.ent 3 :: hpE i H :: [cl b1 37 [.slice none 0 0, .slice none 0 0]] :: Ls))
    (hK1 : ∀ (fd : List Int) (nds : List GNd) (nr : Rw) (N X1 X2 : List Ent) w', nodesL H (H.top + 1) fd0 [] = ((fd, nds), true) → nr.ok 3 → NdsE N nds nr.xs →
      Owns w0 w' ([cl b3 37 [.slice rp rl rc, .slice nr.at_ nr.n nr.c]] :: nr.ent 78 :: N :: X1 :: X2 :: hpE i H :: [cl b1 37 [.slice none 0 0, .slice none 0 0]] :: Ls) → K0 ⟨some ⟨b1, 0, none⟩, some ⟨b3, 0, none⟩, ()⟩ w')
    (hK2 : ∀ (x : List Int × List GNd) w', nodesL H (H.top + 1) fd0 [] = (x, false) → Owns w0 w' (hpE i H :: [cl b1 37 [.slice none 0 0, .slice none 0 0]] :: Ls) → Kr ⟨some ⟨b1, 0, none⟩, 5, ()⟩ w') :
    LoopP Pg 73 f7_l1_B f7_l1_A ⟨some ⟨b1, 0, none⟩, some ⟨fb, 0, none⟩, some ⟨b3, 0, none⟩, ()⟩ w (K0, Kr, ()) := by
  let St : World → Prop := fun w => ∃ (fd : List Int) (nds : List GNd) (fr nr : Rw) (N : List Ent), nodesL H (H.top + 1 - nds.length) fd nds = nodesL H (H.top + 1) fd0 [] ∧ nds.length ≤ fd.length ∧ FdOk H fd ∧ fr.ok 1 ∧ fr.xs = fd.map (.int .i64) ∧ nr.ok 3 ∧ NdsE N nds nr.xs ∧
    Owns w0 w ([cl b3 37 [.slice rp rl rc, .slice nr.at_ nr.n nr.c]] :: nr.ent 78 :: N :: fdE fb mr i fr fd :: fr.ent 3 :: hpE i H :: [cl b1 37 [.slice none 0 0, .slice none 0 0]] :: Ls)
  let Inv : Option Addr → Option Addr → Option Addr → World → Prop := fun r1 r2 r3 w => r1 = some ⟨b1, 0, none⟩ ∧ r2 = some ⟨fb, 0, none⟩ ∧ r3 = some ⟨b3, 0, none⟩ ∧ St w
  refine LoopP_intro (ann := f7_ann) follows (fun x w => Inv x.1 x.2.1 x.2.2.1 w) (fun _ w => H.top + 1 - lenAt w ⟨b3, 1, none⟩)
    ⟨rfl, rfl, rfl, fd0, [], fr0, Rw.none_, [], rfl, Nat.zero_le _, hfd0, hfr0, hfx0, Rw.none_ok, rfl, hO.perm (.refl _)⟩ (fun x w h => (f7_l1_eq _ _ _ _ _ _ _).mpr ?_)
  suffices S : ∀ (r1 r2 r3 : Option Addr), Inv r1 r2 r3 w → f7_l1 r1 r2 r3 w (fun x w' => Inv x.1 x.2.1 x.2.2.1 w' ∧ H.top + 1 - lenAt w' ⟨b3, 1, none⟩ < H.top + 1 - lenAt w ⟨b3, 1, none⟩) _ _ from S _ _ _ h
  clear h x hO
  rintro _ _ _ ⟨rfl, rfl, rfl, fd, nds, fr, nr, N, hb, hle, hfd, hfr, hfx, hnr, hnx, hO⟩
  unfold f7_l1
  have hfn : fr.n = fd.length := by have := hfr.len; rw [hfx, List.length_map] at this; omega
  have hnn : nr.n = nds.length := by have := hnr.len; rw [hnx.len] at this; omega
  have hfb := hfd.bound
  have htop := hok.top
  have hbig := hok.big
  have hlen0 : lenAt w ⟨b3, 1, none⟩ = nds.length := by unfold lenAt; rw [(hO.row 0 0 rfl).cell, ← hnn]; rfl
  replace hO := hO.drew
  refine nn_i ?_
  refine ls_i hO (k := 0) (j := 0) rfl rfl rfl ?_
  refine nn_i ?_
  refine ls_i hO (k := 3) (j := 0) rfl rfl rfl ?_
  rw [hfn, hnn]
  refine bif_d (fun h => ?_) (fun h => ?_)
  · obtain ⟨a, ha⟩ : ∃ a, fd[nds.length]? = some a := ⟨_, List.getElem?_eq_getElem (by omega)⟩
    obtain ⟨ho1, ho2⟩ := hfd.obs a (List.mem_of_getElem? ha)
    have hg := goodH_iff.1 (PH.head_good ho1).2
    have hstep := nodesL_some (H := H) (c := H.top + 1 - (nds.length + 1)) ha
    rw [show H.top + 1 - (nds.length + 1) + 1 = H.top + 1 - nds.length by omega] at hstep
    rw [hstep] at hb
    have fin : ∀ (s : NSt) (fr2 er wr nr2 : Rw) (w' : World), nodeL H a (H.head a).1.p (H.head a).1.l.toNat 0 ⟨fd, [], []⟩ = (s, true) → fr2.ok 1 → fr2.xs = s.fd.map (.int .i64) → er.ok 1 → er.xs = s.es.map (.int .i64) → wr.ok 1 → wr.xs = s.ws.map (.int .i64) → nr2.ok 3 → nr2.xs = nr.xs ++ [.int .i64 (H.head a).1.k, .slice er.at_ er.n er.c, .slice wr.at_ wr.n wr.c] → nr2.n = nr.n + 1 → Blk w' b3 37 [.slice rp rl rc, .slice nr2.at_ nr2.n nr2.c] →
        Owns w0 w' ([cl b3 37 [.slice rp rl rc, .slice nr2.at_ nr2.n nr2.c]] :: nr2.ent 78 :: ((er.ent 3 ++ wr.ent 3) ++ N) :: fdE fb mr i fr2 s.fd :: fr2.ent 3 :: hpE i H :: [cl b1 37 [.slice none 0 0, .slice none 0 0]] :: Ls) →
        St w' ∧ H.top + 1 - lenAt w' ⟨b3, 1, none⟩ < H.top + 1 - lenAt w ⟨b3, 1, none⟩ := by
      intro s fr2 er wr nr2 w' hnode hfr2 hfx2 her hex hwr hwx hnr2 hnx2 hnn2 hB hO
      rw [hnode] at hb
      rw [if_neg (by simp)] at hb
      have hen : er.n = s.es.length := by have := her.len; rw [hex, List.length_map] at this; omega
      have hwn : wr.n = s.ws.length := by have := hwr.len; rw [hwx, List.length_map] at this; omega
      have hlen1 : lenAt w' ⟨b3, 1, none⟩ = nds.length + 1 := by unfold lenAt; rw [hB.cell, ← hnn, ← hnn2]; rfl
      have hfd2 : FdOk H s.fd := by
        have := FdOk.node (H := H) (a := a) (p := (H.head a).1.p) (c := (H.head a).1.l.toNat) (f := 0) (s := ⟨fd, [], []⟩) hfd
        rw [hnode] at this
        exact this
      have hmon : fd.length ≤ s.fd.length := by
        have := nodeL_len H a (H.head a).1.p (H.head a).1.l.toNat 0 ⟨fd, [], []⟩
        rw [hnode] at this
        exact this
      refine ⟨⟨s.fd, nds ++ [⟨(H.head a).1.k, s.es, s.ws⟩], fr2, nr2, _, ?_, ?_, hfd2, hfr2, hfx2, hnr2, ?_, hO⟩, by rw [hlen0, hlen1]; omega⟩
      · rw [List.length_append]
        exact hb
      · simp; omega
      · rw [hnx2, hen, hwn]
        exact NdsE.snoc (g := ⟨(H.head a).1.k, s.es, s.ws⟩) (Rw.intsE (T := 3) her hex fun y hy => by simp [hy]) (Rw.intsE (T := 3) hwr hwx fun y hy => by simp [hy]) (hnx.mono fun y hy => by simp [hy])
    have bad : ∀ (s : NSt) (w' : World), nodeL H a (H.head a).1.p (H.head a).1.l.toNat 0 ⟨fd, [], []⟩ = (s, false) → Owns w0 w' (hpE i H :: [cl b1 37 [.slice none 0 0, .slice none 0 0]] :: Ls) → Kr ⟨some ⟨b1, 0, none⟩, 5, ()⟩ w' := by
      intro s w' hnode hO
      rw [hnode] at hb
      rw [if_pos rfl] at hb
      exact hK2 _ _ hb.symm hO
    replace hO := hO.drew
    refine nn_i ?_
    refine ls_i hO (k := 3) (j := 0) rfl rfl rfl ?_
    refine nn_i ?_
    refine ls_i hO (k := 0) (j := 0) rfl rfl rfl ?_
    refine ⟨by omega, by omega, ?_⟩
    obtain ⟨qa, hqa, hqc⟩ := Rw.rdI (hO.has 4 rfl) hfr hfx _ _ ha
    rw [hqa]
    refine nn_i ?_
    refine LI_i (n := a) (by rw [hnn]; exact hqc) ?_
    refine ⟨?_, ?_⟩
    · refine node_spec hok hfit hrg hg.2.2.1 hg.2.2.2.1 hfr hfx (by omega) ((((hO.pick 5).pick 5).pick 5)) ?_ ?_
      · intro s fr2 er wr w' hnode hfr2 hfx2 her hex hwr hwx hO
        refine ⟨_, _, _, _, _, _, _, _, rfl, ?_⟩
        refine newo_i hO fun _ _ hO => ?_
        (refine st_i hO (k := 0) (j := 0) rfl rfl rfl trivial fun _ hO => ?_)
        (refine st_i hO (k := 0) (j := 0) rfl rfl rfl trivial fun _ hO => ?_)
        (refine st_i hO (k := 0) (j := 0) rfl rfl rfl trivial fun _ hO => ?_)
        try dsimp only [pick1, set2, List.set] at hO
        rw [show (!true) = false from rfl, cond_false]
        refine nn_i ?_
        refine ls_i hO (k := 6) (j := 0) rfl rfl rfl ?_
        refine ⟨_, _, _, _, _, _, _, ca_i hO (k := 0) (j := 0) rfl rfl, rfl, ?_⟩
        refine new_i hO fun ba _ hO => ?_
        refine apNode (r := nr) (m := 1) (news := [.int .i64 (H.head a).1.k, .slice er.at_ er.n er.c, .slice wr.at_ wr.n wr.c]) (hO.pick 8) hnr rfl (fun h => by cases h) (fun a ha j u hu => by cases ha; rw [add_mk, Nat.zero_add, (hO.row 0 0 rfl).cell]; exact hu) (by simp [Value.oneCell']) (by omega) ?_
        intro nr2 w5 hnr2 hnx2 hnn2 hO _
        try dsimp only [pick1, set2, List.set] at hO
        refine nn_i ?_
        refine st_i hO (k := 8) (j := 0) rfl rfl rfl trivial fun _ hO => ?_
        try dsimp only [pick1, set2, List.set] at hO
        have hfin := fin s fr2 er wr nr2 _ hnode hfr2 hfx2 her hex hwr hwx hnr2 hnx2 hnn2 (hO.row 8 0 rfl) ((((((((((((hO.pick 7).pick 7).pick 7).pick 9).pick 8).pick 8))).merge.merge).pick 4).pick 7).cut 6 2)
        exact ⟨⟨rfl, rfl, rfl, hfin.1⟩, hfin.2⟩
      · intro s fr2 w' hnode hfr2 hfx2 hO
        refine ⟨_, _, _, _, _, _, _, _, rfl, ?_⟩
        refine newo_i hO fun _ _ hO => ?_
        (refine st_i hO (k := 0) (j := 0) rfl rfl rfl trivial fun _ hO => ?_)
        (refine st_i hO (k := 0) (j := 0) rfl rfl rfl trivial fun _ hO => ?_)
        (refine st_i hO (k := 0) (j := 0) rfl rfl rfl trivial fun _ hO => ?_)
        try dsimp only [pick1, set2, List.set] at hO
        rw [show (!false) = true from rfl, cond_true]
        refine nn_i ?_
        refine st_i hO (k := 7) (j := 0) rfl rfl rfl trivial fun _ hO => ?_
        refine st_i hO (k := 7) (j := 0) rfl rfl rfl trivial fun _ hO => ?_
        try dsimp only [pick1, set2, List.set] at hO
        exact bad s _ hnode (((hO.pick 7).pick 4).cut 2 6)
    · refine newo_i hO fun _ _ hO => ?_
      refine node_spec hok hfit hrg hg.2.2.1 hg.2.2.2.1 hfr hfx (by omega) ((((hO.pick 6).pick 6).pick 6)) ?_ ?_
      · intro s fr2 er wr w' hnode hfr2 hfx2 her hex hwr hwx hO
        refine ⟨_, _, _, _, _, _, _, _, rfl, ?_⟩
        replace hO := hO.pick 5
        try dsimp only [pick1, set2, List.set] at hO
        (refine st_i hO (k := 0) (j := 0) rfl rfl rfl trivial fun _ hO => ?_)
        (refine st_i hO (k := 0) (j := 0) rfl rfl rfl trivial fun _ hO => ?_)
        (refine st_i hO (k := 0) (j := 0) rfl rfl rfl trivial fun _ hO => ?_)
        try dsimp only [pick1, set2, List.set] at hO
        rw [show (!true) = false from rfl, cond_false]
        refine nn_i ?_
        refine ls_i hO (k := 6) (j := 0) rfl rfl rfl ?_
        refine ⟨_, _, _, _, _, _, _, ca_i hO (k := 0) (j := 0) rfl rfl, rfl, ?_⟩
        refine new_i hO fun ba _ hO => ?_
        refine apNode (r := nr) (m := 1) (news := [.int .i64 (H.head a).1.k, .slice er.at_ er.n er.c, .slice wr.at_ wr.n wr.c]) (hO.pick 8) hnr rfl (fun h => by cases h) (fun a ha j u hu => by cases ha; rw [add_mk, Nat.zero_add, (hO.row 0 0 rfl).cell]; exact hu) (by simp [Value.oneCell']) (by omega) ?_
        intro nr2 w5 hnr2 hnx2 hnn2 hO _
        try dsimp only [pick1, set2, List.set] at hO
        refine nn_i ?_
        refine st_i hO (k := 8) (j := 0) rfl rfl rfl trivial fun _ hO => ?_
        try dsimp only [pick1, set2, List.set] at hO
        have hfin := fin s fr2 er wr nr2 _ hnode hfr2 hfx2 her hex hwr hwx hnr2 hnx2 hnn2 (hO.row 8 0 rfl) ((((((((((((hO.pick 7).pick 7).pick 7).pick 9).pick 8).pick 8))).merge.merge).pick 4).pick 7).cut 6 2)
        exact ⟨⟨rfl, rfl, rfl, hfin.1⟩, hfin.2⟩
      · intro s fr2 w' hnode hfr2 hfx2 hO
        refine ⟨_, _, _, _, _, _, _, _, rfl, ?_⟩
        replace hO := hO.pick 3
        try dsimp only [pick1, set2, List.set] at hO
        (refine st_i hO (k := 0) (j := 0) rfl rfl rfl trivial fun _ hO => ?_)
        (refine st_i hO (k := 0) (j := 0) rfl rfl rfl trivial fun _ hO => ?_)
        (refine st_i hO (k := 0) (j := 0) rfl rfl rfl trivial fun _ hO => ?_)
        try dsimp only [pick1, set2, List.set] at hO
        rw [show (!false) = true from rfl, cond_true]
        refine nn_i ?_
        refine st_i hO (k := 7) (j := 0) rfl rfl rfl trivial fun _ hO => ?_
        refine st_i hO (k := 7) (j := 0) rfl rfl rfl trivial fun _ hO => ?_
        try dsimp only [pick1, set2, List.set] at hO
        exact bad s _ hnode (((hO.pick 7).pick 4).cut 2 6)
  · have hend : nodesL H (H.top + 1 - nds.length) fd nds = ((fd, nds), true) := by
      have hl : fd.length ≤ nds.length := by omega
      rw [show H.top + 1 - nds.length = (H.top - nds.length) + 1 by omega]
      exact nodesL_none (List.getElem?_eq_none hl)
    rw [hend] at hb
    exact hK1 fd nds nr N _ _ _ hb.symm hnr hnx hO
end

end Go.Proofs.Ytokpbanandikpaa

set_option maxRecDepth 100000
set_option linter.unusedVariables false
set_option linter.unusedSimpArgs false
namespace Go.Proofs.Ytokpbanandikpaa
open Go Go.V Go.Proofs
/-! ### a heap's form -/
def formP (H : PH) (rs : List Int) : Option GForm := if (rootsL H rs [] []).2 = false then none else if (nodesL H (H.top + 1) (rootsL H rs [] []).1.1 []).2 = false then none else some ⟨(rootsL H rs [] []).1.2, (nodesL H (H.top + 1) (rootsL H rs [] []).1.1 []).1.2⟩

section
variable {w0 w : World} {Ls : List (List Ent)} {K : Value → World → Prop} {i : HId} {H : PH}

set_option maxHeartbeats 2000000 in
theorem of_spec {q : Rw} {rs : List Int} (hok : H.ok) (hfit : ∀ k, (H.head k).2 = 0 → k + (H.head k).1.l < H.words.length) (hrg : H.fits) (hrs : ∀ x ∈ rs, -9223372036854775808 < x ∧ x ≤ 9223372036854775807) (hlen : rs.length ≤ 10000) (hq : q.ok 1) (hqx : q.xs = rs.map (.int .i64))
    (hO : Owns w0 w (hpE i H :: q.ent 3 :: Ls))
    (hK1 : ∀ (g : GForm) (rr nr : Rw) (N : List Ent) w', formP H rs = some g → rr.ok 1 → rr.xs = g.roots.map (.int .i64) → nr.ok 3 → NdsE N g.nodes nr.xs → Owns w0 w' (rr.ent 3 :: nr.ent 78 :: N :: hpE i H :: q.ent 3 :: Ls) → K (.tuple ⟨[.agg ⟨[.slice rr.at_ rr.n rr.c, .slice nr.at_ nr.n nr.c]⟩, .int .i64 0]⟩) w')
    (hK2 : ∀ w', formP H rs = none → Owns w0 w' (hpE i H :: q.ent 3 :: Ls) → K (.tuple ⟨[.agg ⟨[.slice none 0 0, .slice none 0 0]⟩, .int .i64 5]⟩) w') :
    Ret Pg 7 [hpP i, .slice q.at_ q.n q.c] w K := by
  refine f7_ret ?_
  unfold f7
  refine new_i hO fun b1 w1 hO => ?_
  refine new_i (hO.alloc (.map #[] 0)) fun fb w2 hO => ?_
  refine new_i hO fun b3 w3 hO => ?_
  refine of_l0 (i := i) (Ls := Ls) (w0 := w0) (fr0 := Rw.none_) (mr := w1.heap.size) hok hrs hlen hq hqx Rw.none_ok rfl ?_ ?_ ?_
  · exact ((((((((hO.pick 3).pick 5).pick 5).pick 5).pick 5).pick 5))).perm (.refl _)
  · intro fd rt fr rr w4 hr hfd hfr hfx hrr hrx hrl hO
    show f7_j1 (some ⟨b1, 0, none⟩) (some ⟨fb, 0, none⟩) (some ⟨b3, 0, none⟩) w4 K
    unfold f7_j1
    refine of_l1 (Ls := rr.ent 3 :: q.ent 3 :: Ls) hok hfit hrg hfd hfr hfx ((((((hO.pick 6).pick 5).pick 5).pick 5).pick 4)) ?_ ?_
    · intro fd2 nds nr N X1 X2 w5 hn hnr hnx hO
      refine nn_i ?_
      (refine ⟨_, _, _, _, _, _, (by (refine ca_i hO (k := 0) (j := 0) rfl rfl)), rfl, ?_⟩)
      refine nn_i ?_
      (refine st_i hO (k := 6) (j := 0) rfl rfl rfl trivial fun _ hO => ?_)
      (refine st_i hO (k := 6) (j := 0) rfl rfl rfl trivial fun _ hO => ?_)
      try dsimp only [pick1, set2, List.set] at hO
      refine nn_i ?_
      refine ⟨_, _, _, _, _, _, ca_i hO (k := 6) (j := 0) rfl rfl, rfl, ?_⟩
      refine hK1 ⟨rt, nds⟩ rr nr N _ ?_ hrr hrx hnr hnx ((((((hO.pick 8).pick 6).pick 4).pick 4).pick 8).cut 5 4)
      unfold formP
      rw [hr]
      simp only [Bool.true_eq_false, if_false, hn]
    · intro x w5 hn hO
      refine nn_i ?_
      refine ⟨_, _, _, _, _, _, ca_i hO (k := 1) (j := 0) rfl rfl, rfl, ?_⟩
      refine hK2 _ ?_ (((hO.pick 3).pick 1).cut 2 2)
      unfold formP
      rw [hr]
      simp only [Bool.true_eq_false, if_false, hn, if_true]
  · intro x w4 hr hO
    refine nn_i ?_
    refine ⟨_, _, _, _, _, _, ca_i hO (k := 2) (j := 0) rfl rfl, rfl, ?_⟩
    refine hK2 _ ?_ (hO.cut 2 1)
    unfold formP
    rw [hr]
    simp only [if_true]
end

end Go.Proofs.Ytokpbanandikpaa

set_option maxRecDepth 100000
set_option linter.unusedVariables false
set_option linter.unusedSimpArgs false
namespace Go.Proofs.Ytokpbanandikpaa
open Go Go.V Go.Proofs
/-! ### a form's nodes, read -/
def NdsR (w : World) (p : Option Addr) (l : List GNd) : Prop := ∀ (j : Nat) (g : GNd), l[j]? = some g → ∃ a ep ec wp wc, p = some a ∧ w.cell? (Addr.at_ a (j : Int) 3) = some (.int .i64 g.k) ∧ w.cell? ((Addr.at_ a (j : Int) 3).add 1) = some (.slice ep g.es.length ec) ∧ w.cell? ((Addr.at_ a (j : Int) 3).add 2) = some (.slice wp g.ws.length wc) ∧ RdI w .i64 ep g.es ∧ RdI w .i64 wp g.ws
def wordsN : List GNd → Int
  | [] => 0
  | g :: r => 1 + g.es.length + g.ws.length + wordsN r
theorem IntsE.rdI {w : World} {E : List Ent} {p : Option Addr} {xs : List Int} (h : IntsE E p xs) (hE : Has w E) : RdI w .i64 p xs := by
  intro i x hx
  obtain ⟨b, o, cs, T, rfl, hm, hc⟩ := h i x hx
  have hB : Blk w b T cs := hE _ hm
  refine ⟨_, rfl, ?_⟩
  rw [at_mk, hB.cell, ← hc]
  congr 1
  omega
theorem NdsE.get {E : List Ent} : ∀ {l : List GNd} {cs : List Value}, NdsE E l cs → ∀ {j : Nat} {g : GNd}, l[j]? = some g → ∃ ep ec wp wc, cs[j * 3]? = some (.int .i64 g.k) ∧ cs[j * 3 + 1]? = some (.slice ep g.es.length ec) ∧ cs[j * 3 + 2]? = some (.slice wp g.ws.length wc) ∧ IntsE E ep g.es ∧ IntsE E wp g.ws
  | [], _, _, j, g, h => by cases h
  | x :: r, cs, ⟨ep, ec, wp, wc, rest, e, h1, h2, h3⟩, j, g, h => by
    subst e
    cases j with
    | zero =>
      have : x = g := by simpa using h
      subst this
      exact ⟨ep, ec, wp, wc, rfl, rfl, rfl, h1, h2⟩
    | succ j =>
      obtain ⟨a1, a2, a3, a4, b1, b2, b3, b4, b5⟩ := NdsE.get h3 (j := j) (g := g) (by simpa using h)
      have e : ∀ k, (ndc x ep ec wp wc ++ rest)[(j + 1) * 3 + k]? = rest[j * 3 + k]? := fun k => by
        rw [List.getElem?_append_right (by simp [ndc]; omega)]
        congr 1
        simp [ndc]
        omega
      exact ⟨a1, a2, a3, a4, by rw [← b1]; exact e 0, by rw [← b2]; exact e 1, by rw [← b3]; exact e 2, b4, b5⟩
theorem NdsE.read {w : World} {r : Rw} {T : TypeId} {N : List Ent} {l : List GNd} (hr : r.ok 3) (h : NdsE N l r.xs) (hE : Has w (r.ent T)) (hN : Has w N) : NdsR w r.at_ l := by
  intro j g hg
  obtain ⟨ep, ec, wp, wc, c0, c1, c2, h1, h2⟩ := h.get hg
  have hlt := (List.getElem?_eq_some_iff.1 hg).1
  have hl := h.len
  have hrl := hr.len
  cases hp : r.p with
  | none => have := hr.nil hp; have := hr.le; omega
  | some b =>
    have hB : Blk w b T (r.xs ++ r.sp) := hE (cl b T (r.xs ++ r.sp)) (by simp [Rw.ent, hp])
    have e : ∀ k v, k < 3 → r.xs[j * 3 + k]? = some v → w.cell? ⟨b, 0 + (j : Int).toNat * 3 + k, none⟩ = some v := fun k v hk hv => by
      rw [hB.cell, List.getElem?_append_left (by omega), ← hv]
      congr 1
      omega
    refine ⟨⟨b, 0, none⟩, ep, ec, wp, wc, by simp [Rw.at_, hp], ?_, ?_, ?_, h1.rdI hN, h2.rdI hN⟩
    · rw [at_mk]; exact e 0 _ (by omega) c0
    · rw [at_mk, add_mk]; exact e 1 _ (by omega) c1
    · rw [at_mk, add_mk]; exact e 2 _ (by omega) c2

end Go.Proofs.Ytokpbanandikpaa

set_option maxRecDepth 100000
set_option linter.unusedVariables false
set_option linter.unusedSimpArgs false
namespace Go.Proofs.Ytokpbanandikpaa
open Go Go.V Go.Proofs
/-! ### how many words a form has -/
structure ndOk (g : GNd) : Prop where
  es : g.es.length ≤ 10000
  ws : g.ws.length ≤ 10000
theorem wordsN_append : ∀ (a b : List GNd), wordsN (a ++ b) = wordsN a + wordsN b
  | [], _ => by simp [wordsN]
  | x :: r, b => by simp only [List.cons_append, wordsN, wordsN_append r b]; omega
theorem wordsN_take {l : List GNd} {j : Nat} {g : GNd} (h : l[j]? = some g) : wordsN (l.take (j + 1)) = wordsN (l.take j) + (1 + g.es.length + g.ws.length) := by
  obtain ⟨hl, he⟩ := List.getElem?_eq_some_iff.1 h
  rw [List.take_succ_eq_append_getElem hl, wordsN_append, he]
  simp [wordsN]
theorem wordsN_bound : ∀ {l : List GNd}, (∀ g ∈ l, ndOk g) → 0 ≤ wordsN l ∧ wordsN l ≤ 20001 * l.length
  | [], _ => ⟨Int.le_refl 0, by simp [wordsN]⟩
  | x :: r, h => by
    have h1 := wordsN_bound (l := r) fun g hg => h g (by simp [hg])
    have h2 := (h x (by simp)).es
    have h3 := (h x (by simp)).ws
    simp only [wordsN, List.length_cons]
    omega
section
variable {w : World} {K : Value → World → Prop}
theorem words_spec {rp np : Option Addr} {rl rc nl nc : Nat} {l : List GNd} (hin : NdsR w np l) (hnl : nl = l.length) (hok : ∀ g ∈ l, ndOk g) (hlen : l.length ≤ 1000000) (hK : ∀ w', Old w w' → K (.int .i64 (wordsN l)) w') : Ret Pg 8 [.agg ⟨[.slice rp rl rc, .slice np nl nc]⟩] w K := by
  refine f8_ret ?_
  have hO := Owns.start (w := w)
  unfold f8
  refine new_i hO fun b1 w1 hO => ?_
  (refine ls_i hO (k := 0) (j := 0) rfl rfl rfl ?_)
  let Inv : Int → Sl → Int → Int → World → Prop := fun n s m i w' => n = wordsN (l.take i.toNat) ∧ s = ⟨np, nl, nc⟩ ∧ m = nl ∧ 0 ≤ i ∧ i ≤ nl ∧ Owns w w' []
  refine LoopP_intro (ann := f8_ann) follows (fun x w => Inv x.1 x.2.1 x.2.2.1 x.2.2.2.1 w) (fun x _ => (nl - x.2.2.2.1 : Int).toNat) ⟨rfl, rfl, rfl, Int.le_refl 0, Int.natCast_nonneg _, hO.drop⟩ (fun x w h => (f8_l0_eq _ _ _ _ _ _ _).mpr ?_)
  suffices S : ∀ (n : Int) (s : Sl) (m i : Int), Inv n s m i w → f8_l0 n s m i w (fun x w => Inv x.1 x.2.1 x.2.2.1 x.2.2.2.1 w ∧ (nl - x.2.2.2.1 : Int).toNat < (nl - i : Int).toNat) _ from S _ _ _ _ h
  clear h x hO
  rintro _ _ _ i ⟨rfl, rfl, rfl, h0, hi, hO⟩
  unfold f8_l0
  refine bif_d (fun h => ?_) (fun h => ?_)
  · obtain ⟨g, hg⟩ : ∃ g, l[i.toNat]? = some g := ⟨_, List.getElem?_eq_getElem (by omega)⟩
    obtain ⟨a, ep, ec, wp, wc, rfl, c0, c1, c2, _, _⟩ := hin _ _ hg
    rw [Int.toNat_of_nonneg h0] at c0 c1 c2
    have ok := hok g (List.mem_of_getElem? hg)
    have := ok.es
    have := ok.ws
    have hb := wordsN_bound (l := l.take i.toNat) fun x hx => hok x (List.mem_of_mem_take hx)
    have hb2 : (l.take i.toNat).length ≤ 1000000 := by simp; omega
    refine ⟨h0, h, ?_⟩
    refine nn_i ?_
    refine ⟨g.k, ep, g.es.length, ec, wp, g.ws.length, wc, ⟨hO.cell0 c0, hO.cell0 c1, hO.cell0 c2, trivial⟩, rfl, ?_⟩
    refine new_i hO fun _ _ hO => ?_
    (refine st_i hO (k := 0) (j := 0) rfl rfl rfl trivial fun _ hO => ?_)
    (refine st_i hO (k := 0) (j := 0) rfl rfl rfl trivial fun _ hO => ?_)
    (refine st_i hO (k := 0) (j := 0) rfl rfl rfl trivial fun _ hO => ?_)
    (refine ls_i hO (k := 0) (j := 0) rfl rfl rfl ?_)
    (refine ls_i hO (k := 0) (j := 0) rfl rfl rfl ?_)
    have e1 : IntKind.wrap .i64 (1 + (g.es.length : Nat) : Int) = 1 + (g.es.length : Nat) := wrap64 (by omega) (by omega)
    have e2 : IntKind.wrap .i64 (1 + (g.es.length : Nat) + (g.ws.length : Nat) : Int) = 1 + (g.es.length : Nat) + (g.ws.length : Nat) := wrap64 (by omega) (by omega)
    have e3 : IntKind.wrap .i64 (wordsN (l.take i.toNat) + (1 + (g.es.length : Nat) + (g.ws.length : Nat))) = wordsN (l.take i.toNat) + (1 + (g.es.length : Nat) + (g.ws.length : Nat)) := wrap64 (by omega) (by omega)
    have e5 : IntKind.wrap .i64 (i + 1) = i + 1 := wrap64 (by omega) (by omega)
    rw [e1, e2, e3, e5]
    refine ⟨⟨?_, rfl, rfl, ?_, ?_, hO.dropn 1 rfl⟩, ?_⟩
    · show _ = wordsN (l.take (i + 1).toNat)
      rw [show (i + 1).toNat = i.toNat + 1 by omega, wordsN_take hg]
    · show (0 : Int) ≤ i + 1; omega
    · show i + 1 ≤ (nl : Int); omega
    · show (nl - (i + 1) : Int).toNat < (nl - i : Int).toNat; omega
  · have e : l.take i.toNat = l := List.take_of_length_le (by omega)
    rw [e]
    exact hK _ hO.old
end

end Go.Proofs.Ytokpbanandikpaa

set_option maxRecDepth 100000
set_option linter.unusedVariables false
set_option linter.unusedSimpArgs false
namespace Go.Proofs.Ytokpbanandikpaa
open Go Go.V Go.Proofs
/-! ### a node's head; tallies' rows -/
def headN (g : GNd) : Hd := ⟨g.k, g.es.length + g.ws.length, g.es.length⟩
section
variable {w : World} {K : Value → World → Prop}
theorem nhead_spec {g : GNd} {ep wp : Option Addr} {ec wc : Nat} (hok : ndOk g) (hK : ∀ w', Old w w' → K (hdv (headN g)) w') : Ret Pg 25 [.agg ⟨[.int .i64 g.k, .slice ep g.es.length ec, .slice wp g.ws.length wc]⟩] w K := by
  refine f25_ret ?_
  have hO := Owns.start (w := w)
  unfold f25
  have := hok.es
  have := hok.ws
  refine new_i hO fun _ _ hO => ?_
  refine new_i hO fun _ _ hO => ?_
  (refine li_i hO (k := 1) (j := 0) rfl rfl rfl ?_)
  (refine ls_i hO (k := 1) (j := 0) rfl rfl rfl ?_)
  (refine ls_i hO (k := 1) (j := 0) rfl rfl rfl ?_)
  (refine ls_i hO (k := 1) (j := 0) rfl rfl rfl ?_)
  rw [show IntKind.wrap .i64 (((g.es.length : Nat) : Int) + (g.ws.length : Nat)) = (g.es.length : Nat) + (g.ws.length : Nat) from wrap64 (by omega) (by omega)]
  (refine st_i hO (k := 0) (j := 0) rfl rfl rfl trivial fun _ hO => ?_)
  (refine st_i hO (k := 0) (j := 0) rfl rfl rfl trivial fun _ hO => ?_)
  (refine st_i hO (k := 0) (j := 0) rfl rfl rfl trivial fun _ hO => ?_)
  (refine ⟨_, _, _, (by (refine ca_i hO (k := 0) (j := 0) rfl rfl)), rfl, ?_⟩)
  exact hK _ hO.old
theorem is_spec {b : Nat} {p : Option Addr} {l c : Nat} {n : Int} {T : TypeId} (hB : Blk w b T [.slice p l c]) (hK : K (.bool (decide (0 ≤ n ∧ n < l))) w) : Ret Pg 26 [.int .i64 n, .pointer (some ⟨b, 0, none⟩)] w K := by
  refine f26_ret ?_
  unfold f26
  refine bif_d (fun h => ?_) (fun h => ?_)
  · refine LS_i (by rw [hB.cell]; rfl) ?_
    refine val_i hK ?_
    rw [Value.bool.injEq, Bool.eq_iff_iff]
    simp only [decide_eq_true_eq]
    omega
  · refine val_i hK ?_
    rw [Value.bool.injEq, Bool.eq_iff_iff]
    simp only [decide_eq_true_eq]
    constructor
    · intro hh; omega
    · intro hh; cases hh
theorem plus_spec {n1 n2 n3 n4 : Int} (hK : ∀ w', Old w w' → K (.agg ⟨[.int .i64 (IntKind.wrap .i64 (n1 + n3)), .int .i64 (IntKind.wrap .i64 (n2 + n4))]⟩) w') : Ret Pg 30 [.agg ⟨[.int .i64 n1, .int .i64 n2]⟩, .agg ⟨[.int .i64 n3, .int .i64 n4]⟩] w K := by
  refine f30_ret ?_
  have hO := Owns.start (w := w)
  unfold f30
  refine new_i hO fun _ _ hO => ?_
  refine new_i hO fun _ _ hO => ?_
  refine new_i hO fun _ _ hO => ?_
  (refine li_i hO (k := 2) (j := 0) rfl rfl rfl ?_)
  (refine li_i hO (k := 1) (j := 0) rfl rfl rfl ?_)
  (refine li_i hO (k := 2) (j := 0) rfl rfl rfl ?_)
  (refine li_i hO (k := 1) (j := 0) rfl rfl rfl ?_)
  (refine st_i hO (k := 0) (j := 0) rfl rfl rfl trivial fun _ hO => ?_)
  (refine st_i hO (k := 0) (j := 0) rfl rfl rfl trivial fun _ hO => ?_)
  (refine ⟨_, _, (by (refine ca_i hO (k := 0) (j := 0) rfl rfl)), rfl, ?_⟩)
  exact hK _ hO.old
end

end Go.Proofs.Ytokpbanandikpaa

set_option maxRecDepth 100000
set_option linter.unusedVariables false
set_option linter.unusedSimpArgs false
namespace Go.Proofs.Ytokpbanandikpaa
open Go Go.V Go.Proofs
/-! ### a range over a heap's objects, by what is owned -/
theorem placed_at : ∀ {os : List ROb} {a : Int} {j : Nat} {o : ROb}, placed os a → os[j]? = some o → o.at_ = a + topR (os.take j)
  | [], _, _, _, _, h => by cases h
  | x :: r, a, j, o, hp, h => by
    cases j with
    | zero =>
      have : x = o := by simpa using h
      subst this
      simp [topR, hp.1]
    | succ j =>
      have := placed_at hp.2 (j := j) (by simpa using h)
      rw [this, List.take_succ_cons]
      simp only [topR]
      omega
theorem HR.word {H : PH} {os : List ROb} {rest : List Int} (h : HR H os rest) {j : Nat} {o : ROb} (ho : os[j]? = some o) : H.word o.at_ = packH o.h ∧ o.at_ + 1 + o.h.l ≤ H.top ∧ 0 ≤ o.at_ ∧ goodH o.h = true := by
  obtain ⟨c1, c2, c3⟩ := words_at (rest := rest) h.placed h.obs ho
  have hm := List.mem_of_getElem? ho
  have hge := placed_ge h.placed h.obs o hm
  have ht := h.top
  refine ⟨?_, by omega, by omega, (h.obs o hm).good⟩
  unfold PH.word
  rw [h.words, show o.at_.toNat = (o.at_ - 0).toNat by omega, c1]
  rfl

section
variable {w0 w : World} {Ls : List (List Ent)} {K : Value → World → Prop} {i : HId} {H : PH} {os : List ROb} {rest : List Int}

theorem walk1_own {yv : Value} {b : Nat} {Tb : TypeId} {C0 : List (List Ent)} (C : Nat → List (List Ent) → Prop) (D : List (List Ent) → Prop) (hok : H.ok) (hR : HR H os rest)
    (round : ∀ (j : Nat) (o : ROb) (C0 Ls : List (List Ent)) (w : World), C j C0 → os[j]? = some o → Owns w0 w ([cl b Tb [hpP i]] :: hpE i H :: (C0 ++ Ls)) →
      CvW Pg true yv [.int .i64 o.at_, hdv o.h] w fun v w' => (v = .bool true ∧ ∃ C1, C (j + 1) C1 ∧ Owns w0 w' ([cl b Tb [hpP i]] :: hpE i H :: (C1 ++ Ls))) ∨ (v = .bool false ∧ ∃ C1, D C1 ∧ Owns w0 w' ([cl b Tb [hpP i]] :: hpE i H :: (C1 ++ Ls))))
    (hK1 : ∀ C1 w', C os.length C1 → Owns w0 w' ([cl b Tb [hpP i]] :: hpE i H :: (C1 ++ Ls)) → K (.tuple ⟨[]⟩) w')
    (hK2 : ∀ C1 w', D C1 → Owns w0 w' ([cl b Tb [hpP i]] :: hpE i H :: (C1 ++ Ls)) → K (.tuple ⟨[]⟩) w')
    (h0 : C 0 C0) (hO : Owns w0 w ([cl b Tb [hpP i]] :: hpE i H :: (C0 ++ Ls))) : Ret Pg 45 [yv, .pointer (some ⟨b, 0, none⟩)] w K := by
  refine f45_ret ?_
  unfold f45
  have hbig := hok.big
  have htop := hok.top
  let Inv : Value → Option Addr → Int → World → Prop := fun v p n w => yv = v ∧ some ⟨b, 0, none⟩ = p ∧ ∃ (j : Nat) (C1 : List (List Ent)), C j C1 ∧ j ≤ os.length ∧ n = topR (os.take j) ∧ Owns w0 w ([cl b Tb [hpP i]] :: hpE i H :: (C1 ++ Ls))
  refine LoopP_intro (ann := f45_ann) follows (fun x w => Inv x.1 x.2.1 x.2.2.1 w) (fun x _ => (H.top - x.2.2.1 : Int).toNat) ⟨rfl, rfl, 0, C0, h0, Nat.zero_le _, rfl, hO⟩ (fun x w h => (f45_l0_eq _ _ _ _ _ _ _).mpr ?_)
  suffices S : ∀ (v : Value) (p : Option Addr) (n : Int), Inv v p n w → f45_l0 v p n w (fun x' w' => Inv x'.1 x'.2.1 x'.2.2.1 w' ∧ (H.top - x'.2.2.1 : Int).toNat < (H.top - n : Int).toNat) _ _ from S _ _ _ h
  clear h x hO
  rintro _ _ _ ⟨rfl, rfl, j, C1, hC, hj, rfl, hO⟩
  unfold f45_l0
  have hlo : lenOk os := ⟨fun o ho => by have := goodH_iff.1 (hR.obs o ho).good; exact ⟨this.2.2.1, this.2.2.2.1⟩, by
    have h1 := hR.len
    have h2 : ∀ (l : List ROb), (∀ o ∈ l, obOk o) → (l.length : Int) ≤ topR l := by
      intro l
      induction l with
      | nil => intro _; simp [topR]
      | cons x r ih =>
        intro h
        have := ih (obs_tail h)
        have := goodH_iff.1 (h x (by simp)).good
        simp only [topR, List.length_cons]
        omega
    have := h2 os hR.obs
    omega⟩
  have hb0 := topR_bound (hlo.take j)
  have htk : (topR (os.take j) < (H.top : Int)) ↔ j < os.length := by
    have ht := hR.top
    constructor
    · intro h
      rcases Nat.lt_or_ge j os.length with h1 | h1
      · exact h1
      · rw [List.take_of_length_le h1] at h; omega
    · intro h
      have hx := List.getElem?_eq_getElem h
      have h1 := hR.word hx
      have h2 := placed_at hR.placed hx
      have h3 := goodH_iff.1 h1.2.2.2
      omega
  refine nn_i ?_
  refine lp_i hO (k := 0) (j := 0) rfl rfl rfl ?_
  refine nn_i ?_
  refine li_i hO (k := 1) (j := 0) rfl rfl rfl ?_
  refine bif_d (fun h => ?_) (fun h => ?_)
  · obtain ⟨o, ho0⟩ : ∃ o, os[j]? = some o := ⟨_, List.getElem?_eq_getElem (htk.1 h)⟩
    obtain ⟨c1, c2, c3, c4⟩ := hR.word ho0
    have hat := placed_at hR.placed ho0
    have hat' : topR (os.take j) = o.at_ := by omega
    rw [hat'] at h ⊢
    have g := goodH_iff.1 c4
    refine nn_i ?_
    refine lp_i hO (k := 0) (j := 0) rfl rfl rfl ?_
    refine nn_i ?_
    refine ls_i hO (k := 1) (j := 0) rfl rfl rfl ?_
    refine ⟨by omega, by omega, ?_⟩
    refine nn_i ?_
    obtain ⟨x, hx⟩ : ∃ x, H.words[o.at_.toNat]? = some x := ⟨_, List.getElem?_eq_getElem (by omega)⟩
    have hw : x = packH o.h := by rw [← c1]; unfold PH.word; rw [hx]; rfl
    refine eli_i (x := x) hO (k := 1) (j := 1) rfl (by rw [List.getElem?_map, hx]; rfl) ?_
    subst hw
    (refine unpack_spec fun _ ho => ?_; replace hO := hO.after ho)
    rw [unpackH_packH c4]
    refine ⟨_, _, _, _, rfl, ?_⟩
    refine new_i hO fun tb _ hO => ?_
    refine st_i hO (k := 0) (j := 0) rfl rfl rfl trivial fun _ hO => ?_
    refine st_i hO (k := 0) (j := 0) rfl rfl rfl trivial fun _ hO => ?_
    refine st_i hO (k := 0) (j := 0) rfl rfl rfl trivial fun _ hO => ?_
    try dsimp only [pick1, set2, List.set] at hO
    refine ⟨_, _, _, ca_i hO (k := 0) (j := 0) rfl rfl, rfl, ?_⟩
    have hO2 : Owns w0 _ ([cl b Tb [hpP i]] :: hpE i H :: (C1 ++ ([cl tb 64 [.int .i64 o.h.k, .int .i64 o.h.l, .int .i64 o.h.p]] :: Ls))) := hO.re (by intro z; simp only [List.append_eq, cnt2_cons, cnt2_app, cnt2_nil, cnt1_app, cnt1_nil, List.cons_append, List.nil_append]; omega)
    refine CvW.mono (round j o C1 _ _ hC ho0 hO2) ?_
    rintro v w' (⟨rfl, C2, hC2, hO⟩ | ⟨rfl, C2, hC2, hO⟩)
    · refine ⟨true, rfl, ?_⟩
      have hO : Owns w0 _ ([cl tb 64 [.int .i64 o.h.k, .int .i64 o.h.l, .int .i64 o.h.p]] :: [cl b Tb [hpP i]] :: hpE i H :: (C2 ++ Ls)) := hO.re (by intro z; simp only [List.append_eq, cnt2_cons, cnt2_app, cnt2_nil, cnt1_app, cnt1_nil, List.cons_append, List.nil_append]; omega)
      refine li_i hO (k := 0) (j := 0) rfl rfl rfl ?_
      have e1 : IntKind.wrap .i64 (1 + o.h.l) = 1 + o.h.l := wrap64 (by omega) (by omega)
      have e2 : IntKind.wrap .i64 (o.at_ + (1 + o.h.l)) = o.at_ + (1 + o.h.l) := wrap64 (by omega) (by omega)
      rw [e1, e2]
      refine ⟨⟨rfl, rfl, j + 1, C2, hC2, (htk.1 (by omega)), ?_, hO.drop⟩, ?_⟩
      · show o.at_ + (1 + o.h.l) = _
        rw [topR_take ho0, hat']; omega
      · show (H.top - (o.at_ + (1 + o.h.l)) : Int).toNat < (H.top - o.at_ : Int).toNat
        omega
    · exact ⟨false, rfl, hK2 _ _ hC2 ((hO.re (Ls' := [cl tb 64 [.int .i64 o.h.k, .int .i64 o.h.l, .int .i64 o.h.p]] :: [cl b Tb [hpP i]] :: hpE i H :: (C2 ++ Ls)) (by intro z; simp only [List.append_eq, cnt2_cons, cnt2_app, cnt2_nil, cnt1_app, cnt1_nil, List.cons_append, List.nil_append]; omega)).drop)⟩
  · have : j = os.length := by omega
    subst this
    exact hK1 _ _ hC hO

/-! ### a range over a function: its loop and its rounds -/
def lpE (l : Nat) (rec : Loop) (st : LoopState) (pd : Option Code) : List Ent := [(l, .loop { rec with state := st, pending := pd })]
theorem seg_at2 : ∀ {Ls : List (List Ent)} {k : Nat} {x : Ent}, Ls[k]? = some [x] → at2 Ls k 0 = some x
  | [], _, _, h => by simp at h
  | s :: r, 0, x, h => by
    have : s = [x] := by simpa using h
    subst this; rfl
  | s :: r, k + 1, x, h => seg_at2 (Ls := r) (by simpa using h)
theorem seg_set2 : ∀ {Ls : List (List Ent)} {k : Nat} {x y : Ent}, Ls[k]? = some [x] → set2 Ls k 0 y = Ls.set k [y]
  | [], _, _, _, h => by simp at h
  | s :: r, 0, x, y, h => by
    have : s = [x] := by simpa using h
    subst this; rfl
  | s :: r, k + 1, x, y, h => by simp only [set2, List.set]; rw [seg_set2 (Ls := r) (by simpa using h)]
theorem busy_i {K : World → Prop} {l k : Nat} {rec : Loop} {pd : Option Code} (hO : Owns w0 w Ls) (hk : Ls[k]? = some (lpE l rec .ready pd)) (hK : ∀ w', Owns w0 w' (Ls.set k (lpE l rec .busy pd)) → K w') : BusyW w l rec pd K :=
  ⟨hO.get (at2_mem (seg_at2 hk)), hK _ (seg_set2 hk ▸ hO.setObj (seg_at2 hk))⟩
theorem end_i {l k : Nat} {rec : Loop} {pd : Option Code} (hO : Owns w0 w Ls) (hk : Ls[k]? = some (lpE l rec .busy pd)) (hK : ∀ w', Owns w0 w' (Ls.set k (lpE l rec .ready none)) → K (.bool true) w') : EndW w l rec K :=
  ⟨⟨pd, hO.get (at2_mem (seg_at2 hk))⟩, hK _ (seg_set2 hk ▸ hO.setObj (seg_at2 hk))⟩
theorem stop_i {l k : Nat} {rec : Loop} {pd : Option Code} (hO : Owns w0 w Ls) (hk : Ls[k]? = some (lpE l rec .busy pd)) (hK : ∀ w', Owns w0 w' (Ls.set k (lpE l rec .done (some .ret))) → K (.bool false) w') : StopW w l rec K :=
  ⟨⟨pd, hO.get (at2_mem (seg_at2 hk))⟩, hK _ (seg_set2 hk ▸ hO.setObj (seg_at2 hk))⟩
theorem take_i {K : World → Prop} {r k : Nat} (hO : Owns w0 w Ls) (hk : Ls[k]? = some [(r, .deferred (some []))]) (hK : ∀ w', Owns w0 w' (Ls.set k [(r, .deferred none)]) → K w') : takeW (some r) w K :=
  ⟨hO.get (at2_mem (seg_at2 hk)), hK _ (seg_set2 hk ▸ hO.setObj (seg_at2 hk))⟩

theorem range_walk {n b : Nat} {ps : Array Tmp} {asg body : Code} {e : Env} {Kn Kr : World → Prop} {C0 : List (List Ent)} (C : Nat → List (List Ent) → Prop) (D : List (List Ent) → Prop) (hok : H.ok) (hR : HR H os rest)
    (round : ∀ (rec : Loop) (l : Nat), RecOf n e ps asg body rec → ∀ (j : Nat) (o : ROb) (C0 Ls : List (List Ent)) (w : World) (K : Value → World → Prop), C j C0 → os[j]? = some o → Owns w0 w (lpE l rec .ready none :: hpE i H :: (C0 ++ Ls)) →
      (∀ C1 w', C (j + 1) C1 → Owns w0 w' (lpE l rec .ready none :: hpE i H :: (C1 ++ Ls)) → K (.bool true) w') →
      (∀ C1 w', D C1 → Owns w0 w' (lpE l rec .done (some .ret) :: hpE i H :: (C1 ++ Ls)) → K (.bool false) w') → YieldW Pg l [.int .i64 o.at_, hdv o.h] w K)
    (h0 : C 0 C0) (hO : Owns w0 w ([cl b 28 [hpP i]] :: hpE i H :: (C0 ++ Ls)))
    (hKn : ∀ C1 w', C os.length C1 → Owns w0 w' ([(w.heap.size, .deferred (some []))] :: hpE i H :: (C1 ++ Ls)) → Kn w')
    (hKr : ∀ C1 w', D C1 → Owns w0 w' ([(w.heap.size, .deferred (some []))] :: hpE i H :: (C1 ++ Ls)) → Kr w') : RangeP Pg n ps asg body e (walkV b) w Kn Kr := by
  intro rec hrec
  unfold walkV CvW
  have hb : hasBody Pg 45 = true := by kernel_rfl
  simp only [hb, cond_true]
  let l := w.heap.size + 1
  have hO1 := hO.alloc (.deferred (some []))
  have hO2 := hO1.alloc (.loop { rec with state := .ready, pending := none })
  have hl : (w.alloc (.deferred (some []))).heap.size = l := by simp [l]
  rw [hl] at hO2
  let C' : Nat → List (List Ent) → Prop := fun j c => ∃ c0, C j c0 ∧ c = lpE l rec .ready none :: c0
  let D' : List (List Ent) → Prop := fun c => ∃ c0, D c0 ∧ c = lpE l rec .done (some .ret) :: c0
  refine walk1_own (w0 := w0) (i := i) (Tb := 28) (Ls := [(w.heap.size, .deferred (some []))] :: Ls) (C0 := lpE l rec .ready none :: C0) C' D' hok hR ?_ ?_ ?_ ⟨C0, h0, rfl⟩ ?_
  · rintro j o _ Ls2 w2 ⟨c0, hc, rfl⟩ ho hO
    show YieldW Pg l _ w2 _
    refine round rec l hrec j o c0 ([cl b 28 [hpP i]] :: Ls2) w2 _ hc ho (hO.re (by intro z; simp only [List.append_eq, cnt2_cons, cnt2_app, cnt2_nil, cnt1_app, cnt1_nil, List.cons_append, List.nil_append]; omega)) ?_ ?_
    · intro C1 w' h1 h2
      exact .inl ⟨rfl, _, ⟨C1, h1, rfl⟩, h2.re (by intro z; simp only [List.append_eq, cnt2_cons, cnt2_app, cnt2_nil, cnt1_app, cnt1_nil, List.cons_append, List.nil_append]; omega)⟩
    · intro C1 w' h1 h2
      exact .inr ⟨rfl, _, ⟨C1, h1, rfl⟩, h2.re (by intro z; simp only [List.append_eq, cnt2_cons, cnt2_app, cnt2_nil, cnt1_app, cnt1_nil, List.cons_append, List.nil_append]; omega)⟩
  · rintro _ w' ⟨c0, hc, rfl⟩ hO
    refine .inl ⟨.ready, by simp, hO.get (x := (l, _)) (by simp [lpE]), ?_⟩
    refine hKn c0 _ hc ?_
    have hO := hO.re (Ls' := [cl b 28 [hpP i]] :: lpE l rec .ready none :: [(w.heap.size, .deferred (some []))] :: hpE i H :: (c0 ++ Ls)) (by intro z; simp only [List.append_eq, cnt2_cons, cnt2_app, cnt2_nil, cnt1_app, cnt1_nil, List.cons_append, List.nil_append]; omega)
    exact (hO.drop.setObj (k := 0) (j := 0) rfl).drop
  · rintro _ w' ⟨c0, hc, rfl⟩ hO
    refine .inr ⟨.done, by simp, hO.get (x := (l, _)) (by simp [lpE]), ?_⟩
    refine hKr c0 _ hc ?_
    have hO := hO.re (Ls' := [cl b 28 [hpP i]] :: lpE l rec .done (some .ret) :: [(w.heap.size, .deferred (some []))] :: hpE i H :: (c0 ++ Ls)) (by intro z; simp only [List.append_eq, cnt2_cons, cnt2_app, cnt2_nil, cnt1_app, cnt1_nil, List.cons_append, List.nil_append]; omega)
    exact (hO.drop.setObj (k := 0) (j := 0) rfl).drop
  · have hO3 : Owns w0 _ (lpE l rec .ready none :: [(w.heap.size, .deferred (some []))] :: [cl b 28 [hpP i]] :: hpE i H :: (C0 ++ Ls)) := hO2
    exact hO3.re (by intro z; simp only [List.append_eq, cnt2_cons, cnt2_app, cnt2_nil, cnt1_app, cnt1_nil, List.cons_append, List.nil_append]; omega)
end

end Go.Proofs.Ytokpbanandikpaa

set_option maxRecDepth 100000
set_option linter.unusedVariables false
set_option linter.unusedSimpArgs false
namespace Go.Proofs.Ytokpbanandikpaa
open Go Go.V Go.Proofs
/-! ### a tally counts -/
def countT (tl : List Int) (k : Nat) (n : Int) : List Int := (tl.set (2 * k) (IntKind.wrap .i64 ((tl[2 * k]?).getD 0 + 1))).set (2 * k + 1) (IntKind.wrap .i64 ((tl[2 * k + 1]?).getD 0 + n))
theorem length_countT (tl : List Int) (k : Nat) (n : Int) : (countT tl k n).length = tl.length := by simp [countT]
section
variable {w0 w : World} {Ls : List (List Ent)} {K : Value → World → Prop}
theorem count_spec {b : Nat} {T : TypeId} {tl : List Int} {k n : Int} (hl : tl.length = 33) (h0 : 0 ≤ k) (h1 : k < 16) (hO : Owns w0 w ([cl b T (tl.map (.int .i64))] :: Ls)) (hK : ∀ w', Owns w0 w' ([cl b T ((countT tl k.toNat n).map (.int .i64))] :: Ls) → K (.tuple ⟨[]⟩) w') : Ret Pg 29 [.pointer (some ⟨b, 0, none⟩), .int .i64 k, .int .i64 n] w K := by
  refine f29_ret ?_
  unfold f29
  obtain ⟨x, hx⟩ : ∃ x, tl[2 * k.toNat]? = some x := ⟨_, List.getElem?_eq_getElem (by omega)⟩
  obtain ⟨y, hy⟩ : ∃ y, tl[2 * k.toNat + 1]? = some y := ⟨_, List.getElem?_eq_getElem (by omega)⟩
  unfold countT at hK
  rw [hx, hy] at hK
  refine nn_i ?_
  refine ⟨h0, by omega, x, y, ?_, rfl, ?_⟩
  · rw [at_mk]
    refine ⟨?_, ?_, trivial⟩
    · rw [add_mk, World.cell?_drew, (hO.row 0 0 rfl).cell, List.getElem?_map, show 0 + k.toNat * 2 + 0 = 2 * k.toNat by omega, hx]; rfl
    · rw [add_mk, World.cell?_drew, (hO.row 0 0 rfl).cell, List.getElem?_map, show 0 + k.toNat * 2 + (0 + 1) = 2 * k.toNat + 1 by omega, hy]; rfl
  refine nn_i ?_
  replace hO := hO.drew
  (refine plus_spec fun _ ho => ?_; replace hO := hO.after ho)
  refine ⟨_, _, rfl, h0, by omega, ?_⟩
  refine st_i hO (k := 0) (j := 0) rfl (by rw [at_mk]) (Nat.ble_eq_true_of_le (by simp; omega)) trivial fun _ hO => ?_
  refine st_i hO (k := 0) (j := 0) rfl (by rw [at_mk, add_mk]) (Nat.ble_eq_true_of_le (by simp; omega)) trivial fun _ hO => ?_
  refine hK _ (hO.to ?_)
  simp only [set2, List.set, ← List.map_set, Option.getD_some]
  rw [show 0 + k.toNat * 2 + 1 = 2 * k.toNat + 1 by omega, show 0 + k.toNat * 2 = 2 * k.toNat by omega]
end

end Go.Proofs.Ytokpbanandikpaa

set_option maxRecDepth 100000
set_option linter.unusedVariables false
set_option linter.unusedSimpArgs false
namespace Go.Proofs.Ytokpbanandikpaa
open Go Go.V Go.Proofs
/-! ### a tally's row -/
def rowT (tl : List Int) (k : Int) : Int × Int := if k < 0 ∨ 16 ≤ k then (0, 0) else ((tl[2 * k.toNat]?).getD 0, (tl[2 * k.toNat + 1]?).getD 0)
section
variable {w : World} {K : Value → World → Prop}
theorem row_spec {tl : List Int} {k : Int} (hl : tl.length = 33) (hK : ∀ w', Old w w' → K (.agg ⟨[.int .i64 (rowT tl k).1, .int .i64 (rowT tl k).2]⟩) w') : Ret Pg 33 [.agg ⟨tl.map (.int .i64)⟩, .int .i64 k] w K := by
  refine f33_ret ?_
  have hO := Owns.start (w := w)
  unfold f33
  unfold rowT at hK
  refine new_i hO fun b1 _ hO => ?_
  refine new_i hO fun _ _ hO => ?_
  refine bif_d (fun h0 => ?_) (fun h0 => ?_)
  · rw [if_pos (by omega)] at hK
    (refine st_i hO (k := 0) (j := 0) rfl rfl rfl trivial fun _ hO => ?_)
    (refine st_i hO (k := 0) (j := 0) rfl rfl rfl trivial fun _ hO => ?_)
    (refine ⟨_, _, (by (refine ca_i hO (k := 0) (j := 0) rfl rfl)), rfl, ?_⟩)
    exact hK _ hO.old
  · refine bif_d (fun h1 => ?_) (fun h1 => ?_)
    · rw [if_pos (by omega)] at hK
      (refine st_i hO (k := 0) (j := 0) rfl rfl rfl trivial fun _ hO => ?_)
      (refine st_i hO (k := 0) (j := 0) rfl rfl rfl trivial fun _ hO => ?_)
      (refine ⟨_, _, (by (refine ca_i hO (k := 0) (j := 0) rfl rfl)), rfl, ?_⟩)
      exact hK _ hO.old
    · rw [if_neg (by omega)] at hK
      obtain ⟨x, hx⟩ : ∃ x, tl[2 * k.toNat]? = some x := ⟨_, List.getElem?_eq_getElem (by omega)⟩
      obtain ⟨y, hy⟩ : ∃ y, tl[2 * k.toNat + 1]? = some y := ⟨_, List.getElem?_eq_getElem (by omega)⟩
      rw [hx, hy] at hK
      refine ⟨by omega, by omega, x, y, ?_, rfl, ?_⟩
      · rw [at_mk]
        refine ⟨?_, ?_, trivial⟩
        · rw [add_mk, (hO.row 1 0 rfl).cell, List.getElem?_map, show 0 + k.toNat * 2 + 0 = 2 * k.toNat by omega, hx]; rfl
        · rw [add_mk, (hO.row 1 0 rfl).cell, List.getElem?_map, show 0 + k.toNat * 2 + (0 + 1) = 2 * k.toNat + 1 by omega, hy]; rfl
      (refine st_i hO (k := 0) (j := 0) rfl rfl rfl trivial fun _ hO => ?_)
      (refine st_i hO (k := 0) (j := 0) rfl rfl rfl trivial fun _ hO => ?_)
      (refine ⟨_, _, (by (refine ca_i hO (k := 0) (j := 0) rfl rfl)), rfl, ?_⟩)
      exact hK _ hO.old
end

end Go.Proofs.Ytokpbanandikpaa

set_option maxRecDepth 100000
set_option linter.unusedVariables false
set_option linter.unusedSimpArgs false
namespace Go.Proofs.Ytokpbanandikpaa
open Go Go.V Go.Proofs
/-! ### nothing through nothing is no number -/
theorem order_nan {t : Nat} : Ieee.Format.order (FloatKind.format .f64) ((t % 2) * 2 ^ 63 + 0x7ff0000000000000 + 1 + (t / 2) % (2 ^ 52 - 1)) ((t % 2) * 2 ^ 63 + 0x7ff0000000000000 + 1 + (t / 2) % (2 ^ 52 - 1)) = none := by
  have hr : ∃ s q, Ieee.Format.read (FloatKind.format .f64) ((t % 2) * 2 ^ 63 + 0x7ff0000000000000 + 1 + (t / 2) % (2 ^ 52 - 1)) = .nan s q := by
    unfold Ieee.Format.read
    have e1 : (FloatKind.format .f64).signWeight = 9223372036854775808 := by decide
    have e2 : (FloatKind.format .f64).binade = 4503599627370496 := by decide
    have e3 : (FloatKind.format .f64).infRung = 9218868437227405312 := by decide
    rw [e1, e2, e3]
    have e4 : (t % 2 * 2 ^ 63 + 0x7ff0000000000000 + 1 + t / 2 % (2 ^ 52 - 1)) % 9223372036854775808 = 0x7ff0000000000000 + 1 + t / 2 % (2 ^ 52 - 1) := by omega
    simp only [e4]
    rw [if_neg (by omega), if_neg (by omega), if_neg (by omega)]
    exact ⟨_, _, rfl⟩
  obtain ⟨s, q, h⟩ := hr
  unfold Ieee.Format.order
  rw [h]
  rfl

end Go.Proofs.Ytokpbanandikpaa

set_option maxRecDepth 100000
set_option linter.unusedVariables false
set_option linter.unusedSimpArgs false
namespace Go.Proofs.Ytokpbanandikpaa
open Go Go.V Go.Proofs
/-! ### a share of nothing -/
section
variable {w : World} {K : Value → World → Prop}
theorem share00_spec (hK : ∀ r w', Ieee.Format.order (FloatKind.format .f64) r r = none → Old w w' → K (.float .f64 r) w') : Ret Pg 34 [.int .i64 0, .int .i64 0] w K := by
  refine f34_ret ?_
  unfold f34
  have e0 : FloatKind.nearest .f64 0 = 0 := by decide
  rw [e0]
  have e1 : (FloatKind.format .f64).div 0 0 = none := by decide
  refine ⟨_, w.drew, ?_, hK _ _ (order_nan (t := w.tape w.drawn (.nanBits .f64 0 0))) (Old.refl w).drew⟩
  simp [Op.floatArith, e1, Question.forced, Question.cut]
end

end Go.Proofs.Ytokpbanandikpaa

set_option maxRecDepth 100000
set_option linter.unusedVariables false
set_option linter.unusedSimpArgs false
namespace Go.Proofs.Ytokpbanandikpaa
open Go Go.V Go.Proofs
/-! ### all rows together -/
def addT (tl : List Int) (k : Nat) (s : Int × Int) : Int × Int := (IntKind.wrap .i64 (s.1 + (tl[2 * k]?).getD 0), IntKind.wrap .i64 (s.2 + (tl[2 * k + 1]?).getD 0))
def sumT (tl : List Int) : Nat → Int × Int
  | 0 => (0, 0)
  | k + 1 => addT tl k (sumT tl k)
theorem take2 {l : List Value} {k : Nat} {a b : Value} (h1 : l[k]? = some a) (h2 : l[k + 1]? = some b) : [a, b] = (l.drop k).take 2 := by
  obtain ⟨l1, e1⟩ := List.getElem?_eq_some_iff.1 h1
  obtain ⟨l2, e2⟩ := List.getElem?_eq_some_iff.1 h2
  rw [List.drop_eq_getElem_cons l1, List.drop_eq_getElem_cons l2, e1, e2]
  rfl
section
variable {w : World} {K : Value → World → Prop}
theorem all_spec {tl : List Int} (hl : tl.length = 33) (hK : ∀ w', Old w w' → K (.agg ⟨[.int .i64 (sumT tl 16).1, .int .i64 (sumT tl 16).2]⟩) w') : Ret Pg 12 [.agg ⟨tl.map (.int .i64)⟩] w K := by
  refine f12_ret ?_
  have hO := Owns.start (w := w)
  unfold f12
  refine new_i hO fun b1 w1 hO => ?_
  refine new_i hO fun b2 w2 hO => ?_
  refine new_i hO fun b3 w3 hO => ?_
  refine ⟨(tl.take 32).map (.int .i64), ?_, by simp [hl], ?_⟩
  · refine cells_of_blk (hO.row 2 0 rfl) fun j v hv => ?_
    rw [Nat.zero_add, Nat.zero_add, List.getElem?_map]
    rw [List.getElem?_map, List.getElem?_take] at hv
    split at hv
    · exact hv
    · cases hv
  let Inv : Option Addr → Option Addr → List Value → Int → World → Prop := fun p q vs i w' => some ⟨b2, 0, none⟩ = p ∧ some ⟨b3, 0, none⟩ = q ∧ (tl.take 32).map (.int .i64) = vs ∧ 0 ≤ i ∧ i ≤ 16 ∧ Owns w w' ([cl b3 45 [.int .i64 (sumT tl i.toNat).1, .int .i64 (sumT tl i.toNat).2]] :: [cl b2 45 [.int .i64 0, .int .i64 0]] :: [])
  refine LoopP_intro (ann := f12_ann) follows (fun x w => Inv x.1 x.2.1 x.2.2.1 x.2.2.2.1 w) (fun x _ => (16 - x.2.2.2.1 : Int).toNat) ⟨rfl, rfl, rfl, Int.le_refl 0, by show (0 : Int) ≤ 16; omega, hO.cut 2 1⟩ (fun x w h => (f12_l0_eq _ _ _ _ _ _ _).mpr ?_)
  suffices S : ∀ (p q : Option Addr) (vs : List Value) (i : Int), Inv p q vs i w → f12_l0 p q vs i w (fun x w => Inv x.1 x.2.1 x.2.2.1 x.2.2.2.1 w ∧ (16 - x.2.2.2.1 : Int).toNat < (16 - i : Int).toNat) _ from S _ _ _ _ h
  clear h x hO
  rintro _ _ _ i ⟨rfl, rfl, rfl, h0, hi, hO⟩
  unfold f12_l0
  refine bif_d (fun h => ?_) (fun h => ?_)
  · obtain ⟨x, hx⟩ : ∃ x, tl[2 * i.toNat]? = some x := ⟨_, List.getElem?_eq_getElem (by omega)⟩
    obtain ⟨y, hy⟩ : ∃ y, tl[2 * i.toNat + 1]? = some y := ⟨_, List.getElem?_eq_getElem (by omega)⟩
    refine ⟨h0, by omega, x, y, take2 (by rw [List.getElem?_map, List.getElem?_take, if_pos (by omega), show i.toNat * 2 = 2 * i.toNat by omega, hx]; rfl) (by rw [List.getElem?_map, List.getElem?_take, if_pos (by omega), show i.toNat * 2 + 1 = 2 * i.toNat + 1 by omega, hy]; rfl), ?_⟩
    refine new_i hO fun _ _ hO => ?_
    (refine st_i hO (k := 0) (j := 0) rfl rfl rfl trivial fun _ hO => ?_)
    (refine st_i hO (k := 0) (j := 0) rfl rfl rfl trivial fun _ hO => ?_)
    try dsimp only [pick1, set2, List.set] at hO
    refine nn_i ?_
    refine ⟨_, _, ca_i hO (k := 1) (j := 0) rfl rfl, rfl, ?_⟩
    (refine ⟨_, _, (by (refine ca_i hO (k := 0) (j := 0) rfl rfl)), rfl, ?_⟩)
    (refine plus_spec fun _ ho => ?_; replace hO := hO.after ho)
    refine ⟨_, _, rfl, ?_⟩
    refine nn_i ?_
    refine st_i hO (k := 1) (j := 0) rfl rfl rfl trivial fun _ hO => ?_
    refine st_i hO (k := 1) (j := 0) rfl rfl rfl trivial fun _ hO => ?_
    try dsimp only [pick1, set2, List.set] at hO
    have e5 : IntKind.wrap .i64 (i + 1) = i + 1 := wrap64 (by omega) (by omega)
    rw [e5]
    refine ⟨⟨rfl, rfl, rfl, ?_, ?_, ?_⟩, ?_⟩
    · show (0 : Int) ≤ i + 1; omega
    · show i + 1 ≤ (16 : Int); omega
    · show Owns _ _ ([cl b3 45 [.int .i64 (sumT tl (i + 1).toNat).1, .int .i64 (sumT tl (i + 1).toNat).2]] :: _)
      rw [show (i + 1).toNat = i.toNat + 1 by omega]
      unfold sumT addT
      rw [hx, hy]
      exact hO.drop
    · show (16 - (i + 1) : Int).toNat < (16 - i : Int).toNat; omega
  · have e : i = 16 := by omega
    subst e
    refine nn_i ?_
    (refine ⟨_, _, (by (refine ca_i hO (k := 0) (j := 0) rfl rfl)), rfl, ?_⟩)
    refine nn_i ?_
    (refine st_i hO (k := 1) (j := 0) rfl rfl rfl trivial fun _ hO => ?_)
    (refine st_i hO (k := 1) (j := 0) rfl rfl rfl trivial fun _ hO => ?_)
    try dsimp only [pick1, set2, List.set] at hO
    refine nn_i ?_
    refine ⟨_, _, ca_i hO (k := 1) (j := 0) rfl rfl, rfl, ?_⟩
    exact hK _ hO.old
end

end Go.Proofs.Ytokpbanandikpaa

set_option maxRecDepth 100000
set_option linter.unusedVariables false
set_option linter.unusedSimpArgs false
namespace Go.Proofs.Ytokpbanandikpaa
open Go Go.V Go.Proofs
/-! ### a heap's tally -/
def tallyR (tl : List Int) : List ROb → List Int
  | [] => tl
  | o :: r => tallyR (countT tl o.h.k.toNat (1 + o.h.l)) r
def tally0 (size : Int) : List Int := List.replicate 32 0 ++ [size]
theorem tallyR_append : ∀ (a b : List ROb) (tl : List Int), tallyR tl (a ++ b) = tallyR (tallyR tl a) b
  | [], _, _ => rfl
  | x :: r, b, tl => by simp only [List.cons_append, tallyR, tallyR_append r b]
theorem length_tallyR : ∀ (a : List ROb) (tl : List Int), (tallyR tl a).length = tl.length
  | [], _ => rfl
  | x :: r, tl => by simp only [tallyR, length_tallyR r, length_countT]
section
variable {w0 w : World} {Ls : List (List Ent)} {K : Value → World → Prop} {i : HId} {H : PH} {os : List ROb} {rest : List Int}
theorem tof_spec (hok : H.ok) (hR : HR H os rest) (hO : Owns w0 w (hpE i H :: Ls)) (hK : ∀ w', Owns w0 w' (hpE i H :: Ls) → K (.agg ⟨(tallyR (tally0 H.words.length) os).map (.int .i64)⟩) w') : Ret Pg 10 [hpP i] w K := by
  refine f10_ret ?_
  unfold f10
  refine new_i hO fun b1 _ hO => ?_
  refine size_spec (i := i) (H := H) (Ls := _ :: Ls) (hO.pick 1) ?_
  refine ⟨_, rfl, ?_⟩
  refine new_i hO fun b2 _ hO => ?_
  refine sts_i hO (k := 0) (j := 0) rfl rfl (by simp) (by
    intro v hv
    simp only [List.mem_append, List.mem_replicate, List.mem_singleton] at hv
    rcases hv with ⟨_, rfl⟩ | rfl <;> trivial) fun _ hO => ?_
  try dsimp only [pick1, set2, List.set] at hO
  have e0 : (List.replicate 32 (.int .i64 0 : Value) ++ [.int .i64 (H.words.length : Int)]) = (tally0 H.words.length).map (.int .i64) := by simp [tally0]
  rw [e0] at hO
  refine walk_spec (hO) fun b _ hO => ?_
  refine ⟨_, rfl, ?_⟩
  refine range_walk (w0 := w0) (Ls := [cl b1 48 (List.replicate 33 (.int .i64 0))] :: Ls) (i := i) (C0 := [[cl b2 48 ((tally0 H.words.length).map (.int .i64))]])
    (fun j C => C = [[cl b2 48 ((tallyR (tally0 H.words.length) (os.take j)).map (.int .i64))]]) (fun _ => False) hok hR ?_ rfl (hO.re (by intro z; simp only [List.append_eq, cnt2_cons, cnt2_app, cnt2_nil, cnt1_app, cnt1_nil, List.cons_append, List.nil_append]; omega)) ?_ (fun _ _ h => h.elim)
  · rintro rec l hrec j o _ Ls w K rfl ho hO hy _
    refine f10_yield (st := .ready) (pd := none) hrec (hO.get (at2_mem (k := 0) (j := 0) rfl)) ?_
    unfold f10_r
    have hg := goodH_iff.1 (hR.obs o (List.mem_of_getElem? ho)).good
    refine new_i hO fun b3 _ hO => ?_
    (refine st_i hO (k := 0) (j := 0) rfl rfl rfl trivial fun _ hO => ?_)
    (refine st_i hO (k := 0) (j := 0) rfl rfl rfl trivial fun _ hO => ?_)
    (refine st_i hO (k := 0) (j := 0) rfl rfl rfl trivial fun _ hO => ?_)
    try dsimp only [pick1, set2, List.set] at hO
    refine busy_i hO (k := 1) rfl fun _ hO => ?_
    try dsimp only [pick1, set2, List.set] at hO
    (refine li_i hO (k := 0) (j := 0) rfl rfl rfl ?_)
    (refine li_i hO (k := 0) (j := 0) rfl rfl rfl ?_)
    rw [show IntKind.wrap .i64 (1 + o.h.l) = 1 + o.h.l from wrap64 (by omega) (by omega)]
    have e1 : tallyR (tally0 H.words.length) (os.take (j + 1)) = countT (tallyR (tally0 H.words.length) (os.take j)) o.h.k.toNat (1 + o.h.l) := by
      obtain ⟨hl, he⟩ := List.getElem?_eq_some_iff.1 ho
      rw [List.take_succ_eq_append_getElem hl, tallyR_append, he]
      rfl
    refine count_spec (w0 := w0) (T := 48) (tl := tallyR (tally0 H.words.length) (os.take j)) (by rw [length_tallyR]; simp [tally0]) hg.1 (by omega) (hO.pick 3) fun _ hO => ?_
    refine ⟨rfl, ?_⟩
    refine end_i hO (k := 2) rfl fun _ hO => ?_
    try dsimp only [pick1, set2, List.set] at hO
    refine hy _ _ rfl ?_
    rw [e1]
    have hO : Owns w0 _ ([cl b3 64 [.int .i64 o.h.k, .int .i64 o.h.l, .int .i64 o.h.p]] :: (lpE l rec .ready none :: hpE i H :: ([[cl b2 48 ((countT (tallyR (tally0 H.words.length) (os.take j)) o.h.k.toNat (1 + o.h.l)).map (.int .i64))]] ++ Ls))) := hO.re (by intro z; simp only [List.append_eq, cnt2_cons, cnt2_app, cnt2_nil, cnt1_app, cnt1_nil, List.cons_append, List.nil_append]; omega)
    exact hO.drop
  · rintro _ w' rfl hO
    rw [List.take_length] at hO
    refine ca_len hO (k := 2) (j := 0) rfl rfl (by rw [List.length_map, length_tallyR]; simp [tally0]) ?_
    refine lenIs_i (by rw [List.length_map, length_tallyR]; simp [tally0]) ?_
    refine sts_i hO (k := 3) (j := 0) rfl rfl (by rw [List.length_map, length_tallyR]; simp [tally0]) one_ints fun _ hO => ?_
    try dsimp only [pick1, set2, List.set] at hO
    refine take_i hO (k := 0) rfl fun _ hO => ?_
    try dsimp only [pick1, set2, List.set] at hO
    refine ca_len hO (k := 3) (j := 0) rfl rfl (by rw [List.length_map, length_tallyR]; simp [tally0]) ?_
    refine hK _ ?_
    exact (hO.pick 1).cut 1 3
end

end Go.Proofs.Ytokpbanandikpaa

set_option maxRecDepth 100000
set_option linter.unusedVariables false
set_option linter.unusedSimpArgs false
namespace Go.Proofs.Ytokpbanandikpaa
open Go Go.V Go.Proofs
/-! ### a form's tally -/
def tallyN (tl : List Int) : List GNd → List Int
  | [] => tl
  | g :: r => tallyN (countT tl g.k.toNat (1 + g.es.length + g.ws.length)) r
theorem tallyN_append : ∀ (a b : List GNd) (tl : List Int), tallyN tl (a ++ b) = tallyN (tallyN tl a) b
  | [], _, _ => rfl
  | x :: r, b, tl => by simp only [List.cons_append, tallyN, tallyN_append r b]
theorem length_tallyN : ∀ (a : List GNd) (tl : List Int), (tallyN tl a).length = tl.length
  | [], _ => rfl
  | x :: r, tl => by simp only [tallyN, length_tallyN r, length_countT]
theorem ca_read {w : World} {a : Addr} {n : Nat} {vs : List Value} {K : List Value → Prop} (h : CellsAt w a 0 vs) (hn : vs.length = n) (hK : K vs) : ∃ vs, CellsAt w a 0 vs ∧ (vs.length = n ∧ K vs) := ⟨vs, h, hn, hK⟩
section
variable {w0 w : World} {Ls : List (List Ent)} {K : Value → World → Prop}
theorem live_spec {rp np : Option Addr} {rl rc nl nc : Nat} {size : Int} {l : List GNd} (hin : NdsR w np l) (hnl : nl = l.length) (hok : ∀ g ∈ l, ndOk g) (hkd : ∀ g ∈ l, 0 ≤ g.k ∧ g.k ≤ 14) (hlen : l.length ≤ 1000000) (hK : ∀ w', Old w w' → K (.agg ⟨(tallyN (tally0 size) l).map (.int .i64)⟩) w') : Ret Pg 11 [.agg ⟨[.slice rp rl rc, .slice np nl nc]⟩, .int .i64 size] w K := by
  refine f11_ret ?_
  have hO := Owns.start (w := w)
  unfold f11
  refine new_i hO fun b1 w1 hO => ?_
  refine new_i hO fun b2 w2 hO => ?_
  refine new_i hO fun b3 w3 hO => ?_
  refine sts_i hO (k := 0) (j := 0) rfl rfl (by simp) (by
    intro v hv
    simp only [List.mem_append, List.mem_replicate, List.mem_singleton] at hv
    rcases hv with ⟨_, rfl⟩ | rfl <;> trivial) fun _ hO => ?_
  try dsimp only [pick1, set2, List.set] at hO
  have e0 : (List.replicate 32 (.int .i64 0 : Value) ++ [.int .i64 size]) = (tally0 size).map (.int .i64) := by simp [tally0]
  rw [e0] at hO
  (refine ls_i hO (k := 2) (j := 0) rfl rfl rfl ?_)
  let Inv : Option Addr → Option Addr → Sl → Int → Int → World → Prop := fun p q s m i w' => some ⟨b2, 0, none⟩ = p ∧ some ⟨b3, 0, none⟩ = q ∧ (⟨np, nl, nc⟩ : Sl) = s ∧ (nl : Int) = m ∧ 0 ≤ i ∧ i ≤ nl ∧ Owns w w' ([cl b3 48 ((tallyN (tally0 size) (l.take i.toNat)).map (.int .i64))] :: [cl b2 48 (List.replicate 33 (.int .i64 0))] :: [])
  refine LoopP_intro (ann := f11_ann) follows (fun x w => Inv x.1 x.2.1 x.2.2.1 x.2.2.2.1 x.2.2.2.2.1 w) (fun x _ => (nl - x.2.2.2.2.1 : Int).toNat) ⟨rfl, rfl, rfl, rfl, Int.le_refl 0, Int.natCast_nonneg _, hO.cut 2 1⟩ (fun x w h => (f11_l0_eq _ _ _ _ _ _ _ _).mpr ?_)
  suffices S : ∀ (p q : Option Addr) (s : Sl) (m i : Int), Inv p q s m i w → f11_l0 p q s m i w (fun x w => Inv x.1 x.2.1 x.2.2.1 x.2.2.2.1 x.2.2.2.2.1 w ∧ (nl - x.2.2.2.2.1 : Int).toNat < (nl - i : Int).toNat) _ from S _ _ _ _ _ h
  clear h x hO
  rintro _ _ _ _ i ⟨rfl, rfl, rfl, rfl, h0, hi, hO⟩
  unfold f11_l0
  refine bif_d (fun h => ?_) (fun h => ?_)
  · obtain ⟨g, hg⟩ : ∃ g, l[i.toNat]? = some g := ⟨_, List.getElem?_eq_getElem (by omega)⟩
    obtain ⟨a, ep, ec, wp, wc, hnp, c0, c1, c2, _, _⟩ := hin _ _ hg
    rw [hnp]
    rw [Int.toNat_of_nonneg h0] at c0 c1 c2
    have ok := hok g (List.mem_of_getElem? hg)
    have hk := hkd g (List.mem_of_getElem? hg)
    have := ok.es
    have := ok.ws
    refine ⟨h0, h, ?_⟩
    refine nn_i ?_
    refine ⟨g.k, ep, g.es.length, ec, wp, g.ws.length, wc, ⟨hO.cell0 c0, hO.cell0 c1, hO.cell0 c2, trivial⟩, rfl, ?_⟩
    refine new_i hO fun b4 _ hO => ?_
    (refine st_i hO (k := 0) (j := 0) rfl rfl rfl trivial fun _ hO => ?_)
    (refine st_i hO (k := 0) (j := 0) rfl rfl rfl trivial fun _ hO => ?_)
    (refine st_i hO (k := 0) (j := 0) rfl rfl rfl trivial fun _ hO => ?_)
    try dsimp only [pick1, set2, List.set] at hO
    (refine li_i hO (k := 0) (j := 0) rfl rfl rfl ?_)
    refine bif_d (fun h => ?_) (fun h => ?_)
    · omega
    (refine li_i hO (k := 0) (j := 0) rfl rfl rfl ?_)
    refine bif_d (fun h => ?_) (fun h => ?_)
    · omega
    (refine li_i hO (k := 0) (j := 0) rfl rfl rfl ?_)
    (refine ls_i hO (k := 0) (j := 0) rfl rfl rfl ?_)
    (refine ls_i hO (k := 0) (j := 0) rfl rfl rfl ?_)
    have e1 : IntKind.wrap .i64 (1 + (g.es.length : Nat) : Int) = 1 + (g.es.length : Nat) := wrap64 (by omega) (by omega)
    have e2 : IntKind.wrap .i64 (1 + (g.es.length : Nat) + (g.ws.length : Nat) : Int) = 1 + (g.es.length : Nat) + (g.ws.length : Nat) := wrap64 (by omega) (by omega)
    have e5 : IntKind.wrap .i64 (i + 1) = i + 1 := wrap64 (by omega) (by omega)
    rw [e1, e2, e5]
    refine count_spec (T := 48) (by rw [length_tallyN]; simp [tally0]) hk.1 (by omega) (hO.pick 1) fun _ hO => ?_
    refine ⟨rfl, ?_⟩
    refine ⟨⟨rfl, rfl, by rw [hnp], rfl, ?_, ?_, ?_⟩, ?_⟩
    · show (0 : Int) ≤ i + 1; omega
    · show i + 1 ≤ (nl : Int); omega
    · show Owns _ _ ([cl b3 48 ((tallyN (tally0 size) (l.take (i + 1).toNat)).map (.int .i64))] :: _)
      have e1 : tallyN (tally0 size) (l.take (i.toNat + 1)) = countT (tallyN (tally0 size) (l.take i.toNat)) g.k.toNat (1 + g.es.length + g.ws.length) := by
        obtain ⟨hl, he⟩ := List.getElem?_eq_some_iff.1 hg
        rw [List.take_succ_eq_append_getElem hl, tallyN_append, he]
        rfl
      rw [show (i + 1).toNat = i.toNat + 1 by omega, e1]
      exact hO.cut 1 1
    · show (nl - (i + 1) : Int).toNat < (nl - i : Int).toNat; omega
  · have e : l.take i.toNat = l := List.take_of_length_le (by omega)
    rw [e] at hO
    refine nn_i ?_
    refine ca_len hO (k := 0) (j := 0) rfl rfl (by rw [List.length_map, length_tallyN]; simp [tally0]) ?_
    refine nn_i ?_
    refine lenIs_i (by rw [List.length_map, length_tallyN]; simp [tally0]) ?_
    refine sts_i hO (k := 1) (j := 0) rfl rfl (by rw [List.length_map, length_tallyN]; simp [tally0]) one_ints fun _ hO => ?_
    try dsimp only [pick1, set2, List.set] at hO
    refine nn_i ?_
    refine ca_len hO (k := 1) (j := 0) rfl rfl (by rw [List.length_map, length_tallyN]; simp [tally0]) ?_
    exact hK _ hO.old
end

end Go.Proofs.Ytokpbanandikpaa

set_option maxRecDepth 100000
set_option linter.unusedVariables false
set_option linter.unusedSimpArgs false
namespace Go.Proofs.Ytokpbanandikpaa
open Go Go.V Go.Proofs
/-! ### a form's heap: its nodes are placed -/
structure ndIn (N : Nat) (g : GNd) : Prop where
  k0 : 0 ≤ g.k
  k1 : g.k ≤ 14
  len : g.es.length + g.ws.length ≤ 4095
  es : ∀ e ∈ g.es, 0 ≤ e ∧ e ≤ N
  ws : ∀ x ∈ g.ws, -9223372036854775808 < x ∧ x ≤ 9223372036854775807
theorem ndIn.ok {N : Nat} {g : GNd} (h : ndIn N g) : ndOk g := ⟨by have := h.len; omega, by have := h.len; omega⟩
theorem ndIn.good {N : Nat} {g : GNd} (h : ndIn N g) : goodH (headN g) = true := by
  have := h.k0; have := h.k1; have := h.len
  refine goodH_iff.2 ?_
  simp only [headN]
  omega
def obsN : List GNd → Int → List ROb
  | [], _ => []
  | g :: r, a => ⟨a, headN g, List.replicate (g.es.length + g.ws.length) 0⟩ :: obsN r (a + (1 + g.es.length + g.ws.length))
def refsN : List GNd → Int → List Int
  | [], _ => []
  | g :: r, a => (1 + a) :: refsN r (a + (1 + g.es.length + g.ws.length))
theorem topR_obsN : ∀ (l : List GNd) (a : Int), topR (obsN l a) = wordsN l
  | [], _ => rfl
  | g :: r, a => by simp only [obsN, topR, wordsN, headN, topR_obsN r]; omega
theorem obsN_append : ∀ (l m : List GNd) (a : Int), obsN (l ++ m) a = obsN l a ++ obsN m (a + wordsN l)
  | [], m, a => by simp [obsN, wordsN]
  | g :: r, m, a => by
    simp only [List.cons_append, obsN, wordsN, obsN_append r m]
    rw [show a + (1 + (g.es.length : Int) + g.ws.length) + wordsN r = a + (1 + g.es.length + g.ws.length + wordsN r) by omega]
theorem refsN_append : ∀ (l m : List GNd) (a : Int), refsN (l ++ m) a = refsN l a ++ refsN m (a + wordsN l)
  | [], m, a => by simp [refsN, wordsN]
  | g :: r, m, a => by
    simp only [List.cons_append, refsN, wordsN, refsN_append r m]
    rw [show a + (1 + (g.es.length : Int) + g.ws.length) + wordsN r = a + (1 + g.es.length + g.ws.length + wordsN r) by omega]
theorem length_refsN : ∀ (l : List GNd) (a : Int), (refsN l a).length = l.length
  | [], _ => rfl
  | g :: r, a => by simp only [refsN, List.length_cons, length_refsN r]
theorem wordsN_mono {l : List GNd} (h : ∀ g ∈ l, ndOk g) (j : Nat) : wordsN (l.take j) ≤ wordsN l := by
  have e : l = l.take j ++ l.drop j := (List.take_append_drop j l).symm
  have h2 := (wordsN_bound (l := l.drop j) fun g hg => h g (List.mem_of_mem_drop hg)).1
  have := wordsN_append (l.take j) (l.drop j)
  rw [← e] at this
  omega
theorem refsN_bound : ∀ {l : List GNd} {a : Int}, (∀ g ∈ l, ndOk g) → 0 ≤ a → ∀ x ∈ refsN l a, 1 ≤ x ∧ x ≤ a + wordsN l
  | [], _, _, _, x, h => by cases h
  | g :: r, a, hok, ha, x, h => by
    have hb := (wordsN_bound (l := r) fun g hg => hok g (by simp [hg])).1
    simp only [refsN, List.mem_cons, wordsN] at h ⊢
    rcases h with rfl | h
    · omega
    · have := refsN_bound (l := r) (fun g hg => hok g (by simp [hg])) (by omega) x h
      omega
def hds (os : List ROb) : List (Int × Hd) := os.map fun o => (o.at_, o.h)
theorem hds_writeR (os : List ROb) (a f x : Int) : hds (writeR os a f x).1 = hds os := by
  unfold writeR
  split
  · rfl
  · split
    · rfl
    · split
      · rfl
      · split
        · rfl
        · rename_i ob h _ _
          unfold hds
          rw [List.map_set]
          refine List.ext_getElem? fun q => ?_
          by_cases hq : (findR a os 0).toNat = q
          · subst hq
            rw [List.getElem?_set_self', List.getElem?_map, h]; rfl
          · rw [List.getElem?_set_ne hq]

section
variable {w0 w : World} {Ls : List (List Ent)} {K : Value → World → Prop} {i : HId}
set_option maxHeartbeats 2000000 in
theorem fheap_l0 {b1 b3 : Nat} {np : Option Addr} {nl nc : Nat} {l : List GNd} {N : Nat} {size : Int} {r0 : Rw} {F : List Value} {K0 : Tup f9_l0_o0 → World → Prop} {Kr : Tup f9_l0_or → World → Prop} (hin : NdsR w0 np l) (hnl : nl = l.length) (hok : ∀ g ∈ l, ndIn N g) (hlen : l.length ≤ 65536) (hs2 : size ≤ 65536) (hfit : wordsN l ≤ size) (hs1 : 1 ≤ size)
    (hr0 : r0.ok 1) (hx0 : r0.xs = [.int .i64 0])
    (hO : Owns w0 w ([cl b3 29 [.slice r0.at_ r0.n r0.c]] :: r0.ent 3 :: hpE i (PH.new size.toNat) :: Ls))
    (hK : ∀ (r : Rw) (H : PH) (rest : List Int) w', r.ok 1 → r.xs = (0 :: refsN l 0).map (.int .i64) → HR H (obsN l 0) rest → (H.words.length : Int) = size → Owns w0 w' ([cl b3 29 [.slice r.at_ r.n r.c]] :: r.ent 3 :: hpE i H :: Ls) → K0 ⟨some ⟨b1, 0, none⟩, some ⟨i.b, 0, none⟩, some ⟨b3, 0, none⟩, ()⟩ w') :
    LoopP Pg 140 f9_l0_B f9_l0_A ⟨some ⟨b1, 0, none⟩, some ⟨i.b, 0, none⟩, some ⟨b3, 0, none⟩, ⟨np, nl, nc⟩, ((nl : Nat) : Int), 0, ()⟩ w (K0, Kr, ()) := by
  have hokk : ∀ g ∈ l, ndOk g := fun g hg => (hok g hg).ok
  let St : Int → World → Prop := fun j w => ∃ (r : Rw) (H : PH) (rest : List Int), r.ok 1 ∧ r.xs = (0 :: refsN (l.take j.toNat) 0).map (.int .i64) ∧ HR H (obsN (l.take j.toNat) 0) rest ∧ (H.words.length : Int) = size ∧ Owns w0 w ([cl b3 29 [.slice r.at_ r.n r.c]] :: r.ent 3 :: hpE i H :: Ls)
  let Inv : Option Addr → Option Addr → Option Addr → Sl → Int → Int → World → Prop := fun r1 r2 r3 s m j w => some ⟨b1, 0, none⟩ = r1 ∧ some ⟨i.b, 0, none⟩ = r2 ∧ some ⟨b3, 0, none⟩ = r3 ∧ (⟨np, nl, nc⟩ : Sl) = s ∧ (nl : Int) = m ∧ 0 ≤ j ∧ j ≤ nl ∧ St j w
  refine LoopP_intro (ann := f9_ann) follows (fun x w => Inv x.1 x.2.1 x.2.2.1 x.2.2.2.1 x.2.2.2.2.1 x.2.2.2.2.2.1 w) (fun x _ => (nl - x.2.2.2.2.2.1 : Int).toNat)
    ⟨rfl, rfl, rfl, rfl, rfl, Int.le_refl 0, Int.natCast_nonneg _, r0, PH.new size.toNat, _, hr0, hx0, HR.new _, by simp [PH.new]; omega, hO⟩ (fun x w h => (f9_l0_eq _ _ _ _ _ _ _ _ _ _).mpr ?_)
  suffices S : ∀ (r1 r2 r3 : Option Addr) (s : Sl) (m j : Int), Inv r1 r2 r3 s m j w → f9_l0 r1 r2 r3 s m j w (fun x w => Inv x.1 x.2.1 x.2.2.1 x.2.2.2.1 x.2.2.2.2.1 x.2.2.2.2.2.1 w ∧ (nl - x.2.2.2.2.2.1 : Int).toNat < (nl - j : Int).toNat) _ _ from S _ _ _ _ _ _ h
  clear h x hO
  rintro _ _ _ _ _ j ⟨rfl, rfl, rfl, rfl, rfl, h0, hj, r, H, rest, hr, hx, hR, hHl, hO⟩
  unfold f9_l0
  refine bif_d (fun h => ?_) (fun h => ?_)
  · obtain ⟨g, hg⟩ : ∃ g, l[j.toNat]? = some g := ⟨_, List.getElem?_eq_getElem (by omega)⟩
    obtain ⟨a, ep, ec, wp, wc, hnp, c0, c1, c2, _, _⟩ := hin _ _ hg
    rw [hnp]
    rw [Int.toNat_of_nonneg h0] at c0 c1 c2
    have ok := hok g (List.mem_of_getElem? hg)
    refine ⟨h0, h, ?_⟩
    refine nn_i ?_
    refine ⟨g.k, ep, g.es.length, ec, wp, g.ws.length, wc, ⟨hO.cell0 c0, hO.cell0 c1, hO.cell0 c2, trivial⟩, rfl, ?_⟩
    refine new_i hO fun b4 _ hO => ?_
    (refine st_i hO (k := 0) (j := 0) rfl rfl rfl trivial fun _ hO => ?_)
    (refine st_i hO (k := 0) (j := 0) rfl rfl rfl trivial fun _ hO => ?_)
    (refine st_i hO (k := 0) (j := 0) rfl rfl rfl trivial fun _ hO => ?_)
    try dsimp only [pick1, set2, List.set] at hO
    refine ⟨_, _, _, _, _, _, _, ca_i hO (k := 0) (j := 0) rfl rfl, rfl, ?_⟩
    (refine nhead_spec ok.ok fun _ ho => ?_; replace hO := hO.after ho)
    refine ⟨_, _, _, rfl, ?_⟩
    have hHok := hR.ok (by omega) (by omega)
    obtain ⟨q1, q2, ⟨rest', q3⟩, -, -, -⟩ := hR.place1 hHl hs2 (headN g)
    have htk : l.take (j.toNat + 1) = l.take j.toNat ++ [g] := by
      obtain ⟨hl, he⟩ := List.getElem?_eq_some_iff.1 hg
      rw [List.take_succ_eq_append_getElem hl, he]
    have hw1 := wordsN_take hg
    have hw2 := wordsN_mono hokk (j.toNat + 1)
    have hw3 := (wordsN_bound (l := l.take j.toNat) fun g hg => hokk g (List.mem_of_mem_take hg)).1
    have hpl : placeR size (obsN (l.take j.toNat) 0) (headN g) = (obsN (l.take (j.toNat + 1)) 0, wordsN (l.take j.toNat), 0) := by
      unfold placeR
      rw [if_neg (by rw [ok.good]; simp), topR_obsN, if_neg (by simp only [headN]; omega), htk, obsN_append]
      simp only [obsN, headN]
      rw [show ((g.es.length : Int) + g.ws.length).toNat = g.es.length + g.ws.length by omega, Int.zero_add]
    rw [hpl] at q1 q3
    have hq21 : (H.place (headN g)).2.1 = wordsN (l.take j.toNat) := by rw [q1]
    have hq22 : (H.place (headN g)).2.2 = 0 := by rw [q1]
    refine place_spec (Ls := _ :: _ :: _ :: Ls) hHok (hO.pick 3) fun _ hO => ?_
    rw [hq21, hq22]
    refine ⟨_, _, rfl, ?_⟩
    try dsimp only [pick1, set2, List.set] at hO
    rw [show (((0 : Int) != 0)) = false from rfl, cond_false]
    refine li_i hO (k := 1) (j := 0) rfl rfl rfl ?_
    refine bif_d (fun h => ?_) (fun h => ?_)
    · have := ok.k1; omega
    refine nn_i ?_
    refine ls_i hO (k := 2) (j := 0) rfl rfl rfl ?_
    refine new_i hO fun b5 _ hO => ?_
    have hrn : r.n = 1 + j.toNat := by have := hr.len; rw [hx, List.length_map, List.length_cons, length_refsN, List.length_take] at this; omega
    refine apInt (hO.pick 4) hr (x := some ⟨b5, 0, none⟩) (news := [.int .i64 (IntKind.wrap .i64 (1 + wordsN (l.take j.toNat)))]) rfl (fun h => by cases h) (by
      intro a ha q u hu
      cases ha
      rw [add_mk, Nat.zero_add, (hO.row 0 0 rfl).cell]; exact hu) (by intro u hu; simp at hu; subst hu; rfl) (by omega) fun r' w' hr' hx' hn' hO _ => ?_
    try dsimp only [pick1, set2, List.set] at hO
    refine nn_i ?_
    have e1 : IntKind.wrap .i64 (1 + wordsN (l.take j.toNat)) = 1 + wordsN (l.take j.toNat) := wrap64 (by omega) (by omega)
    have e5 : IntKind.wrap .i64 (j + 1) = j + 1 := wrap64 (by omega) (by omega)
    rw [e5]
    refine st_i hO (k := 4) (j := 0) rfl rfl rfl trivial fun _ hO => ?_
    try dsimp only [pick1, set2, List.set] at hO
    refine ⟨⟨rfl, rfl, rfl, by rw [hnp], rfl, ?_, ?_, r', _, rest', hr', ?_, ?_, q2, ?_⟩, ?_⟩
    · show (0 : Int) ≤ j + 1; omega
    · show j + 1 ≤ (nl : Int); omega
    · show r'.xs = (0 :: refsN (l.take (j + 1).toNat) 0).map _
      rw [show (j + 1).toNat = j.toNat + 1 by omega, hx', hx, htk, refsN_append, e1]
      simp [refsN]
    · show HR _ (obsN (l.take (j + 1).toNat) 0) rest'
      rw [show (j + 1).toNat = j.toNat + 1 by omega]
      exact q3
    · exact ((hO.pick 4).cut 2 1).cut 3 1
    · show (nl - (j + 1) : Int).toNat < (nl - j : Int).toNat; omega
  · have e : l.take j.toNat = l := List.take_of_length_le (by omega)
    rw [e] at hx hR
    exact hK r H rest _ hr hx hR hHl hO
end

end Go.Proofs.Ytokpbanandikpaa

set_option maxRecDepth 100000
set_option linter.unusedVariables false
set_option linter.unusedSimpArgs false
namespace Go.Proofs.Ytokpbanandikpaa
open Go Go.V Go.Proofs
/-! ### a form's heap: its words are written -/
def isV (b : Nat) : Value := .func (.func 26) ⟨[]⟩ ⟨[.pointer (some ⟨b, 0, none⟩)]⟩
def ndE (b : Nat) (g : GNd) (ep : Option Addr) (ec : Nat) (wp : Option Addr) (wc : Nat) : List Ent := [cl b 78 [.int .i64 g.k, .slice ep g.es.length ec, .slice wp g.ws.length wc]]
/-- A heap of the same heads. -/
structure SameH (H : PH) (os0 : List ROb) (size : Int) : Prop where
  ex : ∃ os rest, HR H os rest ∧ hds os = hds os0
  len : (H.words.length : Int) = size
theorem SameH.write {H : PH} {os0 : List ROb} {size : Int} (h : SameH H os0 size) (a f x : Int) : SameH (H.write a f x).1 os0 size := by
  obtain ⟨os, rest, h1, h2⟩ := h.ex
  obtain ⟨-, h3, h4⟩ := h1.write a f x
  exact ⟨⟨_, rest, h3, by rw [hds_writeR]; exact h2⟩, by rw [h4]; exact h.len⟩
section
variable {w0 w : World} {Ls : List (List Ent)} {K : Value → World → Prop} {i : HId} {H : PH}
theorem is_cv {b : Nat} {p : Option Addr} {l c : Nat} {n : Int} {T : TypeId} (hB : Blk w b T [.slice p l c]) (hK : K (.bool (decide (0 ≤ n ∧ n < l))) w) : CvW Pg true (isV b) [.int .i64 n] w K := by
  unfold isV CvW
  have hb : hasBody Pg 26 = true := by kernel_rfl
  simp only [hb, cond_true]
  exact is_spec hB hK
theorem write_same {os0 : List ROb} {size n f x : Int} (hS : SameH H os0 size) (hs1 : 1 ≤ size) (hs2 : size ≤ 65536) (hx1 : -9223372036854775808 < x) (hx2 : x ≤ 9223372036854775807) (hO : Owns w0 w (hpE i H :: Ls)) (hK : ∀ H' m w', SameH H' os0 size → Owns w0 w' (hpE i H' :: Ls) → K (.int .i64 m) w') : Ret Pg 20 [hpP i, .int .i64 n, .int .i64 f, .int .i64 x] w K := by
  obtain ⟨os, rest, h1, h2⟩ := hS.ex
  have := hS.len
  exact write_spec (h1.ok (by omega) (by omega)) h1.fit hx1 hx2 hO fun w' hO => hK _ _ _ (hS.write n f x) hO

set_option maxHeartbeats 2000000 in
theorem fheap_l2 {b1 b3 b4 : Nat} {np ep : Option Addr} {nl nc ec : Nat} {k size : Int} {g : GNd} {N : Nat} {r : Rw} {xs : List Int} {os0 : List ROb} {H0 : PH} {K4 : Tup f9_l2_o4 → World → Prop} {Kr : Tup f9_l2_or → World → Prop}
    (hg : ndIn N g) (hre : RdI w0 .i64 ep g.es) (hr : r.ok 1) (hx : r.xs = xs.map (.int .i64)) (hxl : xs.length = N + 1) (hN : N ≤ 65536) (hxb : ∀ x ∈ xs, 0 ≤ x ∧ x ≤ 65537) (hk0 : 0 ≤ k) (hk1 : k < N) (hs1 : 1 ≤ size) (hs2 : size ≤ 65536) (hS : SameH H0 os0 size)
    (hO : Owns w0 w ([cl b3 29 [.slice r.at_ r.n r.c]] :: r.ent 3 :: hpE i H0 :: Ls))
    (hK : ∀ H w', SameH H os0 size → Owns w0 w' ([cl b3 29 [.slice r.at_ r.n r.c]] :: r.ent 3 :: hpE i H :: Ls) → K4 ⟨some ⟨b1, 0, none⟩, some ⟨i.b, 0, none⟩, some ⟨b3, 0, none⟩, isV b3, k, some ⟨b4, 0, none⟩, ⟨np, nl, nc⟩, nl, k, ()⟩ w') :
    LoopP Pg 140 f9_l2_B f9_l2_A ⟨some ⟨b1, 0, none⟩, some ⟨i.b, 0, none⟩, some ⟨b3, 0, none⟩, isV b3, k, some ⟨b4, 0, none⟩, ⟨np, nl, nc⟩, ((nl : Nat) : Int), k, ⟨ep, g.es.length, ec⟩, ((g.es.length : Nat) : Int), 0, ()⟩ w (K4, Kr, ()) := by
  have hrn : r.n = N + 1 := by have := hr.len; rw [hx, List.length_map] at this; omega
  let Inv : Option Addr → Option Addr → Option Addr → Value → Int → Option Addr → Sl → Int → Int → Sl → Int → Int → World → Prop := fun r1 r2 r3 v k1 r4 s m k2 s2 m2 j w => some ⟨b1, 0, none⟩ = r1 ∧ some ⟨i.b, 0, none⟩ = r2 ∧ some ⟨b3, 0, none⟩ = r3 ∧ isV b3 = v ∧ k = k1 ∧ some ⟨b4, 0, none⟩ = r4 ∧ (⟨np, nl, nc⟩ : Sl) = s ∧ (nl : Int) = m ∧ k = k2 ∧ (⟨ep, g.es.length, ec⟩ : Sl) = s2 ∧ (g.es.length : Int) = m2 ∧ 0 ≤ j ∧ j ≤ g.es.length ∧
    ∃ H, SameH H os0 size ∧ Owns w0 w ([cl b3 29 [.slice r.at_ r.n r.c]] :: r.ent 3 :: hpE i H :: Ls)
  refine LoopP_intro (ann := f9_ann) follows (fun x w => Inv x.1 x.2.1 x.2.2.1 x.2.2.2.1 x.2.2.2.2.1 x.2.2.2.2.2.1 x.2.2.2.2.2.2.1 x.2.2.2.2.2.2.2.1 x.2.2.2.2.2.2.2.2.1 x.2.2.2.2.2.2.2.2.2.1 x.2.2.2.2.2.2.2.2.2.2.1 x.2.2.2.2.2.2.2.2.2.2.2.1 w) (fun x _ => (g.es.length - x.2.2.2.2.2.2.2.2.2.2.2.1 : Int).toNat)
    ⟨rfl, rfl, rfl, rfl, rfl, rfl, rfl, rfl, rfl, rfl, rfl, Int.le_refl 0, Int.natCast_nonneg _, H0, hS, hO⟩ (fun x w h => (f9_l2_eq _ _ _ _ _ _ _ _ _ _ _ _ _ _ _ _).mpr ?_)
  suffices S : ∀ (r1 r2 r3 : Option Addr) (v : Value) (k1 : Int) (r4 : Option Addr) (s : Sl) (m k2 : Int) (s2 : Sl) (m2 j : Int), Inv r1 r2 r3 v k1 r4 s m k2 s2 m2 j w → f9_l2 r1 r2 r3 v k1 r4 s m k2 s2 m2 j w (fun x w => Inv x.1 x.2.1 x.2.2.1 x.2.2.2.1 x.2.2.2.2.1 x.2.2.2.2.2.1 x.2.2.2.2.2.2.1 x.2.2.2.2.2.2.2.1 x.2.2.2.2.2.2.2.2.1 x.2.2.2.2.2.2.2.2.2.1 x.2.2.2.2.2.2.2.2.2.2.1 x.2.2.2.2.2.2.2.2.2.2.2.1 w ∧ (g.es.length - x.2.2.2.2.2.2.2.2.2.2.2.1 : Int).toNat < (g.es.length - j : Int).toNat) _ _ from S _ _ _ _ _ _ _ _ _ _ _ _ h
  clear h x hO
  rintro _ _ _ _ _ _ _ _ _ _ _ j ⟨rfl, rfl, rfl, rfl, rfl, rfl, rfl, rfl, rfl, rfl, rfl, h0, hj, H, hS, hO⟩
  unfold f9_l2
  have hgl := hg.len
  refine bif_d (fun h => ?_) (fun h => ?_)
  · obtain ⟨x, hx2⟩ : ∃ x, g.es[j.toNat]? = some x := ⟨_, List.getElem?_eq_getElem (by omega)⟩
    obtain ⟨a, hep, hc⟩ := hre _ _ hx2
    rw [Int.toNat_of_nonneg h0] at hc
    have hxr := hg.es x (List.mem_of_getElem? hx2)
    refine ⟨h0, h, ?_⟩
    rw [hep]
    refine nn_i ?_
    refine LI_i (hO.cell0 hc) ?_
    refine is_cv (hO.row 0 0 rfl) ?_
    refine ⟨_, rfl, ?_⟩
    rw [decide_eq_true (by omega)]
    simp only [Bool.not_true, cond_false]
    rw [show IntKind.wrap .i64 (k + 1) = k + 1 from wrap64 (by omega) (by omega)]
    obtain ⟨y1, hy1⟩ : ∃ y, xs[(k + 1).toNat]? = some y := ⟨_, List.getElem?_eq_getElem (by omega)⟩
    obtain ⟨y2, hy2⟩ : ∃ y, xs[x.toNat]? = some y := ⟨_, List.getElem?_eq_getElem (by omega)⟩
    have hb1 := hxb y1 (List.mem_of_getElem? hy1)
    have hb2 := hxb y2 (List.mem_of_getElem? hy2)
    obtain ⟨rb, hrb⟩ : ∃ rb, r.p = some rb := by
      cases hp : r.p with
      | none => have := hr.nil hp; have := hr.le; omega
      | some rb => exact ⟨rb, rfl⟩
    have hat : r.at_ = some ⟨rb, 0, none⟩ := by simp [Rw.at_, hrb]
    have hcell : ∀ {w} (_ : Owns w0 w ([cl b3 29 [.slice r.at_ r.n r.c]] :: r.ent 3 :: hpE i H :: Ls)) (q y : Int), 0 ≤ q → xs[q.toNat]? = some y → w.cell? (Addr.at_ ⟨rb, 0, none⟩ q 1) = some (.int .i64 y) := by
      intro w hO q y hq hy
      have hB : Blk w rb 3 (r.xs ++ r.sp) := hO.blk (by simp [Rw.ent, hrb])
      rw [at_mk, hB.cell, List.getElem?_append_left (by rw [hx, List.length_map]; have := (List.getElem?_eq_some_iff.1 hy).1; omega), hx, List.getElem?_map, show 0 + q.toNat * 1 = q.toNat by omega, hy]
      rfl
    refine nn_i ?_
    refine ls_i hO.drew (k := 0) (j := 0) rfl rfl rfl ?_
    refine ⟨by omega, by omega, ?_⟩
    rw [hat]
    refine nn_i ?_
    refine LI_i (hcell hO.drew _ _ (by omega) hy1) ?_
    refine nn_i ?_
    refine ls_i hO.drew (k := 0) (j := 0) rfl rfl rfl ?_
    refine ⟨by omega, by omega, ?_⟩
    rw [hat]
    refine nn_i ?_
    refine LI_i (hcell hO.drew _ _ (by omega) hy2) ?_
    refine write_same (Ls := _ :: _ :: Ls) hS hs1 hs2 (by omega) (by omega) (hO.drew.pick 2) fun H' m w' hS' hO => ?_
    refine ⟨_, rfl, ?_⟩
    rw [show IntKind.wrap .i64 (j + 1) = j + 1 from wrap64 (by omega) (by omega)]
    refine ⟨⟨rfl, rfl, rfl, rfl, rfl, rfl, rfl, rfl, rfl, by rw [hep], rfl, ?_, ?_, H', hS', (hO.pick 1).pick 2 |>.pick 1⟩, ?_⟩
    · show (0 : Int) ≤ j + 1; omega
    · show j + 1 ≤ (g.es.length : Int); omega
    · show (g.es.length - (j + 1) : Int).toNat < (g.es.length - j : Int).toNat; omega
  · exact hK H _ hS hO

set_option maxHeartbeats 2000000 in
theorem fheap_l3 {b1 b3 b4 : Nat} {np ep wp : Option Addr} {nl nc ec wc : Nat} {k size : Int} {g : GNd} {N : Nat} {r : Rw} {xs : List Int} {os0 : List ROb} {H0 : PH} {K6 : Tup f9_l3_o6 → World → Prop}
    (hg : ndIn N g) (hrw : RdI w0 .i64 wp g.ws) (hr : r.ok 1) (hx : r.xs = xs.map (.int .i64)) (hxl : xs.length = N + 1) (hN : N ≤ 65536) (hxb : ∀ x ∈ xs, 0 ≤ x ∧ x ≤ 65537) (hk0 : 0 ≤ k) (hk1 : k < N) (hs1 : 1 ≤ size) (hs2 : size ≤ 65536) (hS : SameH H0 os0 size)
    (hO : Owns w0 w ([cl b3 29 [.slice r.at_ r.n r.c]] :: r.ent 3 :: hpE i H0 :: ndE b4 g ep ec wp wc :: Ls))
    (hK : ∀ H w', SameH H os0 size → Owns w0 w' ([cl b3 29 [.slice r.at_ r.n r.c]] :: r.ent 3 :: hpE i H :: ndE b4 g ep ec wp wc :: Ls) → K6 ⟨some ⟨b1, 0, none⟩, some ⟨i.b, 0, none⟩, some ⟨b3, 0, none⟩, isV b3, ⟨np, nl, nc⟩, nl, k, ()⟩ w') :
    LoopP Pg 140 f9_l3_B f9_l3_A ⟨some ⟨b1, 0, none⟩, some ⟨i.b, 0, none⟩, some ⟨b3, 0, none⟩, isV b3, k, some ⟨b4, 0, none⟩, ⟨np, nl, nc⟩, ((nl : Nat) : Int), k, ⟨wp, g.ws.length, wc⟩, ((g.ws.length : Nat) : Int), 0, ()⟩ w (K6, ()) := by
  have hrn : r.n = N + 1 := by have := hr.len; rw [hx, List.length_map] at this; omega
  let Inv : Option Addr → Option Addr → Option Addr → Value → Int → Option Addr → Sl → Int → Int → Sl → Int → Int → World → Prop := fun r1 r2 r3 v k1 r4 s m k2 s2 m2 j w => some ⟨b1, 0, none⟩ = r1 ∧ some ⟨i.b, 0, none⟩ = r2 ∧ some ⟨b3, 0, none⟩ = r3 ∧ isV b3 = v ∧ k = k1 ∧ some ⟨b4, 0, none⟩ = r4 ∧ (⟨np, nl, nc⟩ : Sl) = s ∧ (nl : Int) = m ∧ k = k2 ∧ (⟨wp, g.ws.length, wc⟩ : Sl) = s2 ∧ (g.ws.length : Int) = m2 ∧ 0 ≤ j ∧ j ≤ g.ws.length ∧
    ∃ H, SameH H os0 size ∧ Owns w0 w ([cl b3 29 [.slice r.at_ r.n r.c]] :: r.ent 3 :: hpE i H :: ndE b4 g ep ec wp wc :: Ls)
  refine LoopP_intro (ann := f9_ann) follows (fun x w => Inv x.1 x.2.1 x.2.2.1 x.2.2.2.1 x.2.2.2.2.1 x.2.2.2.2.2.1 x.2.2.2.2.2.2.1 x.2.2.2.2.2.2.2.1 x.2.2.2.2.2.2.2.2.1 x.2.2.2.2.2.2.2.2.2.1 x.2.2.2.2.2.2.2.2.2.2.1 x.2.2.2.2.2.2.2.2.2.2.2.1 w) (fun x _ => (g.ws.length - x.2.2.2.2.2.2.2.2.2.2.2.1 : Int).toNat)
    ⟨rfl, rfl, rfl, rfl, rfl, rfl, rfl, rfl, rfl, rfl, rfl, Int.le_refl 0, Int.natCast_nonneg _, H0, hS, hO⟩ (fun x w h => (f9_l3_eq _ _ _ _ _ _ _ _ _ _ _ _ _ _ _).mpr ?_)
  suffices S : ∀ (r1 r2 r3 : Option Addr) (v : Value) (k1 : Int) (r4 : Option Addr) (s : Sl) (m k2 : Int) (s2 : Sl) (m2 j : Int), Inv r1 r2 r3 v k1 r4 s m k2 s2 m2 j w → f9_l3 r1 r2 r3 v k1 r4 s m k2 s2 m2 j w (fun x w => Inv x.1 x.2.1 x.2.2.1 x.2.2.2.1 x.2.2.2.2.1 x.2.2.2.2.2.1 x.2.2.2.2.2.2.1 x.2.2.2.2.2.2.2.1 x.2.2.2.2.2.2.2.2.1 x.2.2.2.2.2.2.2.2.2.1 x.2.2.2.2.2.2.2.2.2.2.1 x.2.2.2.2.2.2.2.2.2.2.2.1 w ∧ (g.ws.length - x.2.2.2.2.2.2.2.2.2.2.2.1 : Int).toNat < (g.ws.length - j : Int).toNat) _ from S _ _ _ _ _ _ _ _ _ _ _ _ h
  clear h x hO
  rintro _ _ _ _ _ _ _ _ _ _ _ j ⟨rfl, rfl, rfl, rfl, rfl, rfl, rfl, rfl, rfl, rfl, rfl, h0, hj, H, hS, hO⟩
  unfold f9_l3
  have hgl := hg.len
  refine bif_d (fun h => ?_) (fun h => ?_)
  · obtain ⟨x, hx2⟩ : ∃ x, g.ws[j.toNat]? = some x := ⟨_, List.getElem?_eq_getElem (by omega)⟩
    obtain ⟨a, hep, hc⟩ := hrw _ _ hx2
    rw [Int.toNat_of_nonneg h0] at hc
    have hxr := hg.ws x (List.mem_of_getElem? hx2)
    refine ⟨h0, h, ?_⟩
    rw [hep]
    refine nn_i ?_
    refine LI_i (hO.cell0 hc) ?_
    rw [show IntKind.wrap .i64 (k + 1) = k + 1 from wrap64 (by omega) (by omega)]
    obtain ⟨y1, hy1⟩ : ∃ y, xs[(k + 1).toNat]? = some y := ⟨_, List.getElem?_eq_getElem (by omega)⟩
    have hb1 := hxb y1 (List.mem_of_getElem? hy1)
    obtain ⟨rb, hrb⟩ : ∃ rb, r.p = some rb := by
      cases hp : r.p with
      | none => have := hr.nil hp; have := hr.le; omega
      | some rb => exact ⟨rb, rfl⟩
    have hat : r.at_ = some ⟨rb, 0, none⟩ := by simp [Rw.at_, hrb]
    have hB : Blk w rb 3 (r.xs ++ r.sp) := hO.blk (by simp [Rw.ent, hrb])
    refine nn_i ?_
    refine ls_i hO.drew (k := 0) (j := 0) rfl rfl rfl ?_
    refine ⟨by omega, by omega, ?_⟩
    rw [hat]
    refine nn_i ?_
    refine LI_i (n := y1) (by rw [World.cell?_drew, at_mk, hB.cell, List.getElem?_append_left (by rw [hx, List.length_map]; have := (List.getElem?_eq_some_iff.1 hy1).1; omega), hx, List.getElem?_map, show 0 + (k + 1).toNat * 1 = (k + 1).toNat by omega, hy1]; rfl) ?_
    refine nn_i ?_
    refine ls_i hO.drew (k := 3) (j := 0) rfl rfl rfl ?_
    refine write_same (Ls := _ :: _ :: _ :: Ls) hS hs1 hs2 (by omega) (by omega) (hO.drew.pick 2) fun H' m w' hS' hO => ?_
    refine ⟨_, rfl, ?_⟩
    rw [show IntKind.wrap .i64 (j + 1) = j + 1 from wrap64 (by omega) (by omega)]
    refine ⟨⟨rfl, rfl, rfl, rfl, rfl, rfl, rfl, rfl, rfl, by rw [hep], rfl, ?_, ?_, H', hS', (hO.pick 1).pick 2 |>.pick 1⟩, ?_⟩
    · show (0 : Int) ≤ j + 1; omega
    · show j + 1 ≤ (g.ws.length : Int); omega
    · show (g.ws.length - (j + 1) : Int).toNat < (g.ws.length - j : Int).toNat; omega
  · exact hK H _ hS hO
end

end Go.Proofs.Ytokpbanandikpaa

set_option maxRecDepth 100000
set_option linter.unusedVariables false
set_option linter.unusedSimpArgs false
namespace Go.Proofs.Ytokpbanandikpaa
open Go Go.V Go.Proofs
/-! ### a form's heap -/
section
variable {w0 w : World} {Ls : List (List Ent)} {K : Value → World → Prop} {i : HId} {H : PH}
set_option maxHeartbeats 2000000 in
theorem fheap_l1 {b1 b3 : Nat} {np : Option Addr} {nl nc : Nat} {size : Int} {l : List GNd} {r : Rw} {xs : List Int} {os0 : List ROb} {H0 : PH} {K2 : Tup f9_l1_o2 → World → Prop} {Kr : Tup f9_l1_or → World → Prop}
    (hin : NdsR w0 np l) (hnl : nl = l.length) (hok : ∀ g ∈ l, ndIn l.length g) (hr : r.ok 1) (hx : r.xs = xs.map (.int .i64)) (hxl : xs.length = l.length + 1) (hN : l.length ≤ 65536) (hxb : ∀ x ∈ xs, 0 ≤ x ∧ x ≤ 65537) (hs1 : 1 ≤ size) (hs2 : size ≤ 65536) (hS : SameH H0 os0 size)
    (hO : Owns w0 w ([cl b3 29 [.slice r.at_ r.n r.c]] :: r.ent 3 :: hpE i H0 :: Ls))
    (hK : ∀ H w', SameH H os0 size → Owns w0 w' ([cl b3 29 [.slice r.at_ r.n r.c]] :: r.ent 3 :: hpE i H :: Ls) → K2 ⟨some ⟨b1, 0, none⟩, some ⟨i.b, 0, none⟩, some ⟨b3, 0, none⟩, isV b3, ()⟩ w') :
    LoopP Pg 140 f9_l1_B f9_l1_A ⟨some ⟨b1, 0, none⟩, some ⟨i.b, 0, none⟩, some ⟨b3, 0, none⟩, isV b3, ⟨np, nl, nc⟩, ((nl : Nat) : Int), 0, ()⟩ w (K2, Kr, ()) := by
  let Inv : Option Addr → Option Addr → Option Addr → Value → Sl → Int → Int → World → Prop := fun r1 r2 r3 v s m j w => some ⟨b1, 0, none⟩ = r1 ∧ some ⟨i.b, 0, none⟩ = r2 ∧ some ⟨b3, 0, none⟩ = r3 ∧ isV b3 = v ∧ (⟨np, nl, nc⟩ : Sl) = s ∧ (nl : Int) = m ∧ 0 ≤ j ∧ j ≤ nl ∧
    ∃ H, SameH H os0 size ∧ Owns w0 w ([cl b3 29 [.slice r.at_ r.n r.c]] :: r.ent 3 :: hpE i H :: Ls)
  refine LoopP_intro (ann := f9_ann) follows (fun x w => Inv x.1 x.2.1 x.2.2.1 x.2.2.2.1 x.2.2.2.2.1 x.2.2.2.2.2.1 x.2.2.2.2.2.2.1 w) (fun x _ => (nl - x.2.2.2.2.2.2.1 : Int).toNat) ⟨rfl, rfl, rfl, rfl, rfl, rfl, Int.le_refl 0, Int.natCast_nonneg _, H0, hS, hO⟩ (fun x w h => (f9_l1_eq _ _ _ _ _ _ _ _ _ _ _).mpr ?_)
  suffices S : ∀ (r1 : Option Addr) (r2 : Option Addr) (r3 : Option Addr) (v : Value) (s : Sl) (m : Int) (j : Int), Inv r1 r2 r3 v s m j w → f9_l1 r1 r2 r3 v s m j w (fun x w => Inv x.1 x.2.1 x.2.2.1 x.2.2.2.1 x.2.2.2.2.1 x.2.2.2.2.2.1 x.2.2.2.2.2.2.1 w ∧ (nl - x.2.2.2.2.2.2.1 : Int).toNat < (nl - j : Int).toNat) _ _ from S _ _ _ _ _ _ _ h
  clear h x hO
  rintro _ _ _ _ _ _ j ⟨rfl, rfl, rfl, rfl, rfl, rfl, h0, hj, H, hS, hO⟩
  unfold f9_l1
  refine bif_d (fun h => ?_) (fun h => ?_)
  · obtain ⟨g, hg⟩ : ∃ g, l[j.toNat]? = some g := ⟨_, List.getElem?_eq_getElem (by omega)⟩
    obtain ⟨a, ep, ec, wp, wc, hnp, c0, c1, c2, c3, c4⟩ := hin _ _ hg
    rw [hnp]
    rw [Int.toNat_of_nonneg h0] at c0 c1 c2
    have ok := hok g (List.mem_of_getElem? hg)
    refine ⟨h0, h, ?_⟩
    refine nn_i ?_
    refine ⟨g.k, ep, g.es.length, ec, wp, g.ws.length, wc, ⟨hO.cell0 c0, hO.cell0 c1, hO.cell0 c2, trivial⟩, rfl, ?_⟩
    refine new_i hO fun b4 _ hO => ?_
    (refine st_i hO (k := 0) (j := 0) rfl rfl rfl trivial fun _ hO => ?_)
    (refine st_i hO (k := 0) (j := 0) rfl rfl rfl trivial fun _ hO => ?_)
    (refine st_i hO (k := 0) (j := 0) rfl rfl rfl trivial fun _ hO => ?_)
    try dsimp only [pick1, set2, List.set] at hO
    (refine ls_i hO (k := 0) (j := 0) rfl rfl rfl ?_)
    have hO2 : Owns w0 _ ([cl b3 29 [.slice r.at_ r.n r.c]] :: r.ent 3 :: hpE i H :: ndE b4 g ep ec wp wc :: Ls) := hO.re (by unfold ndE; intro z; simp only [List.append_eq, cnt2_cons, cnt2_app, cnt2_nil, cnt1_app, cnt1_nil, List.cons_append, List.nil_append]; omega)
    refine fheap_l2 (b4 := b4) (np := some a) (nl := nl) (nc := nc) (k := j) ok c3 hr hx hxl hN hxb h0 (by omega) hs1 hs2 hS hO2 fun H2 w2 hS2 hO => ?_
    show f9_j2 _ _ _ _ _ _ _ _ _ _ _ _ _ _ _
    unfold f9_j2
    refine nn_i ?_
    refine ls_i hO (k := 3) (j := 0) rfl rfl rfl ?_
    refine fheap_l3 (b4 := b4) (np := some a) (nl := nl) (nc := nc) (k := j) ok c4 hr hx hxl hN hxb h0 (by omega) hs1 hs2 hS2 hO fun H3 w3 hS3 hO => ?_
    show Inv _ _ _ _ _ _ (IntKind.wrap .i64 (j + 1)) w3 ∧ (nl - IntKind.wrap .i64 (j + 1) : Int).toNat < (nl - j : Int).toNat
    rw [show IntKind.wrap .i64 (j + 1) = j + 1 from wrap64 (by omega) (by omega)]
    refine ⟨⟨rfl, rfl, rfl, rfl, by rw [hnp], rfl, by omega, by omega, H3, hS3, hO.cut 3 1⟩, by omega⟩
  · exact hK H _ hS hO

set_option maxHeartbeats 2000000 in
theorem fheap_l4 {b1 b3 : Nat} {rp : Option Addr} {rl rc : Nat} {rs : List Int} {N : Nat} {r : Rw} {xs : List Int} {hp1 : Option Addr} {K8 : Tup f9_l4_o8 → World → Prop} {Kr : Tup f9_l4_or → World → Prop}
    (hre : RdI w0 .i64 rp rs) (hrl : rl = rs.length) (hrs : ∀ x ∈ rs, 0 ≤ x ∧ x ≤ N) (hrl2 : rs.length ≤ 100000) (hr : r.ok 1) (hx : r.xs = xs.map (.int .i64)) (hxl : xs.length = N + 1)
    (hO : Owns w0 w ([cl b3 29 [.slice r.at_ r.n r.c]] :: r.ent 3 :: Ls))
    (hK : ∀ (q : Rw) w', q.ok 1 → q.xs = (rs.map fun n => (xs[n.toNat]?).getD 0).map (.int .i64) → Owns w0 w' (q.ent 3 :: [cl b3 29 [.slice r.at_ r.n r.c]] :: r.ent 3 :: Ls) → K8 ⟨hp1, ⟨q.at_, q.n, q.c⟩, ()⟩ w') :
    LoopP Pg 140 f9_l4_B f9_l4_A ⟨hp1, some ⟨b3, 0, none⟩, isV b3, ⟨none, 0, 0⟩, ⟨rp, rl, rc⟩, ((rl : Nat) : Int), 0, ()⟩ w (K8, Kr, ()) := by
  have hrn : r.n = N + 1 := by have := hr.len; rw [hx, List.length_map] at this; omega
  let Inv : Option Addr → Option Addr → Value → Sl → Sl → Int → Int → World → Prop := fun r1 r3 v q s m j w => hp1 = r1 ∧ some ⟨b3, 0, none⟩ = r3 ∧ isV b3 = v ∧ (⟨rp, rl, rc⟩ : Sl) = s ∧ (rl : Int) = m ∧ 0 ≤ j ∧ j ≤ rl ∧
    ∃ (q' : Rw), (⟨q'.at_, q'.n, q'.c⟩ : Sl) = q ∧ q'.ok 1 ∧ q'.xs = ((rs.take j.toNat).map fun n => (xs[n.toNat]?).getD 0).map (.int .i64) ∧ Owns w0 w (q'.ent 3 :: [cl b3 29 [.slice r.at_ r.n r.c]] :: r.ent 3 :: Ls)
  refine LoopP_intro (ann := f9_ann) follows (fun x w => Inv x.1 x.2.1 x.2.2.1 x.2.2.2.1 x.2.2.2.2.1 x.2.2.2.2.2.1 x.2.2.2.2.2.2.1 w) (fun x _ => (rl - x.2.2.2.2.2.2.1 : Int).toNat) ⟨rfl, rfl, rfl, rfl, rfl, Int.le_refl 0, Int.natCast_nonneg _, Rw.none_, rfl, Rw.none_ok, rfl, hO.perm (.refl _)⟩ (fun x w h => (f9_l4_eq _ _ _ _ _ _ _ _ _ _ _).mpr ?_)
  suffices S : ∀ (r1 : Option Addr) (r3 : Option Addr) (v : Value) (q : Sl) (s : Sl) (m : Int) (j : Int), Inv r1 r3 v q s m j w → f9_l4 r1 r3 v q s m j w (fun x w => Inv x.1 x.2.1 x.2.2.1 x.2.2.2.1 x.2.2.2.2.1 x.2.2.2.2.2.1 x.2.2.2.2.2.2.1 w ∧ (rl - x.2.2.2.2.2.2.1 : Int).toNat < (rl - j : Int).toNat) _ _ from S _ _ _ _ _ _ _ h
  clear h x hO
  rintro _ _ _ _ _ _ j ⟨rfl, rfl, rfl, rfl, rfl, h0, hj, q, rfl, hq, hqx, hO⟩
  unfold f9_l4
  refine bif_d (fun h => ?_) (fun h => ?_)
  · obtain ⟨x, hx2⟩ : ∃ x, rs[j.toNat]? = some x := ⟨_, List.getElem?_eq_getElem (by omega)⟩
    obtain ⟨a, hep, hc⟩ := hre _ _ hx2
    rw [Int.toNat_of_nonneg h0] at hc
    have hxr := hrs x (List.mem_of_getElem? hx2)
    refine ⟨h0, h, ?_⟩
    rw [hep]
    refine nn_i ?_
    refine LI_i (hO.cell0 hc) ?_
    refine is_cv (hO.row 1 0 rfl) ?_
    refine ⟨_, rfl, ?_⟩
    rw [decide_eq_true (by omega)]
    simp only [Bool.not_true, cond_false]
    obtain ⟨y2, hy2⟩ : ∃ y, xs[x.toNat]? = some y := ⟨_, List.getElem?_eq_getElem (by omega)⟩
    obtain ⟨rb, hrb⟩ : ∃ rb, r.p = some rb := by
      cases hp : r.p with
      | none => have := hr.nil hp; have := hr.le; omega
      | some rb => exact ⟨rb, rfl⟩
    have hat : r.at_ = some ⟨rb, 0, none⟩ := by simp [Rw.at_, hrb]
    have hB : Blk _ rb 3 (r.xs ++ r.sp) := hO.blk (by simp [Rw.ent, hrb])
    refine nn_i ?_
    refine ls_i hO (k := 1) (j := 0) rfl rfl rfl ?_
    refine ⟨by omega, by omega, ?_⟩
    rw [hat]
    refine nn_i ?_
    refine LI_i (n := y2) (by rw [at_mk, hB.cell, List.getElem?_append_left (by rw [hx, List.length_map]; have := (List.getElem?_eq_some_iff.1 hy2).1; omega), hx, List.getElem?_map, show 0 + x.toNat * 1 = x.toNat by omega, hy2]; rfl) ?_
    refine new_i hO fun b5 _ hO => ?_
    have hqn : q.n = j.toNat := by have := hq.len; rw [hqx, List.length_map, List.length_map, List.length_take] at this; omega
    refine apInt (hO.pick 1) hq (x := some ⟨b5, 0, none⟩) (news := [.int .i64 y2]) rfl (fun h => by cases h) (by
      intro a ha z u hu
      cases ha
      rw [add_mk, Nat.zero_add, (hO.row 0 0 rfl).cell]; exact hu) (by intro u hu; simp at hu; subst hu; rfl) (by omega) fun q' w' hq' hqx' hn' hO _ => ?_
    rw [show IntKind.wrap .i64 (j + 1) = j + 1 from wrap64 (by omega) (by omega)]
    refine ⟨⟨rfl, rfl, rfl, by rw [hep], rfl, ?_, ?_, q', rfl, hq', ?_, ?_⟩, ?_⟩
    · show (0 : Int) ≤ j + 1; omega
    · show j + 1 ≤ (rl : Int); omega
    · show q'.xs = ((rs.take (j + 1).toNat).map fun n => (xs[n.toNat]?).getD 0).map (.int .i64)
      obtain ⟨hl, he⟩ := List.getElem?_eq_some_iff.1 hx2
      rw [show (j + 1).toNat = j.toNat + 1 by omega, hqx', hqx, List.take_succ_eq_append_getElem hl, he]
      simp [hy2]
    · exact hO.cut 1 1
    · show (rl - (j + 1) : Int).toNat < (rl - j : Int).toNat; omega
  · have e : rs.take j.toNat = rs := List.take_of_length_le (by omega)
    rw [e] at hqx
    exact hK q _ hq hqx hO

set_option maxHeartbeats 2000000 in
/-- A form that is one has a heap of its nodes' heads. -/
theorem fheap_spec {rp np : Option Addr} {rl rc nl nc : Nat} {rs : List Int} {l : List GNd} {size : Int} (hin : NdsR w np l) (hnl : nl = l.length) (hok : ∀ g ∈ l, ndIn l.length g) (hN : l.length ≤ 65536) (hre : RdI w .i64 rp rs) (hrl : rl = rs.length) (hrs : ∀ x ∈ rs, 0 ≤ x ∧ x ≤ l.length) (hrl2 : rs.length ≤ 100000)
    (hs1 : 1 ≤ size) (hs2 : size ≤ 65536) (hfit : wordsN l ≤ size)
    (hK : ∀ (i : HId) (H : PH) (q : Rw) w', SameH H (obsN l 0) size → q.ok 1 → q.xs = (rs.map fun n => (((0 :: refsN l 0) : List Int)[n.toNat]?).getD 0).map (.int .i64) → Owns w w' (hpE i H :: q.ent 3 :: []) → K (.tuple ⟨[hpP i, .slice q.at_ q.n q.c, .int .i64 0]⟩) w') : Ret Pg 9 [.agg ⟨[.slice rp rl rc, .slice np nl nc]⟩, .int .i64 size] w K := by
  refine f9_ret ?_
  have hO := Owns.start (w := w)
  unfold f9
  refine new_i hO fun b1 w1 hO => ?_
  refine new_spec hs1 hs2 hO fun i w2 hO => ?_
  refine ⟨_, _, rfl, ?_⟩
  rw [show (((0 : Int) != 0)) = false from rfl, cond_false]
  refine new_i hO fun b2 _ hO => ?_
  refine new_i hO fun b3 _ hO => ?_
  (refine st_i hO (k := 0) (j := 0) rfl rfl rfl trivial fun _ hO => ?_)
  try dsimp only [pick1, set2, List.set] at hO
  refine ls_i hO (k := 3) (j := 0) rfl rfl rfl ?_
  have hwb := (wordsN_bound (l := l) fun g hg => (hok g hg).ok).1
  have hrb := refsN_bound (l := l) (a := 0) (fun g hg => (hok g hg).ok) (Int.le_refl 0)
  have hxb : ∀ x ∈ (0 :: refsN l 0), 0 ≤ x ∧ x ≤ 65537 := by
    intro x hx
    rcases List.mem_cons.1 hx with rfl | hx
    · omega
    · have := hrb x hx; omega
  let r0 : Rw := ⟨some b2, 1, 1, [.int .i64 0], []⟩
  have hr0 : r0.ok 1 := ⟨rfl, rfl, Nat.le_refl _, by show 1 ≤ maxLen; simp [maxLen], fun h => by cases h⟩
  refine fheap_l0 (r0 := r0) (F := []) hin hnl hok hN hs2 hfit hs1 hr0 rfl (Ls := [[cl b1 37 [.slice rp rl rc, .slice np nl nc]]]) hO fun r H rest w3 hr hx hR hHl hO => ?_
  show f9_j1 _ _ _ _ _
  unfold f9_j1
  refine nn_i ?_
  refine ls_i hO (k := 3) (j := 0) rfl rfl rfl ?_
  refine fheap_l1 hin hnl hok hr hx (by simp [length_refsN]) hN hxb hs1 hs2 ⟨⟨_, rest, hR, rfl⟩, hHl⟩ hO fun H w4 hS hO => ?_
  show f9_j3 _ _ _ _ _ _
  unfold f9_j3
  refine nn_i ?_
  refine ls_i hO (k := 3) (j := 0) rfl rfl rfl ?_
  refine fheap_l4 (b1 := b1) hre hrl hrs hrl2 hr hx (by simp [length_refsN]) hO fun q w5 hq hqx hO => ?_
  refine hK i H q _ hS hq hqx ?_
  exact (hO.pick 3).cut 2 3
end

end Go.Proofs.Ytokpbanandikpaa

set_option maxRecDepth 100000
set_option linter.unusedVariables false
set_option linter.unusedSimpArgs false
namespace Go.Proofs.Ytokpbanandikpaa
open Go Go.V Go.Proofs
/-! ### a tally of nothing -/
section
variable {w : World} {K : Value → World → Prop}
theorem class_nan {r : Nat} (h : Ieee.Format.order (FloatKind.format .f64) r r = none) (hK : K (.int .i64 0) w) : Ret Pg 13 [.float .f64 r] w K := by
  refine f13_ret ?_
  unfold f13
  rw [h]
  exact hK
theorem mean_nan {tl : List Int} {k : Int} (hl : tl.length = 33) (h : rowT tl k = (0, 0)) (hK : ∀ r w', Ieee.Format.order (FloatKind.format .f64) r r = none → Old w w' → K (.float .f64 r) w') : Ret Pg 14 [.agg ⟨tl.map (.int .i64)⟩, .int .i64 k] w K := by
  refine f14_ret ?_
  have hO := Owns.start (w := w)
  unfold f14
  refine new_i hO fun b1 _ hO => ?_
  refine ca_len hO (k := 0) (j := 0) rfl rfl (by rw [List.length_map, hl]) ?_
  (refine row_spec hl fun _ ho => ?_; replace hO := hO.after ho)
  rw [h]
  refine ⟨_, _, rfl, ?_⟩
  refine new_i hO fun _ _ hO => ?_
  (refine st_i hO (k := 0) (j := 0) rfl rfl rfl trivial fun _ hO => ?_)
  (refine st_i hO (k := 0) (j := 0) rfl rfl rfl trivial fun _ hO => ?_)
  (refine li_i hO (k := 0) (j := 0) rfl rfl rfl ?_)
  (refine li_i hO (k := 0) (j := 0) rfl rfl rfl ?_)
  refine share00_spec fun r w' hr ho => ?_
  replace hO := hO.after ho
  exact ⟨_, rfl, hK _ _ hr hO.old⟩
theorem share_nan {tl : List Int} {k : Int} (hl : tl.length = 33) (h : (rowT tl k).2 = 0) (h2 : (sumT tl 16).2 = 0) (hK : ∀ r w', Ieee.Format.order (FloatKind.format .f64) r r = none → Old w w' → K (.float .f64 r) w') : Ret Pg 15 [.agg ⟨tl.map (.int .i64)⟩, .int .i64 k] w K := by
  refine f15_ret ?_
  have hO := Owns.start (w := w)
  unfold f15
  refine new_i hO fun b1 _ hO => ?_
  refine ca_len hO.drew (k := 0) (j := 0) rfl rfl (by rw [List.length_map, hl]) ?_
  refine ca_len hO.drew (k := 0) (j := 0) rfl rfl (by rw [List.length_map, hl]) ?_
  replace hO := hO.drew
  refine row_spec hl fun w2 ho => ?_
  replace hO := hO.after ho
  refine ⟨_, _, rfl, ho, _, rfl, ?_⟩
  (refine all_spec hl fun _ ho => ?_; replace hO := hO.after ho)
  refine ⟨_, _, rfl, _, rfl, ?_⟩
  rw [h, h2]
  refine share00_spec fun r w' hr ho => ?_
  replace hO := hO.after ho
  exact ⟨_, rfl, hK _ _ hr hO.old⟩
set_option maxHeartbeats 2000000 in
theorem add_spec {ta tb : List Int} (h1 : ta.length = 33) (h2 : tb.length = 33) (hK : ∀ (tl : List Int) w', tl.length = 33 → tl[32]? = some (IntKind.wrap .i64 ((ta[32]?).getD 0 + (tb[32]?).getD 0)) → Old w w' → K (.agg ⟨tl.map (.int .i64)⟩) w') : Ret Pg 16 [.agg ⟨ta.map (.int .i64)⟩, .agg ⟨tb.map (.int .i64)⟩] w K := by
  refine f16_ret ?_
  have hO := Owns.start (w := w)
  unfold f16
  refine new_i hO fun b1 w1 hO => ?_
  refine new_i hO fun b2 w2 hO => ?_
  refine new_i hO fun b3 w3 hO => ?_
  refine ⟨(tb.take 32).map (.int .i64), ?_, by simp [h2], ?_⟩
  · refine cells_of_blk (hO.row 1 0 rfl) fun j v hv => ?_
    rw [Nat.zero_add, Nat.zero_add, List.getElem?_map]
    rw [List.getElem?_map, List.getElem?_take] at hv
    split at hv
    · exact hv
    · cases hv
  let Inv : Option Addr → Option Addr → Option Addr → List Value → Int → World → Prop := fun p q s vs i w' => some ⟨b1, 0, none⟩ = p ∧ some ⟨b2, 0, none⟩ = q ∧ some ⟨b3, 0, none⟩ = s ∧ (tb.take 32).map (.int .i64) = vs ∧ 0 ≤ i ∧ i ≤ 16 ∧
    ∃ tl : List Int, tl.length = 33 ∧ tl[32]? = ta[32]? ∧ Owns w w' ([cl b3 48 (List.replicate 33 (.int .i64 0))] :: [cl b2 48 (tb.map (.int .i64))] :: [cl b1 48 (tl.map (.int .i64))] :: [])
  refine LoopP_intro (ann := f16_ann) follows (fun x w => Inv x.1 x.2.1 x.2.2.1 x.2.2.2.1 x.2.2.2.2.1 w) (fun x _ => (16 - x.2.2.2.2.1 : Int).toNat) ⟨rfl, rfl, rfl, rfl, Int.le_refl 0, by show (0 : Int) ≤ 16; omega, ta, h1, rfl, hO⟩ (fun x w h => (f16_l0_eq _ _ _ _ _ _ _ _).mpr ?_)
  suffices S : ∀ (p : Option Addr) (q : Option Addr) (s : Option Addr) (vs : List Value) (i : Int), Inv p q s vs i w → f16_l0 p q s vs i w (fun x w => Inv x.1 x.2.1 x.2.2.1 x.2.2.2.1 x.2.2.2.2.1 w ∧ (16 - x.2.2.2.2.1 : Int).toNat < (16 - i : Int).toNat) _ from S _ _ _ _ _ h
  clear h x hO
  rintro _ _ _ _ i ⟨rfl, rfl, rfl, rfl, h0, hi, tl, hl, ht, hO⟩
  unfold f16_l0
  refine bif_d (fun h => ?_) (fun h => ?_)
  · obtain ⟨x, hx⟩ : ∃ x, tb[2 * i.toNat]? = some x := ⟨_, List.getElem?_eq_getElem (by omega)⟩
    obtain ⟨y, hy⟩ : ∃ y, tb[2 * i.toNat + 1]? = some y := ⟨_, List.getElem?_eq_getElem (by omega)⟩
    obtain ⟨x1, hx1⟩ : ∃ x, tl[2 * i.toNat]? = some x := ⟨_, List.getElem?_eq_getElem (by omega)⟩
    obtain ⟨y1, hy1⟩ : ∃ y, tl[2 * i.toNat + 1]? = some y := ⟨_, List.getElem?_eq_getElem (by omega)⟩
    refine ⟨h0, by omega, x, y, take2 (by rw [List.getElem?_map, List.getElem?_take, if_pos (by omega), show i.toNat * 2 = 2 * i.toNat by omega, hx]; rfl) (by rw [List.getElem?_map, List.getElem?_take, if_pos (by omega), show i.toNat * 2 + 1 = 2 * i.toNat + 1 by omega, hy]; rfl), ?_⟩
    refine new_i hO fun b4 _ hO => ?_
    (refine st_i hO (k := 0) (j := 0) rfl rfl rfl trivial fun _ hO => ?_)
    (refine st_i hO (k := 0) (j := 0) rfl rfl rfl trivial fun _ hO => ?_)
    try dsimp only [pick1, set2, List.set] at hO
    refine nn_i ?_
    refine ⟨h0, by omega, x1, y1, ?_, rfl, ?_⟩
    · rw [at_mk]
      refine ⟨?_, ?_, trivial⟩
      · rw [add_mk, World.cell?_drew, (hO.row 3 0 rfl).cell, List.getElem?_map, show 0 + i.toNat * 2 + 0 = 2 * i.toNat by omega, hx1]; rfl
      · rw [add_mk, World.cell?_drew, (hO.row 3 0 rfl).cell, List.getElem?_map, show 0 + i.toNat * 2 + (0 + 1) = 2 * i.toNat + 1 by omega, hy1]; rfl
    refine ⟨_, _, ca_i hO.drew (k := 0) (j := 0) rfl rfl, rfl, ?_⟩
    refine nn_i ?_
    replace hO := hO.drew
    (refine plus_spec fun _ ho => ?_; replace hO := hO.after ho)
    refine ⟨_, _, rfl, h0, by omega, ?_⟩
    refine st_i hO (k := 3) (j := 0) rfl (by rw [at_mk]) (Nat.ble_eq_true_of_le (by simp; omega)) trivial fun _ hO => ?_
    refine st_i hO (k := 3) (j := 0) rfl (by rw [at_mk, add_mk]) (Nat.ble_eq_true_of_le (by simp; omega)) trivial fun _ hO => ?_
    rw [show IntKind.wrap .i64 (i + 1) = i + 1 from wrap64 (by omega) (by omega)]
    refine ⟨⟨rfl, rfl, rfl, rfl, ?_, ?_, (tl.set (0 + i.toNat * 2) (IntKind.wrap .i64 (x1 + x))).set (0 + i.toNat * 2 + 1) (IntKind.wrap .i64 (y1 + y)), ?_, ?_, ?_⟩, ?_⟩
    · show (0 : Int) ≤ i + 1; omega
    · show i + 1 ≤ (16 : Int); omega
    · simp [hl]
    · rw [List.getElem?_set_ne (by omega), List.getElem?_set_ne (by omega)]; exact ht
    · have hO' := hO.cut 0 1
      simp only [set2, List.set, ← List.map_set, List.take, List.drop, List.nil_append, Nat.zero_add] at hO'
      simp only [Nat.zero_add]
      exact hO'
    · show (16 - (i + 1) : Int).toNat < (16 - i : Int).toNat; omega
  · obtain ⟨x, hx⟩ : ∃ x, tb[32]? = some x := ⟨_, List.getElem?_eq_getElem (by omega)⟩
    obtain ⟨y, hy⟩ : ∃ x, tl[32]? = some x := ⟨_, List.getElem?_eq_getElem (by omega)⟩
    refine nn_i ?_
    refine li_i (n := y) hO (k := 2) (j := 0) rfl rfl (by rw [Nat.zero_add, List.getElem?_map, hy]; rfl) ?_
    refine nn_i ?_
    refine li_i (n := x) hO (k := 1) (j := 0) rfl rfl (by rw [Nat.zero_add, List.getElem?_map, hx]; rfl) ?_
    refine nn_i ?_
    refine st_i hO (k := 2) (j := 0) rfl rfl (Nat.ble_eq_true_of_le (by simp; omega)) trivial fun _ hO => ?_
    try dsimp only [pick1, set2, List.set] at hO
    rw [← List.map_set] at hO
    refine nn_i ?_
    refine ca_len hO (k := 2) (j := 0) rfl rfl (by simp [hl]) ?_
    refine nn_i ?_
    refine lenIs_i (by simp [hl]) ?_
    refine sts_i hO (k := 0) (j := 0) rfl rfl (by simp [hl]) one_ints fun _ hO => ?_
    try dsimp only [pick1, set2, List.set] at hO
    refine nn_i ?_
    refine ca_len hO (k := 0) (j := 0) rfl rfl (by simp [hl]) ?_
    refine hK _ _ (by simp [hl]) ?_ hO.old
    rw [Nat.zero_add, List.getElem?_set_self (by omega), ← ht, hy, hx]
    rfl
theorem awake19_spec (hK : ∀ w', Old w w' → K (.bool true) w') : Ret Pg 4 [] w K := by
  refine f4_ret ?_
  have hO := Owns.start (w := w)
  unfold f4
  refine new_i hO fun b1 w1 hO => ?_
  have e0 : (List.replicate 33 (.int .i64 0 : Value)) = (List.replicate 33 0).map (.int .i64) := by simp
  have hl : (List.replicate 33 (0 : Int)).length = 33 := by simp
  rw [e0] at hO
  refine ca_len hO (k := 0) (j := 0) rfl rfl (by simp) ?_
  refine mean_nan hl (by decide) fun r w' hr ho => ?_
  replace hO := hO.after ho
  refine ⟨_, rfl, ?_⟩
  refine class_nan hr ?_
  refine ⟨_, rfl, ?_⟩
  rw [show ((0 : Int) == 0) = true from rfl, cond_true]
  refine ca_len hO (k := 0) (j := 0) rfl rfl (by simp) ?_
  refine share_nan hl (by decide) (by decide) fun r w' hr ho => ?_
  replace hO := hO.after ho
  refine ⟨_, rfl, ?_⟩
  refine class_nan hr ?_
  refine ⟨_, rfl, ?_⟩
  rw [show ((0 : Int) == 0) = true from rfl, cond_true]
  refine ca_len hO (k := 0) (j := 0) rfl rfl (by simp) ?_
  have e2 : (List.replicate 32 (.int .i64 0 : Value) ++ [.int .i64 2]) = (tally0 2).map (.int .i64) := by simp [tally0]
  rw [e2]
  refine add_spec hl (by simp [tally0]) fun tl w' h1 h2 ho => ?_
  replace hO := hO.after ho
  refine ⟨_, by rw [List.length_map, h1], rfl, 2, ?_, hK _ hO.old⟩
  rw [List.getElem?_map, h2]
  rfl
end

end Go.Proofs.Ytokpbanandikpaa

set_option maxRecDepth 100000
set_option linter.unusedVariables false
set_option linter.unusedSimpArgs false
namespace Go.Proofs.Ytokpbanandikpaa
open Go Go.V Go.Proofs
/-! ### the list of objects: all that leads leads to objects -/
structure PlOk (os : List ROb) : Prop where
  placed : placed os 0
  obs : ∀ o ∈ os, obOk o
theorem HR.pl {H : PH} {os : List ROb} {rest : List Int} (h : HR H os rest) : PlOk os := ⟨h.placed, h.obs⟩
theorem leadsR_iff {os : List ROb} (h : PlOk os) (x : Int) : leadsR os x = true ↔ x = 0 ∨ ∃ o ∈ os, o.at_ + 1 = x ∧ o.h.k ≠ 15 := by
  unfold leadsR
  have hge := placed_ge h.placed h.obs
  by_cases h1 : x ≤ 0
  · rw [if_pos h1]
    simp only [beq_iff_eq]
    constructor
    · exact .inl
    · rintro (h2 | ⟨o, ho, h2, _⟩)
      · exact h2
      · have := hge o ho; omega
  · rw [if_neg h1]
    rcases findR_spec (os := os) (n := x - 1) (i := 0) (Int.le_refl 0) with ⟨h2, h3⟩ | ⟨j, o, h2, h3, h4⟩
    · rw [h2, if_neg (by omega)]
      constructor
      · intro h; cases h
      · rintro (h4 | ⟨o, ho, h4, _⟩)
        · omega
        · exact absurd (by omega) (h3 o ho)
    · rw [h2, if_pos (by omega), show (0 + (j : Int)).toNat = j by omega, h3]
      simp only [Option.map_some, Option.getD_some, bne_iff_ne, ne_eq]
      constructor
      · intro h5; exact .inr ⟨o, List.mem_of_getElem? h3, by omega, h5⟩
      · rintro (h5 | ⟨o', ho', h5, h6⟩)
        · omega
        · obtain ⟨j', hj'⟩ := List.mem_iff_getElem?.1 ho'
          have e1 := findR_at h.placed h.obs hj' 0 (Int.le_refl 0)
          have e2 := findR_at h.placed h.obs h3 0 (Int.le_refl 0)
          rw [show o'.at_ = o.at_ by omega] at e1
          have : j' = j := by omega
          subst this
          rw [h3] at hj'
          cases hj'
          exact h6
structure OsOk (os : List ROb) : Prop where
  pl : PlOk os
  refs : ∀ o ∈ os, ∀ f : Nat, (f : Int) < o.h.p → ∀ x, o.ws[f]? = some x → leadsR os x = true
  bnd : ∀ o ∈ os, ∀ x ∈ o.ws, -9223372036854775808 < x ∧ x ≤ 9223372036854775807
theorem PlOk.place {size : Int} {os : List ROb} {x : Hd} (h : PlOk os) : PlOk (placeR size os x).1 := by
  unfold placeR
  split
  · exact h
  · split
    · exact h
    · rename_i hg _
      have hg : goodH x = true := by simpa using hg
      have g := goodH_iff.1 hg
      refine ⟨placed_append h.placed ⟨by simp, trivial⟩, fun o ho => ?_⟩
      rcases List.mem_append.1 ho with ho | ho
      · exact h.obs o ho
      · rw [List.mem_singleton.1 ho]
        exact ⟨hg, by simp; omega⟩
theorem leads_place {size : Int} {os : List ROb} {x : Hd} (h : PlOk os) {n : Int} (hn : leadsR os n = true) : leadsR (placeR size os x).1 n = true := by
  rw [leadsR_iff h.place]
  rcases (leadsR_iff h n).1 hn with h1 | ⟨o, ho, h1, h2⟩
  · exact .inl h1
  · refine .inr ⟨o, ?_, h1, h2⟩
    unfold placeR
    split
    · exact ho
    · split
      · exact ho
      · exact List.mem_append_left _ ho
theorem OsOk.place {size : Int} {os : List ROb} {x : Hd} (h : OsOk os) : OsOk (placeR size os x).1 := by
  refine ⟨h.pl.place, ?_, ?_⟩
  · intro o ho f hf y hy
    by_cases hm : o ∈ os
    · exact leads_place h.pl (h.refs o hm f hf y hy)
    · unfold placeR at ho
      split at ho
      · exact absurd ho hm
      · split at ho
        · exact absurd ho hm
        · rcases List.mem_append.1 ho with ho | ho
          · exact absurd ho hm
          · rw [List.mem_singleton.1 ho] at hy
            have := List.eq_of_mem_replicate (List.mem_of_getElem? hy)
            subst this
            exact (leadsR_iff h.pl.place 0).2 (.inl rfl)
  · intro o ho y hy
    by_cases hm : o ∈ os
    · exact h.bnd o hm y hy
    · unfold placeR at ho
      split at ho
      · exact absurd ho hm
      · split at ho
        · exact absurd ho hm
        · rcases List.mem_append.1 ho with ho | ho
          · exact absurd ho hm
          · rw [List.mem_singleton.1 ho] at hy
            have := List.eq_of_mem_replicate hy
            subst this
            omega
theorem writeR_cases (os : List ROb) (a f x : Int) : (writeR os a f x).1 = os ∨ ∃ (j : Nat) (o : ROb), os[j]? = some o ∧ o.at_ = a ∧ 0 ≤ f ∧ f < o.h.l ∧ (f < o.h.p → leadsR os x = true) ∧ (writeR os a f x).1 = os.set j ⟨o.at_, o.h, o.ws.set f.toNat x⟩ := by
  unfold writeR
  rcases findR_spec (os := os) (n := a) (i := 0) (Int.le_refl 0) with ⟨h2, h3⟩ | ⟨j, o, h2, h3, h4⟩
  · rw [h2, if_pos (by omega)]; exact .inl rfl
  · rw [h2, if_neg (by omega), show (0 + (j : Int)).toNat = j by omega, h3]
    simp only []
    split
    · exact .inl rfl
    · split
      · exact .inl rfl
      · refine .inr ⟨j, o, h3, h4, by omega, by omega, fun h5 => ?_, rfl⟩
        rename_i hh
        cases hl : leadsR os x with
        | true => rfl
        | false => exact absurd ⟨h5, hl⟩ hh
theorem mem_hds {os : List ROb} {o : ROb} (h : o ∈ os) : (o.at_, o.h) ∈ hds os := List.mem_map.2 ⟨o, h, rfl⟩
theorem hds_mem {os os' : List ROb} (h : hds os = hds os') {o : ROb} (ho : o ∈ os) : ∃ o' ∈ os', o'.at_ = o.at_ ∧ o'.h = o.h := by
  have := mem_hds ho
  rw [h] at this
  obtain ⟨o', h1, h2⟩ := List.mem_map.1 this
  injection h2 with h3 h4
  exact ⟨o', h1, h3, h4⟩
theorem placed_hds : ∀ {os os' : List ROb} {a : Int}, hds os = hds os' → placed os a → placed os' a
  | [], [], _, _, _ => trivial
  | [], _ :: _, _, h, _ => by simp [hds] at h
  | _ :: _, [], _, h, _ => by simp [hds] at h
  | x :: r, y :: r', a, h, hp => by
    simp only [hds, List.map_cons, List.cons.injEq, Prod.mk.injEq] at h
    obtain ⟨⟨h1, h2⟩, h3⟩ := h
    exact ⟨by rw [← h1]; exact hp.1, by rw [← h2]; exact placed_hds h3 hp.2⟩
theorem PlOk.write {os : List ROb} (h : PlOk os) (a f x : Int) : PlOk (writeR os a f x).1 := by
  refine ⟨placed_hds (hds_writeR os a f x).symm h.placed, fun o ho => ?_⟩
  rcases writeR_cases os a f x with e | ⟨j, o', h1, h2, h3, h4, h5, e⟩
  · rw [e] at ho; exact h.obs o ho
  · rw [e] at ho
    have h6 := h.obs o' (List.mem_of_getElem? h1)
    rcases List.mem_or_eq_of_mem_set ho with h7 | h7
    · exact h.obs o h7
    · rw [h7]; exact ⟨h6.good, by simpa using h6.len⟩
theorem leadsR_hds {os os' : List ROb} (h : PlOk os) (h' : PlOk os') (e : hds os = hds os') {n : Int} (hn : leadsR os n = true) : leadsR os' n = true := by
  rw [leadsR_iff h']
  rcases (leadsR_iff h n).1 hn with h1 | ⟨o, ho, h1, h2⟩
  · exact .inl h1
  · obtain ⟨o', ho', h3, h4⟩ := hds_mem e ho
    exact .inr ⟨o', ho', by rw [h3]; exact h1, by rw [h4]; exact h2⟩
theorem OsOk.write {os : List ROb} (h : OsOk os) (a f x : Int) (hx : -9223372036854775808 < x ∧ x ≤ 9223372036854775807) : OsOk (writeR os a f x).1 := by
  refine ⟨h.pl.write a f x, ?_, ?_⟩
  · intro o ho q hq y hy
    refine leadsR_hds h.pl (h.pl.write a f x) (hds_writeR os a f x).symm ?_
    rcases writeR_cases os a f x with e | ⟨j, o', h1, h2, h3, h4, h5, e⟩
    · rw [e] at ho; exact h.refs o ho q hq y hy
    · rw [e] at ho
      rcases List.mem_or_eq_of_mem_set ho with h7 | h7
      · exact h.refs o h7 q hq y hy
      · subst h7
        simp only [] at hy hq
        by_cases hqf : f.toNat = q
        · subst hqf
          have hlt : f.toNat < o'.ws.length := by
            have := (List.getElem?_eq_some_iff.1 hy).1
            simpa using this
          rw [List.getElem?_set_self hlt] at hy
          cases hy
          exact h5 (by omega)
        · rw [List.getElem?_set_ne hqf] at hy
          exact h.refs o' (List.mem_of_getElem? h1) q hq y hy
  · intro o ho y hy
    rcases writeR_cases os a f x with e | ⟨j, o', h1, h2, h3, h4, h5, e⟩
    · rw [e] at ho; exact h.bnd o ho y hy
    · rw [e] at ho
      rcases List.mem_or_eq_of_mem_set ho with h7 | h7
      · exact h.bnd o h7 y hy
      · subst h7
        rcases List.mem_or_eq_of_mem_set hy with h8 | h8
        · exact h.bnd o' (List.mem_of_getElem? h1) y h8
        · rw [h8]; exact hx
/-! ### what Build has built -/
structure BA (size : Int) (os : List ROb) (ats : List Int) : Prop where
  good : OsOk os
  ats : ∀ a ∈ ats, leadsR os (1 + a) = true
  small : ∀ o ∈ os, o.h.l ≤ 13
theorem placeR_fit {size : Int} {os : List ROb} {x : Hd} (hg : goodH x = true) (h : topR os + 1 + x.l ≤ size) : placeR size os x = (os ++ [⟨topR os, x, List.replicate x.l.toNat 0⟩], topR os, 0) := by
  unfold placeR
  rw [if_neg (by rw [hg]; simp), if_neg (by omega)]
theorem ndH_good {nd : GNode} (h : nd.ok) : goodH (ndH nd) = true := by
  have := h.k0; have := h.m0; have := h.el
  refine goodH_iff.2 ?_
  simp only [ndH]
  omega
theorem BA.place {size : Int} {os : List ROb} {ats : List Int} {x : Hd} (h : BA size os ats) (hl : x.l ≤ 13) : BA size (placeR size os x).1 ats := by
  refine ⟨h.good.place, fun a ha => leads_place h.good.pl (h.ats a ha), fun o ho => ?_⟩
  by_cases hm : o ∈ os
  · exact h.small o hm
  · unfold placeR at ho
    split at ho
    · exact absurd ho hm
    · split at ho
      · exact absurd ho hm
      · rcases List.mem_append.1 ho with ho | ho
        · exact absurd ho hm
        · rw [List.mem_singleton.1 ho]; exact hl
theorem buildA_ok {size : Int} : ∀ {ns : List GNode} {i : Int} {os : List ROb} {ats : List Int}, (∀ nd ∈ ns, nd.ok) → topR os + sizeN ns < size → BA size os ats →
    BA size (buildA size ns i (os, ats)).1 (buildA size ns i (os, ats)).2
  | [], _, _, _, _, _, h => h
  | nd :: r, i, os, ats, hns, hs, h => by
    have ok := hns nd (by simp)
    have := ok.k0; have := ok.m0; have := ok.el
    have hsr := (sizeN_bound (ns := r) fun nd h => hns nd (by simp [h])).1
    simp only [sizeN] at hs
    simp only [buildA]
    generalize ho1 : (if i % 3 = 2 then (placeR size os ⟨15, nd.kind % 2, 0⟩).1 else os) = os1
    have hl1 : (ndH nd).l ≤ 13 := by simp only [ndH]; omega
    have hl0 : (ndH nd).l = nd.edges.length + nd.more % 4 := rfl
    have h1 : BA size os1 ats ∧ topR os1 ≤ topR os + 2 := by
      subst ho1
      split
      · refine ⟨h.place (by show nd.kind % 2 ≤ 13; omega), ?_⟩
        unfold placeR
        split
        · show topR os ≤ _; omega
        · split
          · show topR os ≤ _; omega
          · show topR (os ++ _) ≤ _
            rw [topR_append]
            simp only [topR]
            omega
      · exact ⟨h, by omega⟩
    obtain ⟨h1, h2⟩ := h1
    have hp := placeR_fit (size := size) (os := os1) (ndH_good ok) (by omega)
    have h3 := h1.place (x := ndH nd) hl1
    rw [hp] at h3 ⊢
    refine buildA_ok (fun nd h => hns nd (by simp [h])) ?_ ⟨h3.good, ?_, h3.small⟩
    · rw [topR_append]
      simp only [topR]
      omega
    · intro a ha
      rcases List.mem_append.1 ha with ha | ha
      · exact h3.ats a ha
      · rw [List.mem_singleton.1 ha]
        refine (leadsR_iff h3.good.pl _).2 (.inr ⟨_, List.mem_append_right _ (List.mem_singleton.2 rfl), by simp only []; omega, ?_⟩)
        simp only [ndH]
        omega
theorem BA.write {size : Int} {os : List ROb} {ats : List Int} (h : BA size os ats) (a f x : Int) (hx : -9223372036854775808 < x ∧ x ≤ 9223372036854775807) : BA size (writeR os a f x).1 ats := by
  refine ⟨h.good.write a f x hx, fun b hb => leadsR_hds h.good.pl (h.good.pl.write a f x) (hds_writeR os a f x).symm (h.ats b hb), fun o ho => ?_⟩
  obtain ⟨o', ho', h1, h2⟩ := hds_mem (hds_writeR os a f x) ho
  rw [← h2]
  exact h.small o' ho'
theorem buildE_ok {size : Int} {ats l : List Int} (hl : ∀ x ∈ l, 0 ≤ x ∧ x ≤ 65536) {a : Int} : ∀ {es : List Int} {k : Int} {os : List ROb}, BA size os ats → BA size (buildE l a es k os) ats
  | [], _, _, h => h
  | e :: r, k, os, h => buildE_ok hl (es := r) (h.write a k _ (by have := placeN_bound hl e; omega))
theorem buildM_ok {size : Int} {ats : List Int} {a i base : Int} (hi : 0 ≤ i ∧ i ≤ 1000) : ∀ {c : Nat} {k : Int} {os : List ROb}, 0 ≤ k → k + c ≤ 1000 → BA size os ats → BA size (buildM a i base c k os) ats
  | 0, _, _, _, _, h => h
  | c + 1, k, os, hk, hc, h => buildM_ok hi (c := c) (by omega) (by omega) (h.write a (base + k) _ (by omega))
theorem buildB_ok {size : Int} {ats l : List Int} (hl : ∀ x ∈ l, 0 ≤ x ∧ x ≤ 65536) : ∀ {ns : List GNode} {i : Int} {os : List ROb}, (∀ nd ∈ ns, nd.ok) → 0 ≤ i → i + ns.length ≤ 1000 → BA size os ats → BA size (buildB l ns i os) ats
  | [], _, _, _, _, _, h => h
  | nd :: r, i, os, hns, h0, hi, h => by
    simp only [buildB]
    simp only [List.length_cons] at hi
    exact buildB_ok hl (fun nd h => hns nd (by simp [h])) (by omega) (by omega) (buildM_ok (by omega) (Int.le_refl 0) (by omega) (buildE_ok hl h))
theorem bObs_ok {ns : List GNode} {room : Int} (hns : ∀ nd ∈ ns, nd.ok) (hlen : ns.length ≤ 14) (hr : 0 ≤ room) (hb : ∀ x ∈ bAts ns room, 0 ≤ x ∧ x ≤ 65536) : BA (bSize ns room) (bObs ns room) (bAts ns room) := by
  unfold bObs
  refine buildB_ok hb hns (Int.le_refl 0) (by omega) ?_
  refine buildA_ok hns (by simp only [topR]; unfold bSize; omega) ⟨⟨⟨trivial, fun _ h => (by cases h)⟩, fun _ h => (by cases h), fun _ h => (by cases h)⟩, fun _ h => (by cases h), fun _ h => (by cases h)⟩
theorem placeN_leads {ats : List Int} {os : List ROb} (h : ∀ a ∈ ats, leadsR os (1 + a) = true) (h0 : leadsR os 0 = true) (n : Int) (hn : 0 ≤ n) : leadsR os (placeN ats n) = true := by
  unfold placeN
  split
  · exact h0
  · have : (n % ((ats.length : Int) + 1)).toNat < ats.length := by
      have := Int.emod_nonneg n (b := (ats.length : Int) + 1) (by omega)
      have := Int.emod_lt_of_pos n (b := (ats.length : Int) + 1) (by omega)
      omega
    rw [List.getElem?_eq_getElem this]
    exact h _ (List.getElem_mem _)

end Go.Proofs.Ytokpbanandikpaa

set_option maxRecDepth 100000
set_option linter.unusedVariables false
set_option linter.unusedSimpArgs false
namespace Go.Proofs.Ytokpbanandikpaa
open Go Go.V Go.Proofs
/-! ### the form of a heap whose words all lead to objects -/
section
variable {H : PH} {os : List ROb} {rest : List Int}
theorem HR.read (h : HR H os rest) {j : Nat} {o : ROb} (ho : os[j]? = some o) {f : Nat} (hf : (f : Int) < o.h.l) : ∃ x, o.ws[f]? = some x ∧ H.read o.at_ f = (x, 0) := by
  have hm := List.mem_of_getElem? ho
  have hb := h.obs o hm
  have hl := hb.len
  obtain ⟨c1, c2, c3⟩ := words_at (rest := rest) h.placed h.obs ho
  have hge := placed_ge h.placed h.obs o hm
  have hhd : H.head o.at_ = (o.h, 0) := by
    rcases h.head o.at_ with ⟨_, h2⟩ | ⟨j', o', h2, h3, h4, h5⟩
    · have := findR_at h.placed h.obs ho 0 (Int.le_refl 0); omega
    · have e1 := findR_at h.placed h.obs h2 0 (Int.le_refl 0)
      have e2 := findR_at h.placed h.obs ho 0 (Int.le_refl 0)
      rw [h3] at e1
      have : j' = j := by omega
      subst this
      rw [ho] at h2
      cases h2
      exact h5
  have hw := c2 f (by omega)
  refine ⟨o.ws[f]'(by omega), List.getElem?_eq_getElem _, ?_⟩
  have hfd : H.field o.at_ f = (o.h, 0) := by
    unfold PH.field
    rw [hhd, if_neg (by simp), if_neg (by simp; omega)]
  unfold PH.read
  rw [hfd, if_neg (by simp)]
  unfold PH.word
  rw [h.words, show (o.at_ + 1 + (f : Int)).toNat = (o.at_ - 0).toNat + 1 + f by omega, hw, List.getElem?_eq_getElem (by omega)]
  rfl
theorem HR.obj (h : HR H os rest) {a : Int} (ha : (H.head a).2 = 0) : ∃ (j : Nat) (o : ROb), os[j]? = some o ∧ o.at_ = a ∧ H.head a = (o.h, 0) := by
  rcases h.head a with ⟨h1, _⟩ | ⟨j, o, h2, h3, h4, h5⟩
  · rw [h1] at ha; cases ha
  · exact ⟨j, o, h2, h3, h5⟩
theorem HR.fits (h : HR H os rest) (ho : OsOk os) : H.fits := by
  intro n f
  by_cases h1 : (H.head n).2 = 0
  · obtain ⟨j, o, h2, rfl, h3⟩ := h.obj h1
    by_cases hf : 0 ≤ f ∧ f < o.h.l
    · obtain ⟨x, hx, hr⟩ := h.read h2 (f := f.toNat) (by omega)
      rw [Int.toNat_of_nonneg hf.1] at hr
      rw [hr]
      exact ho.bnd o (List.mem_of_getElem? h2) x (List.mem_of_getElem? hx)
    · have hf2 : f < 0 ∨ o.h.l ≤ f := by omega
      unfold PH.read PH.field
      rw [h3]
      simp [hf2]
  · unfold PH.read PH.field
    rw [if_pos h1, if_pos (by simpa using h1)]
    simp
theorem numP_ok {H : PH} {fd : List Int} {x : Int} (h : H.leads x = true) : (numP H fd x).2.2 = true ∧ 0 ≤ (numP H fd x).2.1 ∧ (numP H fd x).2.1 ≤ (numP H fd x).1.length := by
  unfold numP
  by_cases h0 : x = 0
  · rw [if_pos h0]; exact ⟨rfl, Int.le_refl 0, Int.natCast_nonneg _⟩
  · rw [if_neg h0, if_neg (by rw [h]; simp)]
    cases hq : idxF (x - 1) fd with
    | some q =>
      have := idxF_lt hq
      exact ⟨rfl, by simp only []; omega, by simp only []; omega⟩
    | none => exact ⟨rfl, by simp only []; omega, by simp⟩
structure NSok (s : NSt) : Prop where
  es : ∀ e ∈ s.es, 0 ≤ e ∧ e ≤ s.fd.length
  ws : ∀ x ∈ s.ws, -9223372036854775808 < x ∧ x ≤ 9223372036854775807
theorem nodeL_ok (h : HR H os rest) (ho : OsOk os) {j : Nat} {o : ROb} (hj : os[j]? = some o) : ∀ {c : Nat} {f : Int} {s : NSt}, 0 ≤ f → f + c ≤ o.h.l → NSok s →
    (nodeL H o.at_ o.h.p c f s).2 = true ∧ NSok (nodeL H o.at_ o.h.p c f s).1 ∧ (nodeL H o.at_ o.h.p c f s).1.es.length + (nodeL H o.at_ o.h.p c f s).1.ws.length = s.es.length + s.ws.length + c ∧ s.fd.length ≤ (nodeL H o.at_ o.h.p c f s).1.fd.length
  | 0, f, s, _, _, hs => ⟨rfl, hs, by simp [nodeL], Nat.le_refl _⟩
  | c + 1, f, s, hf, hc, hs => by
    obtain ⟨x, hx, hr⟩ := h.read hj (f := f.toNat) (by omega)
    rw [Int.toNat_of_nonneg hf] at hr
    have hm := List.mem_of_getElem? hj
    rw [nodeL_succ, hr]
    by_cases hp : o.h.p ≤ f
    · rw [if_pos hp]
      obtain ⟨a1, a2, a3, a4⟩ := nodeL_ok h ho hj (c := c) (f := f + 1) (s := ⟨s.fd, s.es, s.ws ++ [x]⟩) (by omega) (by omega) ⟨hs.es, fun y hy => by
        rcases List.mem_append.1 hy with hy | hy
        · exact hs.ws y hy
        · rw [List.mem_singleton.1 hy]; exact ho.bnd o hm x (List.mem_of_getElem? hx)⟩
      exact ⟨a1, a2, by rw [a3]; simp; omega, a4⟩
    · rw [if_neg hp]
      have hl : H.leads x = true := by rw [h.leads]; exact ho.refs o hm f.toNat (by omega) x hx
      obtain ⟨n1, n2, n3⟩ := numP_ok (fd := s.fd) hl
      simp only []
      rw [n1, if_neg (by simp)]
      have hlen := length_numP H s.fd x
      obtain ⟨a1, a2, a3, a4⟩ := nodeL_ok h ho hj (c := c) (f := f + 1) (s := ⟨(numP H s.fd x).1, s.es ++ [(numP H s.fd x).2.1], s.ws⟩) (by omega) (by omega) ⟨fun y hy => by
        rcases List.mem_append.1 hy with hy | hy
        · have := hs.es y hy; simp only []; omega
        · rw [List.mem_singleton.1 hy]; exact ⟨n2, n3⟩, hs.ws⟩
      refine ⟨a1, a2, by rw [a3]; simp; omega, ?_⟩
      simp only [] at a4
      omega
theorem rootsL_ok : ∀ {rs fd rt : List Int}, (∀ x ∈ rs, H.leads x = true) → (∀ n ∈ rt, 0 ≤ n ∧ n ≤ fd.length) → (rootsL H rs fd rt).2 = true ∧ (∀ n ∈ (rootsL H rs fd rt).1.2, 0 ≤ n ∧ n ≤ (rootsL H rs fd rt).1.1.length) ∧ (rootsL H rs fd rt).1.2.length = rt.length + rs.length
  | [], fd, rt, _, h => ⟨rfl, h, rfl⟩
  | x :: r, fd, rt, hr, h => by
    obtain ⟨n1, n2, n3⟩ := numP_ok (fd := fd) (hr x (by simp))
    rw [rootsL_cons, n1, if_neg (by simp)]
    have hlen := length_numP H fd x
    obtain ⟨a1, a2, a3⟩ := rootsL_ok (rs := r) (fd := (numP H fd x).1) (rt := rt ++ [(numP H fd x).2.1]) (fun y hy => hr y (by simp [hy])) (fun n hn => by
      rcases List.mem_append.1 hn with hn | hn
      · have := h n hn; omega
      · rw [List.mem_singleton.1 hn]; exact ⟨n2, n3⟩)
    exact ⟨a1, a2, by rw [a3]; simp; omega⟩
/-- A node that is one, of few words. -/
structure ndSm (N : Nat) (m : Int) (g : GNd) : Prop where
  is : ndIn N g
  small : (g.es.length : Int) + g.ws.length ≤ m
theorem ndSm.mono {N N' : Nat} {m : Int} {g : GNd} (h : ndSm N m g) (hN : N ≤ N') : ndSm N' m g :=
  ⟨⟨h.is.k0, h.is.k1, h.is.len, fun e he => by have := h.is.es e he; omega, h.is.ws⟩, h.small⟩
theorem nodesL_ok (h : HR H os rest) (ho : OsOk os) {m : Int} (hm : ∀ o ∈ os, o.h.l ≤ m) : ∀ {c : Nat} {fd : List Int} {nd : List GNd}, FdOk H fd → nd.length ≤ fd.length → H.top < c + nd.length → (∀ g ∈ nd, ndSm fd.length m g) →
    (nodesL H c fd nd).2 = true ∧ (nodesL H c fd nd).1.2.length = (nodesL H c fd nd).1.1.length ∧ FdOk H (nodesL H c fd nd).1.1 ∧ (∀ g ∈ (nodesL H c fd nd).1.2, ndSm (nodesL H c fd nd).1.1.length m g) ∧ fd.length ≤ (nodesL H c fd nd).1.1.length
  | 0, fd, nd, hfd, hl, hc, hn => by
    have := hfd.bound
    exact absurd hc (by omega)
  | c + 1, fd, nd, hfd, hl, hc, hn => by
    cases ha : fd[nd.length]? with
    | none =>
      rw [nodesL_none ha]
      have := List.getElem?_eq_none_iff.1 ha
      exact ⟨rfl, by simp only []; omega, hfd, hn, Nat.le_refl _⟩
    | some a =>
      rw [nodesL_some ha]
      have hlt := (List.getElem?_eq_some_iff.1 ha).1
      obtain ⟨h1, h2⟩ := hfd.obs a (List.mem_of_getElem? ha)
      obtain ⟨j, o, hj, rfl, hh⟩ := h.obj h1
      rw [hh] at h2 ⊢
      have hmo := List.mem_of_getElem? hj
      obtain ⟨g0, g1, g2, g3, g4, g5, g6⟩ := goodH_iff.1 (h.obs o hmo).good
      obtain ⟨a1, a2, a3, a4⟩ := nodeL_ok h ho hj (c := o.h.l.toNat) (f := 0) (s := ⟨fd, [], []⟩) (Int.le_refl 0) (by omega) ⟨fun _ hx => (by cases hx), fun _ hx => (by cases hx)⟩
      have hfd2 : FdOk H (nodeL H o.at_ o.h.p o.h.l.toNat 0 ⟨fd, [], []⟩).1.fd := hfd.node
      simp only [List.length_nil, Nat.zero_add] at a3
      rw [a1, if_neg (by simp)]
      simp only [] at h2 ⊢
      have hml := hm o hmo
      simp only [] at a4
      obtain ⟨b1, b2, b3, b4, b5⟩ := nodesL_ok h ho hm (c := c) (fd := (nodeL H o.at_ o.h.p o.h.l.toNat 0 ⟨fd, [], []⟩).1.fd) (nd := nd ++ [⟨o.h.k, (nodeL H o.at_ o.h.p o.h.l.toNat 0 ⟨fd, [], []⟩).1.es, (nodeL H o.at_ o.h.p o.h.l.toNat 0 ⟨fd, [], []⟩).1.ws⟩]) hfd2 (by simp; omega) (by simp; omega) (fun g hg => by
        rcases List.mem_append.1 hg with hg | hg
        · exact (hn g hg).mono a4
        · rw [List.mem_singleton.1 hg]
          refine ⟨⟨g0, ?_, ?_, a2.es, a2.ws⟩, ?_⟩
          · simp only []; omega
          · simp only []; omega
          · simp only []; omega)
      exact ⟨b1, b2, b3, b4, by omega⟩
theorem formP_ok (h : HR H os rest) (ho : OsOk os) {m : Int} (hm : ∀ o ∈ os, o.h.l ≤ m) {rs : List Int} (hr : ∀ x ∈ rs, leadsR os x = true) : ∃ g, formP H rs = some g ∧ (∀ x ∈ g.nodes, ndSm g.nodes.length m x) ∧ (∀ n ∈ g.roots, 0 ≤ n ∧ n ≤ g.nodes.length) ∧ g.roots.length = rs.length ∧ g.nodes.length ≤ H.top := by
  have hr' : ∀ x ∈ rs, H.leads x = true := fun x hx => by rw [h.leads]; exact hr x hx
  obtain ⟨a1, a2, a3⟩ := rootsL_ok (fd := []) (rt := []) hr' (fun _ hx => (by cases hx))
  have hfd : FdOk H (rootsL H rs [] []).1.1 := by
    have : ∀ (rs fd rt : List Int), FdOk H fd → FdOk H (rootsL H rs fd rt).1.1 := by
      intro rs
      induction rs with
      | nil => intro fd rt h; exact h
      | cons x r ih =>
        intro fd rt h
        rw [rootsL_cons]
        split
        · exact h.num x
        · exact ih _ _ (h.num x)
    exact this _ _ _ ⟨fun _ hx => (by cases hx), List.nodup_nil⟩
  obtain ⟨b1, b2, b3, b4, b5⟩ := nodesL_ok h ho hm (c := H.top + 1) (nd := []) hfd (Nat.zero_le _) (by simp) (fun _ hx => (by cases hx))
  refine ⟨⟨(rootsL H rs [] []).1.2, (nodesL H (H.top + 1) (rootsL H rs [] []).1.1 []).1.2⟩, ?_, ?_, ?_, ?_, ?_⟩
  · unfold formP
    rw [a1, if_neg (by simp), b1, if_neg (by simp)]
  · intro x hx
    rw [b2]
    exact b4 x hx
  · intro n hn
    have := a2 n hn
    rw [b2]
    omega
  · simpa using a3
  · rw [b2]
    exact b3.bound
end

end Go.Proofs.Ytokpbanandikpaa

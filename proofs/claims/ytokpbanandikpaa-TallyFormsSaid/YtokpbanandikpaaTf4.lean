/- Part 4 of the proof: P5, T12, T13, J1. -/
import Derived.Test.YtokpbanandikpaaTf3
import Derived.Deep.Slices
import Derived.ChangeArms
set_option linter.unusedVariables false
set_option linter.unusedSimpArgs false
set_option linter.all false

set_option maxRecDepth 100000
set_option linter.unusedVariables false
set_option linter.unusedSimpArgs false
namespace Go.Proofs.Ytokpbanandikpaa
open Go Go.V Go.Proofs
/-! ### sums of a tally -/
theorem tallyR_hds : ∀ {os os' : List ROb} {tl : List Int}, hds os = hds os' → tallyR tl os = tallyR tl os'
  | [], [], _, _ => rfl
  | [], _ :: _, _, h => by simp [hds] at h
  | _ :: _, [], _, h => by simp [hds] at h
  | x :: r, y :: r', tl, h => by
    simp only [hds, List.map_cons, List.cons.injEq, Prod.mk.injEq] at h
    obtain ⟨⟨h1, h2⟩, h3⟩ := h
    simp only [tallyR, h2]
    exact tallyR_hds h3
theorem tallyR_obsN : ∀ (l : List GNd) (a : Int) (tl : List Int), tallyR tl (obsN l a) = tallyN tl l
  | [], _, _ => rfl
  | g :: r, a, tl => by
    simp only [obsN, tallyR, tallyN, headN]
    rw [tallyR_obsN r, show (1 : Int) + ((g.es.length : Int) + g.ws.length) = 1 + g.es.length + g.ws.length by omega]
def sumI (tl : List Int) : Nat → Int
  | 0 => 0
  | k + 1 => sumI tl k + (tl[2 * k]?).getD 0
structure Cts (tl : List Int) (c : Nat) : Prop where
  len : tl.length = 33
  pos : ∀ k : Nat, k < 16 → 0 ≤ (tl[2 * k]?).getD 0 ∧ (tl[2 * k]?).getD 0 ≤ c
  sum : sumI tl 16 = c
  last : tl[30]? = some 0 ∧ tl[31]? = some 0
theorem getD_countT {tl : List Int} {q k : Nat} {n : Int} (hq : q < 16) (hl : tl.length = 33) (c : Nat) (hc : c ≤ 1000000) (hp : 0 ≤ (tl[2 * q]?).getD 0 ∧ (tl[2 * q]?).getD 0 ≤ c) : ((countT tl q n)[2 * k]?).getD 0 = (tl[2 * k]?).getD 0 + if k = q then 1 else 0 := by
  unfold countT
  rw [List.getElem?_set_ne (by omega)]
  by_cases h : k = q
  · subst h
    rw [if_pos rfl, List.getElem?_set_self (by omega)]
    exact wrap64 (by omega) (by omega)
  · rw [if_neg h, List.getElem?_set_ne (by omega)]
    simp
theorem sumI_countT {tl : List Int} {q : Nat} {n : Int} (hq : q < 16) (hl : tl.length = 33) (c : Nat) (hc : c ≤ 1000000) (hp : 0 ≤ (tl[2 * q]?).getD 0 ∧ (tl[2 * q]?).getD 0 ≤ c) : ∀ m, sumI (countT tl q n) m = sumI tl m + if q < m then 1 else 0
  | 0 => by simp [sumI]
  | m + 1 => by
    simp only [sumI]
    rw [sumI_countT hq hl c hc hp m, getD_countT hq hl c hc hp]
    by_cases h1 : m = q
    · subst h1
      rw [if_neg (by omega), if_pos rfl, if_pos (by omega)]
      omega
    · rw [if_neg h1]
      by_cases h2 : q < m
      · rw [if_pos h2, if_pos (by omega)]; omega
      · rw [if_neg h2, if_neg (by omega)]; omega
theorem Cts.count {tl : List Int} {c q : Nat} {n : Int} (h : Cts tl c) (hc : c ≤ 1000000) (hq : q < 15) : Cts (countT tl q n) (c + 1) := by
  have hp := h.pos q (by omega)
  refine ⟨by rw [length_countT]; exact h.len, fun k hk => ?_, ?_, ?_⟩
  · have := h.pos k hk
    rw [getD_countT (by omega) h.len c hc hp]
    split <;> omega
  · rw [sumI_countT (by omega) h.len c hc hp, h.sum, if_pos (by omega)]
    omega
  · unfold countT
    rw [List.getElem?_set_ne (by omega), List.getElem?_set_ne (by omega), List.getElem?_set_ne (by omega), List.getElem?_set_ne (by omega)]
    exact h.last
theorem Cts.zero (size : Int) : Cts (tally0 size) 0 := by
  refine ⟨by simp [tally0], fun k hk => ?_, ?_, ?_⟩
  · have : (tally0 size)[2 * k]? = some 0 := by
      unfold tally0
      rw [List.getElem?_append_left (by simp; omega), List.getElem?_replicate, if_pos (by omega)]
    rw [this]; simp
  · rfl
  · exact ⟨rfl, rfl⟩
theorem Cts.nodes : ∀ {l : List GNd} {tl : List Int} {c : Nat}, Cts tl c → c + l.length ≤ 1000000 → (∀ g ∈ l, 0 ≤ g.k ∧ g.k ≤ 14) → Cts (tallyN tl l) (c + l.length)
  | [], _, _, h, _, _ => h
  | g :: r, tl, c, h, hc, hk => by
    simp only [List.length_cons] at hc
    have := hk g (by simp)
    have h2 := Cts.nodes (l := r) (h.count (q := g.k.toNat) (n := 1 + g.es.length + g.ws.length) (by omega) (by omega)) (by omega) (fun x hx => hk x (by simp [hx]))
    simp only [tallyN, List.length_cons]
    rw [show c + (r.length + 1) = c + 1 + r.length by omega]
    exact h2
theorem Cts.sumI_bound {tl : List Int} {c : Nat} (h : Cts tl c) : ∀ m, m ≤ 16 → 0 ≤ sumI tl m ∧ sumI tl m ≤ m * c
  | 0, _ => by simp [sumI]
  | m + 1, hm => by
    have h1 := h.sumI_bound m (by omega)
    have h2 := h.pos m (by omega)
    simp only [sumI]
    have : ((m + 1 : Nat) : Int) * c = m * c + c := by rw [Int.natCast_add, Int.add_mul]; simp
    omega
abbrev sumT' := sumT
theorem Cts.sumAll {tl : List Int} {c : Nat} (h : Cts tl c) (hc : c ≤ 1000000) : ∀ m, m ≤ 16 → (sumT' tl m).1 = sumI tl m
  | 0, _ => rfl
  | m + 1, hm => by
    have h1 := h.sumAll hc m (by omega)
    have h2 := h.pos m (by omega)
    have h3 := h.sumI_bound m (by omega)
    have h4 : (m : Int) * c ≤ 16 * 1000000 := Int.mul_le_mul (by omega) (by omega) (Int.natCast_nonneg _) (by omega)
    have e : (addT tl m (sumT' tl m)).1 = IntKind.wrap .i64 ((sumT' tl m).1 + (tl[2 * m]?).getD 0) := rfl
    rw [show (sumT' tl (m + 1)) = addT tl m (sumT' tl m) from rfl, e, h1, wrap64 (by omega) (by omega)]
    rfl

end Go.Proofs.Ytokpbanandikpaa

set_option maxRecDepth 100000
set_option linter.unusedVariables false
set_option linter.unusedSimpArgs false
namespace Go.Proofs.Ytokpbanandikpaa
open Go Go.V Go.Proofs
/-! ### TallyForms -/
section
variable {w0 w : World} {Ls : List (List Ent)} {K : Value → World → Prop} {i : HId} {H : PH} {os : List ROb} {rest : List Int}
theorem newo2_i {w1 : World} {T : TypeId} {cs : List Value} {K : Addr → World → Prop} (h : Owns w0 w Ls) (O : Old w1 w) (k : ∀ b w', Owns w0 w' ([cl b T cs] :: Ls) → Old w1 w' → K ⟨b, 0, none⟩ w') : NewW cs T w fun a w' => Old w w' ∧ K a w' := ⟨(Old.refl w).alloc _, k _ _ (h.alloc _) (O.alloc _)⟩
theorem tof_old (hok : H.ok) (hR : HR H os rest) (hE : Has w (hpE i H)) (hn : ((hpE i H).map (·.1)).Nodup) (hK : ∀ w', Old w w' → K (.agg ⟨(tallyR (tally0 H.words.length) os).map (.int .i64)⟩) w') : Ret Pg 10 [hpP i] w K := by
  obtain ⟨w00, R, h1, h2⟩ := owns_all hE hn
  exact tof_spec hok hR h1 fun w' h => hK w' (h2 w' _ (fun _ h => h) h)
def tfTail (a a' a5 : Addr) (w : World) (K : Value → World → Prop) : Prop := ∃ (vs3 : List Value), (CellsAt w.drew a 0 vs3 ∧ (List.length vs3 = 33 ∧ ∃ (vs4 : List Value), (CellsAt w.drew a' 0 vs4 ∧ (List.length vs4 = 33 ∧ EqW Pg 48 (.agg ⟨vs3⟩) (.agg ⟨vs4⟩) fun b5 => bif b5 then (∃ (vs5 : List Value), (CellsAt w.drew a 0 vs5 ∧ (List.length vs5 = 33 ∧ LS w.drew (a5.add 1) fun s18p s18l s18c => Ret Pg 12 [(.agg ⟨vs5⟩)] w.drew fun r11 w22 => ∃ (n8 : Int) (n9 : Int), r11 = (.agg ⟨[(.int .i64 n8), (.int .i64 n9)]⟩) ∧ Old w.drew w22 ∧ ∃ (n10 : Int), ([(.int .i64 n8), (.int .i64 n9)] : List Value)[0]? = some (.int .i64 n10) ∧ bif (n10 == ((s18l : Nat) : Int)) then (0 ≤ (15 : Int) ∧ (15 : Int) < ((16 : Nat) : Int) ∧ ∃ (n11 : Int) (n12 : Int), (CellsAt w.drew (Addr.at_ a 15 2) 0 [(.int .i64 n11), (.int .i64 n12)] ∧ (2 = 2 ∧ EqW Pg 45 (.agg ⟨[(.int .i64 n11), (.int .i64 n12)]⟩) (.agg ⟨[(.int .i64 0), (.int .i64 0)]⟩) fun b6 => K (.bool b6) w22))) else (K (.bool false) w22)))) else (K (.bool false) w.drew)))))
theorem tf_tail {b1 b2 b5 : Nat} {rr nr : Rw} {tl : List Int} {c : Nat} (hc : Cts tl c) (hcb : c ≤ 100000) (hn : nr.n = c)
    (hO : Owns w0 w ([cl b1 48 (tl.map (.int .i64))] :: [cl b2 48 (tl.map (.int .i64))] :: [cl b5 37 [.slice rr.at_ rr.n rr.c, .slice nr.at_ nr.n nr.c]] :: Ls)) (hK : ∀ w', Old w0 w' → K (.bool true) w') : tfTail ⟨b1, 0, none⟩ ⟨b2, 0, none⟩ ⟨b5, 0, none⟩ w K := by
  unfold tfTail
  refine ca_len hO.drew (k := 0) (j := 0) rfl rfl (by rw [List.length_map, hc.len]) ?_
  refine ca_len hO.drew (k := 1) (j := 0) rfl rfl (by rw [List.length_map, hc.len]) ?_
  refine eqw_flat (xs := tl) (ys := tl) (by kernel_rfl) (by kernel_rfl) (by kernel_rfl) (by rw [hc.len]; rfl) (by rw [hc.len]; rfl) ?_
  rw [decide_eq_true rfl, cond_true]
  refine ca_len hO.drew (k := 0) (j := 0) rfl rfl (by rw [List.length_map, hc.len]) ?_
  refine ls_i hO.drew (k := 2) (j := 0) rfl rfl rfl ?_
  refine all_spec hc.len fun w2 ho => ?_
  refine ⟨_, _, rfl, ho, _, rfl, ?_⟩
  rw [show (sumT tl 16).1 = (c : Int) from (hc.sumAll (by omega) 16 (Nat.le_refl _)).trans hc.sum, hn, show ((c : Int) == (c : Int)) = true from beq_self_eq_true _, cond_true]
  refine ⟨by omega, by omega, 0, 0, ?_, rfl, ?_⟩
  · rw [at_mk]
    refine ⟨?_, ?_, trivial⟩
    · rw [add_mk, (hO.drew.row 0 0 rfl).cell, List.getElem?_map]
      show Option.map _ tl[30]? = _
      rw [hc.last.1]; rfl
    · rw [add_mk, (hO.drew.row 0 0 rfl).cell, List.getElem?_map]
      show Option.map _ tl[31]? = _
      rw [hc.last.2]; rfl
  refine eqw_flat (xs := [0, 0]) (ys := [0, 0]) (by kernel_rfl) (by kernel_rfl) (by kernel_rfl) rfl rfl ?_
  exact hK _ (hO.drew.old.trans ho)
set_option maxHeartbeats 4000000 in
theorem tf_j2 {b5 : Nat} {rr nr : Rw} {l : List GNd} {size : Int} (hok : H.ok) (hR : HR H os rest) (hin : NdsR w nr.at_ l) (hnl : nr.n = l.length) (hnd : ∀ g ∈ l, ndIn l.length g) (hlen : l.length ≤ 100000) (hsz : (H.words.length : Int) = size) (hh : hds os = hds (obsN l 0))
    (hO : Owns w0 w ([cl b5 37 [.slice rr.at_ rr.n rr.c, .slice nr.at_ nr.n nr.c]] :: hpE i H :: Ls)) (hK : ∀ w', Old w0 w' → K (.bool true) w') : f3_j2 ⟨b5, 0, none⟩ size (some ⟨i.b, 0, none⟩) w K := by
  unfold f3_j2
  refine ⟨_, _, _, _, _, _, ca_i hO.drew (k := 0) (j := 0) rfl rfl, rfl, ?_⟩
  have hE : Has w (hpE i H) := hO.has 1 rfl
  have hn := hO.nodup 1 rfl
  have htl : tallyR (tally0 H.words.length) os = tallyN (tally0 size) l := by rw [hsz, tallyR_hds hh, tallyR_obsN]
  have hc : Cts (tallyN (tally0 size) l) l.length := by
    have := (Cts.zero size).nodes (l := l) (by omega) (fun g hg => ⟨(hnd g hg).k0, (hnd g hg).k1⟩)
    rwa [Nat.zero_add] at this
  have hl33 : (33 : Nat) = ((tallyN (tally0 size) l).map (Value.int .i64)).length := by rw [List.length_map, hc.len]
  have live : ∀ {w : World} {K : Value → World → Prop}, NdsR w nr.at_ l → (∀ w', Old w w' → K (.agg ⟨(tallyN (tally0 size) l).map (.int .i64)⟩) w') → Ret Pg 11 [.agg ⟨[.slice rr.at_ rr.n rr.c, .slice nr.at_ nr.n nr.c]⟩, .int .i64 size] w K := fun hin hK => live_spec hin hnl (fun g hg => (hnd g hg).ok) (fun g hg => ⟨(hnd g hg).k0, (hnd g hg).k1⟩) (by omega) hK
  have hinO : ∀ {w w' : World}, NdsR w nr.at_ l → Old w w' → NdsR w' nr.at_ l := fun hin ho j g hg => by
    obtain ⟨a, ep, ec, wp, wc, h1, h2, h3, h4, h5, h6⟩ := hin j g hg
    exact ⟨a, ep, ec, wp, wc, h1, ho.cell h2, ho.cell h3, ho.cell h4, h5.old ho, h6.old ho⟩
  have of : ∀ {w2 : World} {K : Value → World → Prop}, Old w w2 → (∀ w', Old w2 w' → K (.agg ⟨(tallyN (tally0 size) l).map (.int .i64)⟩) w') → Ret Pg 10 [.pointer (some ⟨i.b, 0, none⟩)] w2 K := fun ho hK => tof_old hok hR (hE.old ho) hn fun w' ho' => by rw [htl]; exact hK w' ho'
  have tail : ∀ {b1 b2 : Nat} {w2 : World} {Ls : List (List Ent)}, Owns w0 w2 ([cl b1 48 ((tallyN (tally0 size) l).map (.int .i64))] :: [cl b2 48 ((tallyN (tally0 size) l).map (.int .i64))] :: [cl b5 37 [.slice rr.at_ rr.n rr.c, .slice nr.at_ nr.n nr.c]] :: Ls) → tfTail ⟨b1, 0, none⟩ ⟨b2, 0, none⟩ ⟨b5, 0, none⟩ w2 K := fun hO => tf_tail hc hlen hnl hO hK
  have hl : (List.replicate 33 (Value.int .i64 0)).length = 33 := by simp
  have hlx : ((tallyN (tally0 size) l).map (Value.int .i64)).length = 33 := hl33.symm
  have O : Old w w.drew := (Old.refl w).drew
  replace hO := hO.drew
  generalize w.drew = wd at hO O
  repeat' first
    | exact tail hO
    | exact tail (hO.pick 1)
    | (refine of O fun _ ho => ?_; replace hO := hO.after ho; replace O := O.trans ho; refine ⟨_, hlx, rfl, ?_⟩)
    | (refine live (hinO hin O) fun _ ho => ?_; replace hO := hO.after ho; replace O := O.trans ho; refine ⟨_, hlx, rfl, ?_⟩)
    | refine newo2_i hO O fun _ _ hO O => ?_
    | (refine ⟨ho, ?_⟩; clear ho)
    | refine lenIs_i hl33 ?_
    | (refine sts_i hO (k := 0) (j := 0) rfl rfl (hlx.trans hl.symm) one_ints fun _ hO => ?_; try dsimp only [pick1, set2, List.set] at hO)
    | (refine sts_i hO (k := 1) (j := 0) rfl rfl (hlx.trans hl.symm) one_ints fun _ hO => ?_; try dsimp only [pick1, set2, List.set] at hO)
    | refine ⟨?_, ?_⟩
end

end Go.Proofs.Ytokpbanandikpaa

set_option maxRecDepth 100000
set_option linter.unusedVariables false
set_option linter.unusedSimpArgs false
namespace Go.Proofs.Ytokpbanandikpaa
open Go Go.V Go.Proofs
/-! ### TallyForms, whole -/
/-- What a node that came in is. -/
structure GNode.raw (nd : GNode) : Prop where
  k0 : 0 ≤ nd.kind
  k1 : nd.kind ≤ 255
  m0 : 0 ≤ nd.more
  m1 : nd.more ≤ 255
  e : ∀ x ∈ nd.edges, 0 ≤ x ∧ x ≤ 255
theorem GNode.raw.ok {nd : GNode} (h : nd.raw) (he : nd.edges.length ≤ 10) : nd.ok := ⟨h.k0, h.k1, h.m0, h.m1, h.e, he⟩
theorem InNodes.old {w w' : World} {p : Option Addr} {ns : List GNode} (h : InNodes w p ns) (ho : Old w w') : InNodes w' p ns := by
  intro j nd hj
  obtain ⟨a, ep, ec, h1, h2, h3, h4, h5⟩ := h j nd hj
  exact ⟨a, ep, ec, h1, ho.cell h2, ho.cell h3, ho.cell h4, h5.old ho⟩
section
variable {w : World} {K : Value → World → Prop}
set_option maxHeartbeats 4000000 in
theorem tallyForms_ret {np rp : Option Addr} {nl nc rl rc : Nat} {ns : List GNode} {rs : List Int} {more : Int} (hin : InNodes w np ns) (hnl : nl = ns.length) (hns : ∀ nd ∈ ns, nd.raw) (hbig : ns.length ≤ 9223372036854775807) (hrin : RdI w .u8 rp rs) (hrl : rl = rs.length) (hrs : ∀ x ∈ rs, 0 ≤ x ∧ x ≤ 255) (hm : 0 ≤ more ∧ more ≤ 255)
    (hK : ∀ w', Old w w' → K (.bool true) w') : Ret Pg 3 [.agg ⟨[.slice np nl nc, .slice rp rl rc]⟩, .int .u8 more] w K := by
  refine f3_ret ?_
  have hO := Owns.start (w := w)
  unfold f3
  refine new_i hO fun b1 _ hO => ?_
  (refine awake19_spec fun _ ho => ?_; replace hO := hO.after ho)
  refine ⟨_, rfl, ?_⟩
  rw [Bool.not_true, cond_false]
  refine ⟨_, _, _, _, _, _, ca_i hO (k := 0) (j := 0) rfl rfl, rfl, ?_⟩
  refine few_spec (hin.old hO.old) hnl hbig fun _ ho => ?_
  replace hO := hO.after ho
  refine ⟨_, rfl, ?_⟩
  cases hf : fewG ns rl with
  | false =>
    rw [Bool.not_false, cond_true]
    (refine awake19_spec fun _ ho => ?_; replace hO := hO.after ho)
    exact ⟨_, rfl, hK _ hO.old⟩
  | true =>
    rw [Bool.not_true, cond_false]
    have hf := of_decide_eq_true hf
    obtain ⟨f1, f2, f3⟩ := hf
    have hns' : ∀ nd ∈ ns, nd.ok := fun nd hnd => (hns nd hnd).ok (f1 nd hnd)
    unfold f3_j1
    refine ⟨_, _, _, _, _, _, ca_i hO (k := 0) (j := 0) rfl rfl, rfl, ?_⟩
    refine build_spec hin hnl hns' f2 hrin hrl hrs (by omega) (Int.le_refl 0) (by omega) hO fun hid H rest E lp ll lc q w1 hB hal hab hq hqx hO => ?_
    refine ⟨_, _, _, _, _, _, _, _, rfl, ?_⟩
    refine new_i hO fun b3 _ hO => ?_
    (refine st_i hO (k := 0) (j := 0) rfl rfl rfl trivial fun _ hO => ?_)
    (refine st_i hO (k := 0) (j := 0) rfl rfl rfl trivial fun _ hO => ?_)
    try dsimp only [pick1, set2, List.set] at hO
    have hba := bObs_ok hns' f2 (Int.le_refl 0) hab
    have hlen := hB.len
    have hsz := sizeN_bound hns'
    have hbs : bSize ns 0 = 1 + 0 + sizeN ns := rfl
    have hHok := hB.hr.ok (by omega) (by omega)
    have hpl := placeN_bound hab
    have hO2 := (hO.pick 2).pick 2 |>.pick 1
    simp only [pick1] at hO2
    refine of_spec (Ls := [cl b3 32 [.int .i64 (bSize ns 0), .slice lp ll lc]] :: E :: [[cl b1 25 [.slice np nl nc, .slice rp rl rc]]]) hHok hB.hr.fit (hB.hr.fits hba.good) (rs := rs.map (placeN (bAts ns 0))) (fun x hx => ?_) (by simp; omega) hq hqx (hO.re (by intro z; simp only [List.append_eq, cnt2_cons, cnt2_app, cnt2_nil, cnt1_app, cnt1_nil, List.cons_append, List.nil_append]; omega)) (fun g rr nr N w2 hg hrr hrx hnr hN hO => ?_) (fun w2 hg hO => ?_)
    · obtain ⟨y, _, rfl⟩ := List.mem_map.1 hx
      have := hpl y
      omega
    · obtain ⟨g', hg', hnd, hrt, hrl2, hgl⟩ := formP_ok hB.hr hba.good hba.small (rs := rs.map (placeN (bAts ns 0))) (fun x hx => by
        obtain ⟨y, hy, rfl⟩ := List.mem_map.1 hx
        exact placeN_leads hba.ats ((leadsR_iff hba.good.pl 0).2 (.inl rfl)) y (hrs y hy).1)
      rw [hg] at hg'
      cases hg'
      have htop := hHok.top
      have hgl2 : g.nodes.length ≤ 300 := by omega
      have hnn : nr.n = g.nodes.length := by have := hnr.len; rw [hN.len] at this; omega
      have hrn : rr.n = g.roots.length := by have := hrr.len; rw [hrx, List.length_map] at this; omega
      have hin2 : NdsR w2 nr.at_ g.nodes := hN.read hnr (hO.has 1 rfl) (hO.has 2 rfl)
      have hri2 : RdI w2 .i64 rr.at_ g.roots := Rw.rdI (hO.has 0 rfl) hrr hrx
      have hNO : ∀ {w' : World}, Old w2 w' → NdsR w' nr.at_ g.nodes := fun ho j g hg => by
        obtain ⟨a, ep, ec, wp, wc, h1, h2, h3, h4, h5, h6⟩ := hin2 j g hg
        exact ⟨a, ep, ec, wp, wc, h1, ho.cell h2, ho.cell h3, ho.cell h4, h5.old ho, h6.old ho⟩
      refine ⟨_, _, _, _, _, _, _, rfl, ?_⟩
      have hold := hO.old
      replace hO := Owns.start (w := w2)
      refine new_i hO fun b5 _ hO => ?_
      (refine st_i hO (k := 0) (j := 0) rfl rfl rfl trivial fun _ hO => ?_)
      (refine st_i hO (k := 0) (j := 0) rfl rfl rfl trivial fun _ hO => ?_)
      try dsimp only [pick1, set2, List.set] at hO
      refine ⟨_, _, _, _, _, _, ca_i hO (k := 0) (j := 0) rfl rfl, rfl, ?_⟩
      have hndo : ∀ x ∈ g.nodes, ndOk x := fun x hx => (hnd x hx).is.ok
      have hwl : wordsN g.nodes ≤ 14 * g.nodes.length := by
        have : ∀ l : List GNd, (∀ x ∈ l, (x.es.length : Int) + x.ws.length ≤ 13) → wordsN l ≤ 14 * l.length := by
          intro l
          induction l with
          | nil => intro _; simp [wordsN]
          | cons x r ih =>
            intro h
            have := ih fun y hy => h y (by simp [hy])
            have := h x (by simp)
            simp only [wordsN, List.length_cons]
            omega
        exact this _ fun x hx => (hnd x hx).small
      have hw0 := (wordsN_bound hndo).1
      refine words_spec (hNO hO.old) hnn hndo (by omega) fun w3 ho => ?_
      replace hO := hO.after ho
      refine ⟨_, rfl, ?_⟩
      refine ⟨_, _, _, _, _, _, ca_i hO (k := 0) (j := 0) rfl rfl, rfl, ?_⟩
      have e1 : IntKind.wrap .i64 more = more := wrap64 (by omega) (by omega)
      have e2 : (if 1 > wordsN g.nodes then 1 else wordsN g.nodes) = max (wordsN g.nodes) 1 := by
        split <;> omega
      rw [e1, e2, show IntKind.wrap .i64 (max (wordsN g.nodes) 1 + more) = max (wordsN g.nodes) 1 + more from wrap64 (by omega) (by omega)]
      refine fheap_spec (hNO hO.old) hnn (fun x hx => (hnd x hx).is) (by omega) (hri2.old hO.old) hrn hrt (by rw [hrl2]; simp; omega) (size := max (wordsN g.nodes) 1 + more) (by omega) (by omega) (by omega) fun i2 H2 q2 w4 hS hq2 hqx2 hO' => ?_
      replace hO := hO.join hO'
      unfold hpP
      refine ⟨_, _, _, _, _, rfl, ?_⟩
      rw [show ((0 : Int) != 0) = false from rfl, cond_false, cond_false, show (Option.isNone (some (⟨i2.b, 0, none⟩ : Addr))) = false from rfl, cond_false]
      obtain ⟨os2, rest2, h1, h2⟩ := hS.ex
      have hl2 := hS.len
      refine tf_j2 (rr := rr) (nr := nr) (l := g.nodes) (h1.ok (by omega) (by omega)) h1 (hNO hO.old) hnn (fun x hx => (hnd x hx).is) (by omega) hl2 h2 (hO.re (Ls' := [cl b5 37 [.slice rr.at_ rr.n rr.c, .slice nr.at_ nr.n nr.c]] :: hpE i2 H2 :: q2.ent 3 :: []) (by intro z; simp only [List.append_eq, cnt2_cons, cnt2_app, cnt2_nil, cnt1_app, cnt1_nil, List.cons_append, List.nil_append]; omega)) fun w5 ho => hK _ (hold.trans ho)
    · obtain ⟨g', hg', _⟩ := formP_ok hB.hr hba.good hba.small (rs := rs.map (placeN (bAts ns 0))) (fun x hx => by
        obtain ⟨y, hy, rfl⟩ := List.mem_map.1 hx
        exact placeN_leads hba.ats ((leadsR_iff hba.good.pl 0).2 (.inl rfl)) y (hrs y hy).1)
      rw [hg] at hg'
      cases hg'
end

end Go.Proofs.Ytokpbanandikpaa

set_option maxRecDepth 100000
set_option linter.unusedVariables false
set_option linter.unusedSimpArgs false
namespace Go.Proofs.Ytokpbanandikpaa
open Go Go.V Go.Proofs
/-! ### arguments, opened -/
theorem list_of {α : Type} {q : Nat → α → Prop} : ∀ {n : Nat}, (∀ i, i < n → ∃ a, q i a) → ∃ l : List α, l.length = n ∧ ∀ i a, l[i]? = some a → q i a
  | 0, _ => ⟨[], rfl, fun i a h => by simp at h⟩
  | n + 1, h => by
    obtain ⟨l, h1, h2⟩ := list_of (n := n) fun i hi => h i (by omega)
    obtain ⟨a, ha⟩ := h n (by omega)
    refine ⟨l ++ [a], by simp [h1], fun i b hb => ?_⟩
    rcases Nat.lt_or_ge i l.length with hl | hl
    · rw [List.getElem?_append_left hl] at hb; exact h2 i b hb
    · rw [List.getElem?_append_right hl] at hb
      have : i - l.length = 0 := by
        rcases Nat.eq_zero_or_pos (i - l.length) with h | h
        · exact h
        · rw [List.getElem?_eq_none (by simp; omega)] at hb; cases hb
      rw [this] at hb
      cases hb
      rw [show i = n by omega]
      exact ha
theorem cells_get {w : World} {base : Nat} {a : Addr} {n : Nat} {cs : List Value} (h : w.cells? base a n = some cs) : cs.length = n ∧ ∀ i, i < n → w.cell? (a.add i) = cs[i]? := by
  unfold World.cells? at h
  split at h
  · have key : ∀ (l : List Nat) (cs : List Value), (l.mapM fun i => w.cell? (a.add i)) = some cs → cs.length = l.length ∧ ∀ j (hj : j < l.length), w.cell? (a.add l[j]) = cs[j]? := by
      intro l
      induction l with
      | nil => intro cs h; simp at h; subst h; exact ⟨rfl, fun j hj => absurd hj (Nat.not_lt_zero _)⟩
      | cons x r ih =>
        intro cs h
        rw [List.mapM_cons] at h
        obtain ⟨y, hy, h⟩ := Option.bind_eq_some_iff.1 h
        obtain ⟨ys, hys, h⟩ := Option.bind_eq_some_iff.1 h
        cases h
        obtain ⟨h1, h2⟩ := ih ys hys
        refine ⟨by simp [h1], fun j hj => ?_⟩
        cases j with
        | zero => simpa using hy
        | succ j => simpa using h2 j (by simpa using hj)
    obtain ⟨h1, h2⟩ := key _ _ h
    refine ⟨by simpa using h1, fun i hi => ?_⟩
    have := h2 i (by simpa using hi)
    simpa using this
  · cases h
section
variable {H' : Type} {enc : TypeId × Value → H'} {w : World} {base : Nat} {held : Bool}
theorem rd_ints {t e : TypeId} {k : IntKind} {fuel : Nat} {v : Value} {x : DataW H' × List MemPlace} (ht : Pg.underlying t = some (.slice e)) (he : Pg.underlying e = some (.int k)) (hc : Pg.cellsOf e = 1) (h : DataW.trod enc Pg w base (fun _ => true) held fuel t [v] = some x) :
    ∃ (p : Option Addr) (l c : Nat) (xs : List Int), v = .slice p l c ∧ l = xs.length ∧ RdI w k p xs ∧ (∀ y ∈ xs, (Lit.int k y).wf = true) ∧ l ≤ maxLen := by
  rcases Go.Deep.open_slice ht h with ⟨h1, _⟩ | ⟨a, len, cap, m, n, D, Pl, h1, _, hl, hm, hmm, _, hx⟩
  · refine ⟨none, 0, 0, [], by simpa using h1, rfl, fun i y hy => by simp at hy, fun y hy => by simp at hy, Nat.zero_le _⟩
  · have hmc : m = cap := by simpa using hmm
    obtain ⟨xs, h2, h3⟩ := list_of (n := len) (q := fun i (y : Int) => w.cell? (Addr.at_ a (i : Int) 1) = some (.int k y) ∧ (Lit.int k y).wf = true) fun i hi => by
      obtain ⟨cs', h4, h5⟩ := hx i (by omega)
      rw [hc] at h4
      obtain ⟨h6, h7⟩ := cells_get h4
      obtain ⟨y, h8, _, h9⟩ := DataW.trod_int he h5
      refine ⟨y, ?_, h9⟩
      have := h7 0 (by omega)
      rw [h8] at this
      exact this
    refine ⟨some a, len, cap, xs, by simpa using h1, h2.symm, fun i y hy => ⟨a, rfl, (h3 i y hy).1⟩, fun y hy => ?_, by omega⟩
    obtain ⟨i, hi⟩ := List.mem_iff_getElem?.1 hy
    exact (h3 i y hi).2
theorem wf_u8 {y : Int} (h : (Lit.int .u8 y).wf = true) : 0 ≤ y ∧ y ≤ 255 := by
  simp only [Lit.wf, Bool.and_eq_true, decide_eq_true_eq] at h
  exact ⟨h.1, h.2⟩
theorem list1 {α : Type} {l : List α} (h : l.length = 1) : ∃ a, l = [a] := List.length_eq_one_iff.1 h
theorem rd_node {fuel : Nat} {cs : List Value} {x : DataW H' × List MemPlace} (h : DataW.trod enc Pg w base (fun _ => true) held fuel 58 cs = some x) :
    ∃ (nd : GNode) (ep : Option Addr) (ec : Nat), cs = [.int .u8 nd.kind, .slice ep nd.edges.length ec, .int .u8 nd.more] ∧ RdI w .u8 ep nd.edges ∧ nd.raw := by
  obtain ⟨xs, n, _, _, hl, hn, hf⟩ := DataW.trod_struct (fs := Pg.fieldsOf 58) (by kernel_rfl) h
  have hl : cs.length = 3 := hl
  match cs, hl with
  | [c0, c1, c2], _ =>
    have hn3 : xs.length = 3 := hn
    match xs, hn3 with
    | [y0, y1, y2], _ =>
      have f0 := hf 0 _ (show (Pg.fieldsOf 58)[0]? = some _ from rfl)
      have f1 := hf 1 _ (show (Pg.fieldsOf 58)[1]? = some _ from rfl)
      have f2 := hf 2 _ (show (Pg.fieldsOf 58)[2]? = some _ from rfl)
      obtain ⟨k, e0, _, w0⟩ := DataW.trod_int (k := .u8) (cs := [c0]) (x := y0) (by kernel_rfl) f0
      obtain ⟨m, e2, _, w2⟩ := DataW.trod_int (k := .u8) (cs := [c2]) (x := y2) (by kernel_rfl) f2
      obtain ⟨p, l, c, es, e1, el, hr, hw, _⟩ := rd_ints (v := c1) (x := y1) (k := .u8) (by kernel_rfl) (e := 5) (by kernel_rfl) (by kernel_rfl) f1
      cases e0; cases e2; subst e1; subst el
      have k0 := wf_u8 w0; have m0 := wf_u8 w2
      exact ⟨⟨k, es, m⟩, p, c, rfl, hr, ⟨k0.1, k0.2, m0.1, m0.2, fun y hy => wf_u8 (hw y hy)⟩⟩
theorem rd_nodes {fuel : Nat} {v : Value} {x : DataW H' × List MemPlace} (h : DataW.trod enc Pg w base (fun _ => true) held fuel 22 [v] = some x) :
    ∃ (p : Option Addr) (c : Nat) (ns : List GNode), v = .slice p ns.length c ∧ InNodes w p ns ∧ (∀ nd ∈ ns, nd.raw) ∧ ns.length ≤ maxLen := by
  rcases Go.Deep.open_slice (e := 58) (by kernel_rfl) h with ⟨h1, _⟩ | ⟨a, len, cap, m, n, D, Pl, h1, _, hl, hm, hmm, _, hx⟩
  · refine ⟨none, 0, [], by simpa using h1, fun i y hy => by simp at hy, fun y hy => by simp at hy, Nat.zero_le _⟩
  · have hmc : m = cap := by simpa using hmm
    have hce : Pg.cellsOf 58 = 3 := by kernel_rfl
    obtain ⟨ns, h2, h3⟩ := list_of (n := len) (q := fun i (nd : GNode) => (∃ ep ec, w.cell? (Addr.at_ a (i : Int) 3) = some (.int .u8 nd.kind) ∧ w.cell? ((Addr.at_ a (i : Int) 3).add 1) = some (.slice ep nd.edges.length ec) ∧ w.cell? ((Addr.at_ a (i : Int) 3).add 2) = some (.int .u8 nd.more) ∧ RdI w .u8 ep nd.edges) ∧ nd.raw) fun i hi => by
      obtain ⟨cs', h4, h5⟩ := hx i (by omega)
      rw [hce] at h4
      obtain ⟨h6, h7⟩ := cells_get h4
      obtain ⟨nd, ep, ec, rfl, h8, h9⟩ := rd_node h5
      refine ⟨nd, ⟨ep, ec, ?_, ?_, ?_, h8⟩, h9⟩
      · exact h7 0 (by omega)
      · exact h7 1 (by omega)
      · exact h7 2 (by omega)
    subst h2
    refine ⟨some a, cap, ns, by simpa using h1, fun i nd hi => ?_, fun nd hnd => ?_, by omega⟩
    · obtain ⟨⟨ep, ec, h4⟩, _⟩ := h3 i nd hi
      exact ⟨a, ep, ec, rfl, h4⟩
    · obtain ⟨i, hi⟩ := List.mem_iff_getElem?.1 hnd
      exact (h3 i nd hi).2
theorem open_graph {base' : Nat} {v : Value} {d : DataW H'} {ps : List MemPlace} (hval : Value.okWide Pg w .any base' 25 v) (h : DataW.Trod enc Pg w base (fun _ => true) held 25 v d ps) :
    ∃ (np rp : Option Addr) (nc rl rc : Nat) (ns : List GNode) (rs : List Int), v = .agg ⟨[.slice np ns.length nc, .slice rp rl rc]⟩ ∧ InNodes w np ns ∧ (∀ nd ∈ ns, nd.raw) ∧ ns.length ≤ maxLen ∧ RdI w .u8 rp rs ∧ rl = rs.length ∧ (∀ x ∈ rs, 0 ≤ x ∧ x ≤ 255) := by
  have hu : Pg.underlying 25 = some (.struct (Pg.fieldsOf 25)) := by kernel_rfl
  have hv : ∃ cs : Array Value, v = .agg cs := by
    unfold Value.okWide at hval
    rw [hu] at hval
    obtain ⟨cs, h, _⟩ := hval
    exact ⟨cs, h⟩
  obtain ⟨⟨cs⟩, rfl⟩ := hv
  obtain ⟨fuel, h⟩ := h
  have h : DataW.trod enc Pg w base (fun _ => true) held fuel 25 cs = some (d, ps) := h
  obtain ⟨xs, n, _, _, hl, hn, hf⟩ := DataW.trod_struct hu h
  have hl : cs.length = 2 := hl
  match cs, hl with
  | [c0, c1], _ =>
    have hn2 : xs.length = 2 := hn
    match xs, hn2 with
    | [y0, y1], _ =>
      have f0 := hf 0 _ (show (Pg.fieldsOf 25)[0]? = some _ from rfl)
      have f1 := hf 1 _ (show (Pg.fieldsOf 25)[1]? = some _ from rfl)
      obtain ⟨np, nc, ns, e0, h1, h2, h3⟩ := rd_nodes (v := c0) (x := y0) f0
      obtain ⟨rp, rl, rc, rs, e1, el, hr, hw, _⟩ := rd_ints (v := c1) (x := y1) (k := .u8) (t := 23) (e := 5) (by kernel_rfl) (by kernel_rfl) (by kernel_rfl) f1
      subst e0; subst e1
      exact ⟨np, rp, nc, rl, rc, ns, rs, rfl, h1, h2, h3, hr, el, fun y hy => wf_u8 (hw y hy)⟩
end

end Go.Proofs.Ytokpbanandikpaa

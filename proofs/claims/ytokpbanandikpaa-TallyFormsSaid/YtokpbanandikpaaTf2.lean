/- Part 2 of the proof: FA, H1, H2, H3, H4, R1, A1, R2, R3. -/
import Derived.Test.YtokpbanandikpaaTf1
import Derived.Test.YtokpbanandikpaaProg
import Derived.Deep.Slices
import Derived.ChangeArms
set_option linter.unusedVariables false
set_option linter.unusedSimpArgs false
set_option linter.all false

set_option maxRecDepth 100000
set_option linter.unusedVariables false
namespace Go.Proofs.Ytokpbanandikpaa
open Go Go.V Go.Proofs
noncomputable abbrev Pg : Program := Try.prog
theorem follows : Pg.follows .mixedOrders = true := by kernel_rfl
-- gosem.cut.init
def f2_ann : Nat → Option Ann := fun _ => none
def f2 (w : World) (K : Value → World → Prop) : Prop := ExtW Pg 1 [] fun r1 => r1 = (.tuple ⟨[]⟩) ∧ K (.tuple ⟨[]⟩) w
theorem f2_ret {w : World} {K : Value → World → Prop} (h : f2 w K) : Ret Pg 2 [] w K :=
  ret_of_WP (ann := f2_ann) (c := bodyOf Try.f2) follows Try.func2 rfl (by kernel_rfl) (by
    have e : WP Pg 1 f2_ann (bodyOf Try.f2) (retQ Pg Try.f2.results.toList K) (initEnv 0 []) w = f2 w K := by kernel_rfl
    rw [← e] at h; exact h)

-- besom/besomlaw19.TallyForms
def f3_ann : Nat → Option Ann := fun _ => none
def f3_j2 (a5 : Addr) (n7 : Int) (p3 : Option Addr) (w : World) (K : Value → World → Prop) : Prop := ∃ (s16p : Option Addr) (s16l : Nat) (s16c : Nat) (s17p : Option Addr) (s17l : Nat) (s17c : Nat), (CellsAt w.drew a5 0 [(.slice s16p s16l s16c), (.slice s17p s17l s17c)] ∧ (2 = 2 ∧ (Ret Pg 10 [(.pointer p3)] w.drew fun r9 w16 => ∃ (vs1 : List Value), List.length vs1 = 33 ∧ r9 = (.agg ⟨vs1⟩) ∧ Old w.drew w16 ∧ (Ret Pg 11 [(.agg ⟨[(.slice s16p s16l s16c), (.slice s17p s17l s17c)]⟩), (.int .i64 n7)] w16 fun r10 w17 => ∃ (vs2 : List Value), List.length vs2 = 33 ∧ r10 = (.agg ⟨vs2⟩) ∧ (NewW (List.replicate 33 ((.int .i64 0) : Value)) 48 w17 fun a6 w18 => Old w17 w18 ∧ NewW (List.replicate 33 ((.int .i64 0) : Value)) 48 w18 fun a7 w19 => Old w18 w19 ∧ LenIs 33 vs1 (Sts a6 0 vs1 w19 fun w20 => LenIs 33 vs2 (Sts a7 0 vs2 w20 fun w21 => ∃ (vs3 : List Value), (CellsAt w21.drew a6 0 vs3 ∧ (List.length vs3 = 33 ∧ ∃ (vs4 : List Value), (CellsAt w21.drew a7 0 vs4 ∧ (List.length vs4 = 33 ∧ EqW Pg 48 (.agg ⟨vs3⟩) (.agg ⟨vs4⟩) fun b5 => bif b5 then (∃ (vs5 : List Value), (CellsAt w21.drew a6 0 vs5 ∧ (List.length vs5 = 33 ∧ LS w21.drew (a5.add 1) fun s18p s18l s18c => Ret Pg 12 [(.agg ⟨vs5⟩)] w21.drew fun r11 w22 => ∃ (n8 : Int) (n9 : Int), r11 = (.agg ⟨[(.int .i64 n8), (.int .i64 n9)]⟩) ∧ Old w21.drew w22 ∧ ∃ (n10 : Int), ([(.int .i64 n8), (.int .i64 n9)] : List Value)[0]? = some (.int .i64 n10) ∧ bif (n10 == ((s18l : Nat) : Int)) then (0 ≤ (15 : Int) ∧ (15 : Int) < ((16 : Nat) : Int) ∧ ∃ (n11 : Int) (n12 : Int), (CellsAt w21.drew (Addr.at_ a6 15 2) 0 [(.int .i64 n11), (.int .i64 n12)] ∧ (2 = 2 ∧ EqW Pg 45 (.agg ⟨[(.int .i64 n11), (.int .i64 n12)]⟩) (.agg ⟨[(.int .i64 0), (.int .i64 0)]⟩) fun b6 => K (.bool b6) w22))) else (K (.bool false) w22)))) else (K (.bool false) w21.drew)))))))) ∧ (NewW (List.replicate 33 ((.int .i64 0) : Value)) 48 w17 fun a8 w23 => Old w17 w23 ∧ NewW (List.replicate 33 ((.int .i64 0) : Value)) 48 w23 fun a9 w24 => Old w23 w24 ∧ LenIs 33 vs1 (Sts a9 0 vs1 w24 fun w25 => LenIs 33 vs2 (Sts a8 0 vs2 w25 fun w26 => ∃ (vs6 : List Value), (CellsAt w26.drew a9 0 vs6 ∧ (List.length vs6 = 33 ∧ ∃ (vs7 : List Value), (CellsAt w26.drew a8 0 vs7 ∧ (List.length vs7 = 33 ∧ EqW Pg 48 (.agg ⟨vs6⟩) (.agg ⟨vs7⟩) fun b7 => bif b7 then (∃ (vs8 : List Value), (CellsAt w26.drew a9 0 vs8 ∧ (List.length vs8 = 33 ∧ LS w26.drew (a5.add 1) fun s19p s19l s19c => Ret Pg 12 [(.agg ⟨vs8⟩)] w26.drew fun r12 w27 => ∃ (n13 : Int) (n14 : Int), r12 = (.agg ⟨[(.int .i64 n13), (.int .i64 n14)]⟩) ∧ Old w26.drew w27 ∧ ∃ (n15 : Int), ([(.int .i64 n13), (.int .i64 n14)] : List Value)[0]? = some (.int .i64 n15) ∧ bif (n15 == ((s19l : Nat) : Int)) then (0 ≤ (15 : Int) ∧ (15 : Int) < ((16 : Nat) : Int) ∧ ∃ (n16 : Int) (n17 : Int), (CellsAt w26.drew (Addr.at_ a9 15 2) 0 [(.int .i64 n16), (.int .i64 n17)] ∧ (2 = 2 ∧ EqW Pg 45 (.agg ⟨[(.int .i64 n16), (.int .i64 n17)]⟩) (.agg ⟨[(.int .i64 0), (.int .i64 0)]⟩) fun b8 => K (.bool b8) w27))) else (K (.bool false) w27)))) else (K (.bool false) w26.drew))))))))) ∧ (NewW (List.replicate 33 ((.int .i64 0) : Value)) 48 w16 fun a10 w28 => Old w16 w28 ∧ (Ret Pg 11 [(.agg ⟨[(.slice s16p s16l s16c), (.slice s17p s17l s17c)]⟩), (.int .i64 n7)] w28 fun r13 w29 => ∃ (vs9 : List Value), List.length vs9 = 33 ∧ r13 = (.agg ⟨vs9⟩) ∧ NewW (List.replicate 33 ((.int .i64 0) : Value)) 48 w29 fun a11 w30 => Old w29 w30 ∧ LenIs 33 vs1 (Sts a10 0 vs1 w30 fun w31 => LenIs 33 vs9 (Sts a11 0 vs9 w31 fun w32 => ∃ (vs10 : List Value), (CellsAt w32.drew a10 0 vs10 ∧ (List.length vs10 = 33 ∧ ∃ (vs11 : List Value), (CellsAt w32.drew a11 0 vs11 ∧ (List.length vs11 = 33 ∧ EqW Pg 48 (.agg ⟨vs10⟩) (.agg ⟨vs11⟩) fun b9 => bif b9 then (∃ (vs12 : List Value), (CellsAt w32.drew a10 0 vs12 ∧ (List.length vs12 = 33 ∧ LS w32.drew (a5.add 1) fun s20p s20l s20c => Ret Pg 12 [(.agg ⟨vs12⟩)] w32.drew fun r14 w33 => ∃ (n18 : Int) (n19 : Int), r14 = (.agg ⟨[(.int .i64 n18), (.int .i64 n19)]⟩) ∧ Old w32.drew w33 ∧ ∃ (n20 : Int), ([(.int .i64 n18), (.int .i64 n19)] : List Value)[0]? = some (.int .i64 n20) ∧ bif (n20 == ((s20l : Nat) : Int)) then (0 ≤ (15 : Int) ∧ (15 : Int) < ((16 : Nat) : Int) ∧ ∃ (n21 : Int) (n22 : Int), (CellsAt w32.drew (Addr.at_ a10 15 2) 0 [(.int .i64 n21), (.int .i64 n22)] ∧ (2 = 2 ∧ EqW Pg 45 (.agg ⟨[(.int .i64 n21), (.int .i64 n22)]⟩) (.agg ⟨[(.int .i64 0), (.int .i64 0)]⟩) fun b10 => K (.bool b10) w33))) else (K (.bool false) w33)))) else (K (.bool false) w32.drew)))))))) ∧ (NewW (List.replicate 33 ((.int .i64 0) : Value)) 48 w28 fun a12 w34 => Old w28 w34 ∧ Ret Pg 11 [(.agg ⟨[(.slice s16p s16l s16c), (.slice s17p s17l s17c)]⟩), (.int .i64 n7)] w34 fun r15 w35 => ∃ (vs13 : List Value), List.length vs13 = 33 ∧ r15 = (.agg ⟨vs13⟩) ∧ LenIs 33 vs1 (Sts a10 0 vs1 w35 fun w36 => LenIs 33 vs13 (Sts a12 0 vs13 w36 fun w37 => ∃ (vs14 : List Value), (CellsAt w37.drew a10 0 vs14 ∧ (List.length vs14 = 33 ∧ ∃ (vs15 : List Value), (CellsAt w37.drew a12 0 vs15 ∧ (List.length vs15 = 33 ∧ EqW Pg 48 (.agg ⟨vs14⟩) (.agg ⟨vs15⟩) fun b11 => bif b11 then (∃ (vs16 : List Value), (CellsAt w37.drew a10 0 vs16 ∧ (List.length vs16 = 33 ∧ LS w37.drew (a5.add 1) fun s21p s21l s21c => Ret Pg 12 [(.agg ⟨vs16⟩)] w37.drew fun r16 w38 => ∃ (n23 : Int) (n24 : Int), r16 = (.agg ⟨[(.int .i64 n23), (.int .i64 n24)]⟩) ∧ Old w37.drew w38 ∧ ∃ (n25 : Int), ([(.int .i64 n23), (.int .i64 n24)] : List Value)[0]? = some (.int .i64 n25) ∧ bif (n25 == ((s21l : Nat) : Int)) then (0 ≤ (15 : Int) ∧ (15 : Int) < ((16 : Nat) : Int) ∧ ∃ (n26 : Int) (n27 : Int), (CellsAt w37.drew (Addr.at_ a10 15 2) 0 [(.int .i64 n26), (.int .i64 n27)] ∧ (2 = 2 ∧ EqW Pg 45 (.agg ⟨[(.int .i64 n26), (.int .i64 n27)]⟩) (.agg ⟨[(.int .i64 0), (.int .i64 0)]⟩) fun b12 => K (.bool b12) w38))) else (K (.bool false) w38)))) else (K (.bool false) w37.drew))))))))) ∧ (NewW (List.replicate 33 ((.int .i64 0) : Value)) 48 w16 fun a13 w39 => Old w16 w39 ∧ (Ret Pg 11 [(.agg ⟨[(.slice s16p s16l s16c), (.slice s17p s17l s17c)]⟩), (.int .i64 n7)] w39 fun r17 w40 => ∃ (vs17 : List Value), List.length vs17 = 33 ∧ r17 = (.agg ⟨vs17⟩) ∧ NewW (List.replicate 33 ((.int .i64 0) : Value)) 48 w40 fun a14 w41 => Old w40 w41 ∧ LenIs 33 vs1 (Sts a14 0 vs1 w41 fun w42 => LenIs 33 vs17 (Sts a13 0 vs17 w42 fun w43 => ∃ (vs18 : List Value), (CellsAt w43.drew a14 0 vs18 ∧ (List.length vs18 = 33 ∧ ∃ (vs19 : List Value), (CellsAt w43.drew a13 0 vs19 ∧ (List.length vs19 = 33 ∧ EqW Pg 48 (.agg ⟨vs18⟩) (.agg ⟨vs19⟩) fun b13 => bif b13 then (∃ (vs20 : List Value), (CellsAt w43.drew a14 0 vs20 ∧ (List.length vs20 = 33 ∧ LS w43.drew (a5.add 1) fun s22p s22l s22c => Ret Pg 12 [(.agg ⟨vs20⟩)] w43.drew fun r18 w44 => ∃ (n28 : Int) (n29 : Int), r18 = (.agg ⟨[(.int .i64 n28), (.int .i64 n29)]⟩) ∧ Old w43.drew w44 ∧ ∃ (n30 : Int), ([(.int .i64 n28), (.int .i64 n29)] : List Value)[0]? = some (.int .i64 n30) ∧ bif (n30 == ((s22l : Nat) : Int)) then (0 ≤ (15 : Int) ∧ (15 : Int) < ((16 : Nat) : Int) ∧ ∃ (n31 : Int) (n32 : Int), (CellsAt w43.drew (Addr.at_ a14 15 2) 0 [(.int .i64 n31), (.int .i64 n32)] ∧ (2 = 2 ∧ EqW Pg 45 (.agg ⟨[(.int .i64 n31), (.int .i64 n32)]⟩) (.agg ⟨[(.int .i64 0), (.int .i64 0)]⟩) fun b14 => K (.bool b14) w44))) else (K (.bool false) w44)))) else (K (.bool false) w43.drew)))))))) ∧ (NewW (List.replicate 33 ((.int .i64 0) : Value)) 48 w39 fun a15 w45 => Old w39 w45 ∧ Ret Pg 11 [(.agg ⟨[(.slice s16p s16l s16c), (.slice s17p s17l s17c)]⟩), (.int .i64 n7)] w45 fun r19 w46 => ∃ (vs21 : List Value), List.length vs21 = 33 ∧ r19 = (.agg ⟨vs21⟩) ∧ LenIs 33 vs1 (Sts a15 0 vs1 w46 fun w47 => LenIs 33 vs21 (Sts a13 0 vs21 w47 fun w48 => ∃ (vs22 : List Value), (CellsAt w48.drew a15 0 vs22 ∧ (List.length vs22 = 33 ∧ ∃ (vs23 : List Value), (CellsAt w48.drew a13 0 vs23 ∧ (List.length vs23 = 33 ∧ EqW Pg 48 (.agg ⟨vs22⟩) (.agg ⟨vs23⟩) fun b15 => bif b15 then (∃ (vs24 : List Value), (CellsAt w48.drew a15 0 vs24 ∧ (List.length vs24 = 33 ∧ LS w48.drew (a5.add 1) fun s23p s23l s23c => Ret Pg 12 [(.agg ⟨vs24⟩)] w48.drew fun r20 w49 => ∃ (n33 : Int) (n34 : Int), r20 = (.agg ⟨[(.int .i64 n33), (.int .i64 n34)]⟩) ∧ Old w48.drew w49 ∧ ∃ (n35 : Int), ([(.int .i64 n33), (.int .i64 n34)] : List Value)[0]? = some (.int .i64 n35) ∧ bif (n35 == ((s23l : Nat) : Int)) then (0 ≤ (15 : Int) ∧ (15 : Int) < ((16 : Nat) : Int) ∧ ∃ (n36 : Int) (n37 : Int), (CellsAt w48.drew (Addr.at_ a15 15 2) 0 [(.int .i64 n36), (.int .i64 n37)] ∧ (2 = 2 ∧ EqW Pg 45 (.agg ⟨[(.int .i64 n36), (.int .i64 n37)]⟩) (.agg ⟨[(.int .i64 0), (.int .i64 0)]⟩) fun b16 => K (.bool b16) w49))) else (K (.bool false) w49)))) else (K (.bool false) w48.drew)))))))))) ∧ (NewW (List.replicate 33 ((.int .i64 0) : Value)) 48 w.drew fun a16 w50 => Old w.drew w50 ∧ (Ret Pg 10 [(.pointer p3)] w50 fun r21 w51 => ∃ (vs25 : List Value), List.length vs25 = 33 ∧ r21 = (.agg ⟨vs25⟩) ∧ Old w50 w51 ∧ (Ret Pg 11 [(.agg ⟨[(.slice s16p s16l s16c), (.slice s17p s17l s17c)]⟩), (.int .i64 n7)] w51 fun r22 w52 => ∃ (vs26 : List Value), List.length vs26 = 33 ∧ r22 = (.agg ⟨vs26⟩) ∧ NewW (List.replicate 33 ((.int .i64 0) : Value)) 48 w52 fun a17 w53 => Old w52 w53 ∧ LenIs 33 vs25 (Sts a16 0 vs25 w53 fun w54 => LenIs 33 vs26 (Sts a17 0 vs26 w54 fun w55 => ∃ (vs27 : List Value), (CellsAt w55.drew a16 0 vs27 ∧ (List.length vs27 = 33 ∧ ∃ (vs28 : List Value), (CellsAt w55.drew a17 0 vs28 ∧ (List.length vs28 = 33 ∧ EqW Pg 48 (.agg ⟨vs27⟩) (.agg ⟨vs28⟩) fun b17 => bif b17 then (∃ (vs29 : List Value), (CellsAt w55.drew a16 0 vs29 ∧ (List.length vs29 = 33 ∧ LS w55.drew (a5.add 1) fun s24p s24l s24c => Ret Pg 12 [(.agg ⟨vs29⟩)] w55.drew fun r23 w56 => ∃ (n38 : Int) (n39 : Int), r23 = (.agg ⟨[(.int .i64 n38), (.int .i64 n39)]⟩) ∧ Old w55.drew w56 ∧ ∃ (n40 : Int), ([(.int .i64 n38), (.int .i64 n39)] : List Value)[0]? = some (.int .i64 n40) ∧ bif (n40 == ((s24l : Nat) : Int)) then (0 ≤ (15 : Int) ∧ (15 : Int) < ((16 : Nat) : Int) ∧ ∃ (n41 : Int) (n42 : Int), (CellsAt w55.drew (Addr.at_ a16 15 2) 0 [(.int .i64 n41), (.int .i64 n42)] ∧ (2 = 2 ∧ EqW Pg 45 (.agg ⟨[(.int .i64 n41), (.int .i64 n42)]⟩) (.agg ⟨[(.int .i64 0), (.int .i64 0)]⟩) fun b18 => K (.bool b18) w56))) else (K (.bool false) w56)))) else (K (.bool false) w55.drew)))))))) ∧ (NewW (List.replicate 33 ((.int .i64 0) : Value)) 48 w51 fun a18 w57 => Old w51 w57 ∧ Ret Pg 11 [(.agg ⟨[(.slice s16p s16l s16c), (.slice s17p s17l s17c)]⟩), (.int .i64 n7)] w57 fun r24 w58 => ∃ (vs30 : List Value), List.length vs30 = 33 ∧ r24 = (.agg ⟨vs30⟩) ∧ LenIs 33 vs25 (Sts a16 0 vs25 w58 fun w59 => LenIs 33 vs30 (Sts a18 0 vs30 w59 fun w60 => ∃ (vs31 : List Value), (CellsAt w60.drew a16 0 vs31 ∧ (List.length vs31 = 33 ∧ ∃ (vs32 : List Value), (CellsAt w60.drew a18 0 vs32 ∧ (List.length vs32 = 33 ∧ EqW Pg 48 (.agg ⟨vs31⟩) (.agg ⟨vs32⟩) fun b19 => bif b19 then (∃ (vs33 : List Value), (CellsAt w60.drew a16 0 vs33 ∧ (List.length vs33 = 33 ∧ LS w60.drew (a5.add 1) fun s25p s25l s25c => Ret Pg 12 [(.agg ⟨vs33⟩)] w60.drew fun r25 w61 => ∃ (n43 : Int) (n44 : Int), r25 = (.agg ⟨[(.int .i64 n43), (.int .i64 n44)]⟩) ∧ Old w60.drew w61 ∧ ∃ (n45 : Int), ([(.int .i64 n43), (.int .i64 n44)] : List Value)[0]? = some (.int .i64 n45) ∧ bif (n45 == ((s25l : Nat) : Int)) then (0 ≤ (15 : Int) ∧ (15 : Int) < ((16 : Nat) : Int) ∧ ∃ (n46 : Int) (n47 : Int), (CellsAt w60.drew (Addr.at_ a16 15 2) 0 [(.int .i64 n46), (.int .i64 n47)] ∧ (2 = 2 ∧ EqW Pg 45 (.agg ⟨[(.int .i64 n46), (.int .i64 n47)]⟩) (.agg ⟨[(.int .i64 0), (.int .i64 0)]⟩) fun b20 => K (.bool b20) w61))) else (K (.bool false) w61)))) else (K (.bool false) w60.drew))))))))) ∧ (NewW (List.replicate 33 ((.int .i64 0) : Value)) 48 w50 fun a19 w62 => Old w50 w62 ∧ Ret Pg 10 [(.pointer p3)] w62 fun r26 w63 => ∃ (vs34 : List Value), List.length vs34 = 33 ∧ r26 = (.agg ⟨vs34⟩) ∧ Old w62 w63 ∧ Ret Pg 11 [(.agg ⟨[(.slice s16p s16l s16c), (.slice s17p s17l s17c)]⟩), (.int .i64 n7)] w63 fun r27 w64 => ∃ (vs35 : List Value), List.length vs35 = 33 ∧ r27 = (.agg ⟨vs35⟩) ∧ LenIs 33 vs34 (Sts a16 0 vs34 w64 fun w65 => LenIs 33 vs35 (Sts a19 0 vs35 w65 fun w66 => ∃ (vs36 : List Value), (CellsAt w66.drew a16 0 vs36 ∧ (List.length vs36 = 33 ∧ ∃ (vs37 : List Value), (CellsAt w66.drew a19 0 vs37 ∧ (List.length vs37 = 33 ∧ EqW Pg 48 (.agg ⟨vs36⟩) (.agg ⟨vs37⟩) fun b21 => bif b21 then (∃ (vs38 : List Value), (CellsAt w66.drew a16 0 vs38 ∧ (List.length vs38 = 33 ∧ LS w66.drew (a5.add 1) fun s26p s26l s26c => Ret Pg 12 [(.agg ⟨vs38⟩)] w66.drew fun r28 w67 => ∃ (n48 : Int) (n49 : Int), r28 = (.agg ⟨[(.int .i64 n48), (.int .i64 n49)]⟩) ∧ Old w66.drew w67 ∧ ∃ (n50 : Int), ([(.int .i64 n48), (.int .i64 n49)] : List Value)[0]? = some (.int .i64 n50) ∧ bif (n50 == ((s26l : Nat) : Int)) then (0 ≤ (15 : Int) ∧ (15 : Int) < ((16 : Nat) : Int) ∧ ∃ (n51 : Int) (n52 : Int), (CellsAt w66.drew (Addr.at_ a16 15 2) 0 [(.int .i64 n51), (.int .i64 n52)] ∧ (2 = 2 ∧ EqW Pg 45 (.agg ⟨[(.int .i64 n51), (.int .i64 n52)]⟩) (.agg ⟨[(.int .i64 0), (.int .i64 0)]⟩) fun b22 => K (.bool b22) w67))) else (K (.bool false) w67)))) else (K (.bool false) w66.drew))))))))) ∧ (NewW (List.replicate 33 ((.int .i64 0) : Value)) 48 w.drew fun a20 w68 => Old w.drew w68 ∧ (Ret Pg 10 [(.pointer p3)] w68 fun r29 w69 => ∃ (vs39 : List Value), List.length vs39 = 33 ∧ r29 = (.agg ⟨vs39⟩) ∧ Old w68 w69 ∧ (Ret Pg 11 [(.agg ⟨[(.slice s16p s16l s16c), (.slice s17p s17l s17c)]⟩), (.int .i64 n7)] w69 fun r30 w70 => ∃ (vs40 : List Value), List.length vs40 = 33 ∧ r30 = (.agg ⟨vs40⟩) ∧ NewW (List.replicate 33 ((.int .i64 0) : Value)) 48 w70 fun a21 w71 => Old w70 w71 ∧ LenIs 33 vs39 (Sts a21 0 vs39 w71 fun w72 => LenIs 33 vs40 (Sts a20 0 vs40 w72 fun w73 => ∃ (vs41 : List Value), (CellsAt w73.drew a21 0 vs41 ∧ (List.length vs41 = 33 ∧ ∃ (vs42 : List Value), (CellsAt w73.drew a20 0 vs42 ∧ (List.length vs42 = 33 ∧ EqW Pg 48 (.agg ⟨vs41⟩) (.agg ⟨vs42⟩) fun b23 => bif b23 then (∃ (vs43 : List Value), (CellsAt w73.drew a21 0 vs43 ∧ (List.length vs43 = 33 ∧ LS w73.drew (a5.add 1) fun s27p s27l s27c => Ret Pg 12 [(.agg ⟨vs43⟩)] w73.drew fun r31 w74 => ∃ (n53 : Int) (n54 : Int), r31 = (.agg ⟨[(.int .i64 n53), (.int .i64 n54)]⟩) ∧ Old w73.drew w74 ∧ ∃ (n55 : Int), ([(.int .i64 n53), (.int .i64 n54)] : List Value)[0]? = some (.int .i64 n55) ∧ bif (n55 == ((s27l : Nat) : Int)) then (0 ≤ (15 : Int) ∧ (15 : Int) < ((16 : Nat) : Int) ∧ ∃ (n56 : Int) (n57 : Int), (CellsAt w73.drew (Addr.at_ a21 15 2) 0 [(.int .i64 n56), (.int .i64 n57)] ∧ (2 = 2 ∧ EqW Pg 45 (.agg ⟨[(.int .i64 n56), (.int .i64 n57)]⟩) (.agg ⟨[(.int .i64 0), (.int .i64 0)]⟩) fun b24 => K (.bool b24) w74))) else (K (.bool false) w74)))) else (K (.bool false) w73.drew)))))))) ∧ (NewW (List.replicate 33 ((.int .i64 0) : Value)) 48 w69 fun a22 w75 => Old w69 w75 ∧ Ret Pg 11 [(.agg ⟨[(.slice s16p s16l s16c), (.slice s17p s17l s17c)]⟩), (.int .i64 n7)] w75 fun r32 w76 => ∃ (vs44 : List Value), List.length vs44 = 33 ∧ r32 = (.agg ⟨vs44⟩) ∧ LenIs 33 vs39 (Sts a22 0 vs39 w76 fun w77 => LenIs 33 vs44 (Sts a20 0 vs44 w77 fun w78 => ∃ (vs45 : List Value), (CellsAt w78.drew a22 0 vs45 ∧ (List.length vs45 = 33 ∧ ∃ (vs46 : List Value), (CellsAt w78.drew a20 0 vs46 ∧ (List.length vs46 = 33 ∧ EqW Pg 48 (.agg ⟨vs45⟩) (.agg ⟨vs46⟩) fun b25 => bif b25 then (∃ (vs47 : List Value), (CellsAt w78.drew a22 0 vs47 ∧ (List.length vs47 = 33 ∧ LS w78.drew (a5.add 1) fun s28p s28l s28c => Ret Pg 12 [(.agg ⟨vs47⟩)] w78.drew fun r33 w79 => ∃ (n58 : Int) (n59 : Int), r33 = (.agg ⟨[(.int .i64 n58), (.int .i64 n59)]⟩) ∧ Old w78.drew w79 ∧ ∃ (n60 : Int), ([(.int .i64 n58), (.int .i64 n59)] : List Value)[0]? = some (.int .i64 n60) ∧ bif (n60 == ((s28l : Nat) : Int)) then (0 ≤ (15 : Int) ∧ (15 : Int) < ((16 : Nat) : Int) ∧ ∃ (n61 : Int) (n62 : Int), (CellsAt w78.drew (Addr.at_ a22 15 2) 0 [(.int .i64 n61), (.int .i64 n62)] ∧ (2 = 2 ∧ EqW Pg 45 (.agg ⟨[(.int .i64 n61), (.int .i64 n62)]⟩) (.agg ⟨[(.int .i64 0), (.int .i64 0)]⟩) fun b26 => K (.bool b26) w79))) else (K (.bool false) w79)))) else (K (.bool false) w78.drew))))))))) ∧ (NewW (List.replicate 33 ((.int .i64 0) : Value)) 48 w68 fun a23 w80 => Old w68 w80 ∧ Ret Pg 10 [(.pointer p3)] w80 fun r34 w81 => ∃ (vs48 : List Value), List.length vs48 = 33 ∧ r34 = (.agg ⟨vs48⟩) ∧ Old w80 w81 ∧ Ret Pg 11 [(.agg ⟨[(.slice s16p s16l s16c), (.slice s17p s17l s17c)]⟩), (.int .i64 n7)] w81 fun r35 w82 => ∃ (vs49 : List Value), List.length vs49 = 33 ∧ r35 = (.agg ⟨vs49⟩) ∧ LenIs 33 vs48 (Sts a23 0 vs48 w82 fun w83 => LenIs 33 vs49 (Sts a20 0 vs49 w83 fun w84 => ∃ (vs50 : List Value), (CellsAt w84.drew a23 0 vs50 ∧ (List.length vs50 = 33 ∧ ∃ (vs51 : List Value), (CellsAt w84.drew a20 0 vs51 ∧ (List.length vs51 = 33 ∧ EqW Pg 48 (.agg ⟨vs50⟩) (.agg ⟨vs51⟩) fun b27 => bif b27 then (∃ (vs52 : List Value), (CellsAt w84.drew a23 0 vs52 ∧ (List.length vs52 = 33 ∧ LS w84.drew (a5.add 1) fun s29p s29l s29c => Ret Pg 12 [(.agg ⟨vs52⟩)] w84.drew fun r36 w85 => ∃ (n63 : Int) (n64 : Int), r36 = (.agg ⟨[(.int .i64 n63), (.int .i64 n64)]⟩) ∧ Old w84.drew w85 ∧ ∃ (n65 : Int), ([(.int .i64 n63), (.int .i64 n64)] : List Value)[0]? = some (.int .i64 n65) ∧ bif (n65 == ((s29l : Nat) : Int)) then (0 ≤ (15 : Int) ∧ (15 : Int) < ((16 : Nat) : Int) ∧ ∃ (n66 : Int) (n67 : Int), (CellsAt w84.drew (Addr.at_ a23 15 2) 0 [(.int .i64 n66), (.int .i64 n67)] ∧ (2 = 2 ∧ EqW Pg 45 (.agg ⟨[(.int .i64 n66), (.int .i64 n67)]⟩) (.agg ⟨[(.int .i64 0), (.int .i64 0)]⟩) fun b28 => K (.bool b28) w85))) else (K (.bool false) w85)))) else (K (.bool false) w84.drew)))))))))))

def f3_j1 (n2 : Int) (a2 : Addr) (w : World) (K : Value → World → Prop) : Prop := ∃ (s5p : Option Addr) (s5l : Nat) (s5c : Nat) (s6p : Option Addr) (s6l : Nat) (s6c : Nat), (CellsAt w a2 0 [(.slice s5p s5l s5c), (.slice s6p s6l s6c)] ∧ (2 = 2 ∧ Ret Pg 6 [(.agg ⟨[(.slice s5p s5l s5c), (.slice s6p s6l s6c)]⟩), (.int .i64 0)] w fun r5 w6 => ∃ (p1 : Option Addr), ∃ (s7p : Option Addr) (s7l : Nat) (s7c : Nat), ∃ (n3 : Int) (s8p : Option Addr) (s8l : Nat) (s8c : Nat), r5 = (.tuple ⟨[(.pointer p1), (.slice s7p s7l s7c), (.agg ⟨[(.int .i64 n3), (.slice s8p s8l s8c)]⟩)]⟩) ∧ NewW [(.int .i64 0), (.slice none 0 0)] 32 w6 fun a3 w7 => St w7 a3 (.int .i64 n3) fun w8 => St w8 (a3.add 1) (.slice s8p s8l s8c) fun w9 => Ret Pg 7 [(.pointer p1), (.slice s7p s7l s7c)] w9 fun r6 w10 => ∃ (s9p : Option Addr) (s9l : Nat) (s9c : Nat) (s10p : Option Addr) (s10l : Nat) (s10c : Nat), ∃ (n4 : Int), r6 = (.tuple ⟨[(.agg ⟨[(.slice s9p s9l s9c), (.slice s10p s10l s10c)]⟩), (.int .i64 n4)]⟩) ∧ NewW [(.slice none 0 0), (.slice none 0 0)] 37 w10 fun a4 w11 => St w11 a4 (.slice s9p s9l s9c) fun w12 => St w12 (a4.add 1) (.slice s10p s10l s10c) fun w13 => ∃ (s11p : Option Addr) (s11l : Nat) (s11c : Nat) (s12p : Option Addr) (s12l : Nat) (s12c : Nat), (CellsAt w13 a4 0 [(.slice s11p s11l s11c), (.slice s12p s12l s12c)] ∧ (2 = 2 ∧ Ret Pg 8 [(.agg ⟨[(.slice s11p s11l s11c), (.slice s12p s12l s12c)]⟩)] w13 fun r7 w14 => ∃ (n5 : Int), r7 = (.int .i64 n5) ∧ ∃ (s13p : Option Addr) (s13l : Nat) (s13c : Nat) (s14p : Option Addr) (s14l : Nat) (s14c : Nat), (CellsAt w14 a4 0 [(.slice s13p s13l s13c), (.slice s14p s14l s14c)] ∧ (2 = 2 ∧ Ret Pg 9 [(.agg ⟨[(.slice s13p s13l s13c), (.slice s14p s14l s14c)]⟩), (.int .i64 (IntKind.wrap .i64 ((if 1 > n5 then 1 else n5) + (IntKind.wrap .i64 n2))))] w14 fun r8 w15 => ∃ (p2 : Option Addr), ∃ (s15p : Option Addr) (s15l : Nat) (s15c : Nat), ∃ (n6 : Int), r8 = (.tuple ⟨[(.pointer p2), (.slice s15p s15l s15c), (.int .i64 n6)]⟩) ∧ bif (n4 != 0) then (K (.bool false) w15) else (bif (n6 != 0) then (K (.bool false) w15) else (bif (Option.isNone p2) then (K (.bool false) w15) else (f3_j2 a4 (IntKind.wrap .i64 ((if 1 > n5 then 1 else n5) + (IntKind.wrap .i64 n2))) p2 w15 K)))))))))

def f3 (s1p : Option Addr) (s1l : Nat) (s1c : Nat) (s2p : Option Addr) (s2l : Nat) (s2c : Nat) (n1 : Int) (w : World) (K : Value → World → Prop) : Prop := NewW [(.slice s1p s1l s1c), (.slice s2p s2l s2c)] 25 w fun a1 w1 => Ret Pg 4 [] w1 fun r1 w2 => ∃ (b1 : Bool), r1 = (.bool b1) ∧ bif (!b1) then (Ret Pg 4 [] w2 fun r2 w3 => ∃ (b2 : Bool), r2 = (.bool b2) ∧ K (.bool b2) w3) else (∃ (s3p : Option Addr) (s3l : Nat) (s3c : Nat) (s4p : Option Addr) (s4l : Nat) (s4c : Nat), (CellsAt w2 a1 0 [(.slice s3p s3l s3c), (.slice s4p s4l s4c)] ∧ (2 = 2 ∧ Ret Pg 5 [(.agg ⟨[(.slice s3p s3l s3c), (.slice s4p s4l s4c)]⟩)] w2 fun r3 w4 => ∃ (b3 : Bool), r3 = (.bool b3) ∧ bif (!b3) then (Ret Pg 4 [] w4 fun r4 w5 => ∃ (b4 : Bool), r4 = (.bool b4) ∧ K (.bool b4) w5) else (f3_j1 n1 a1 w4 K))))
theorem f3_ret {s1p : Option Addr} {s1l : Nat} {s1c : Nat} {s2p : Option Addr} {s2l : Nat} {s2c : Nat} {n1 : Int} {w : World} {K : Value → World → Prop} (h : f3 s1p s1l s1c s2p s2l s2c n1 w K) : Ret Pg 3 [(.agg ⟨[(.slice s1p s1l s1c), (.slice s2p s2l s2c)]⟩), (.int .u8 n1)] w K :=
  ret_of_WP (ann := f3_ann) (c := bodyOf Try.f3) follows Try.func3 rfl (by kernel_rfl) (by
    have e : WP Pg 83 f3_ann (bodyOf Try.f3) (retQ Pg Try.f3.results.toList K) (initEnv 0 [(.agg ⟨[(.slice s1p s1l s1c), (.slice s2p s2l s2c)]⟩), (.int .u8 n1)]) w = f3 s1p s1l s1c s2p s2l s2c n1 w K := by kernel_rfl
    rw [← e] at h; exact h)

-- besom/besomlaw19.awake
def f4_ann : Nat → Option Ann := fun _ => none
def f4 (w : World) (K : Value → World → Prop) : Prop := NewW (List.replicate 33 ((.int .i64 0) : Value)) 48 w fun a1 w1 => ∃ (vs1 : List Value), (CellsAt w1 a1 0 vs1 ∧ (List.length vs1 = 33 ∧ Ret Pg 14 [(.agg ⟨vs1⟩), (.int .i64 3)] w1 fun r1 w2 => ∃ (f1 : Nat), r1 = (.float .f64 f1) ∧ Ret Pg 13 [(.float .f64 f1)] w2 fun r2 w3 => ∃ (n1 : Int), r2 = (.int .i64 n1) ∧ bif (n1 == 0) then (∃ (vs2 : List Value), (CellsAt w3 a1 0 vs2 ∧ (List.length vs2 = 33 ∧ Ret Pg 15 [(.agg ⟨vs2⟩), (.int .i64 3)] w3 fun r3 w4 => ∃ (f2 : Nat), r3 = (.float .f64 f2) ∧ Ret Pg 13 [(.float .f64 f2)] w4 fun r4 w5 => ∃ (n2 : Int), r4 = (.int .i64 n2) ∧ bif (n2 == 0) then (∃ (vs3 : List Value), (CellsAt w5 a1 0 vs3 ∧ (List.length vs3 = 33 ∧ Ret Pg 16 [(.agg ⟨vs3⟩), (.agg ⟨(List.replicate 32 ((.int .i64 0) : Value) ++ [(.int .i64 2)])⟩)] w5 fun r5 w6 => ∃ (vs4 : List Value), List.length vs4 = 33 ∧ r5 = (.agg ⟨vs4⟩) ∧ ∃ (n3 : Int), (vs4 : List Value)[32]? = some (.int .i64 n3) ∧ K (.bool (n3 == 2)) w6))) else (K (.bool false) w5)))) else (K (.bool false) w3)))
theorem f4_ret {w : World} {K : Value → World → Prop} (h : f4 w K) : Ret Pg 4 [] w K :=
  ret_of_WP (ann := f4_ann) (c := bodyOf Try.f4) follows Try.func4 rfl (by kernel_rfl) (by
    have e : WP Pg 19 f4_ann (bodyOf Try.f4) (retQ Pg Try.f4.results.toList K) (initEnv 0 []) w = f4 w K := by kernel_rfl
    rw [← e] at h; exact h)

-- besom/besomlaw11.Few
noncomputable def f5_l0_B : Code := sub [1, 0, 1, 0, 0] (bodyOf Try.f5)
@[reducible] def f5_l0_o0 : List (Nat × Sh) := [(1, .one (.ptr))]
@[reducible] def f5_l0_or : List (Nat × Sh) := [(2, .one (.bool))]
@[reducible] def f5_l0_A : Ann := ⟨[(1, .one (.ptr)), (6, .one (.sl)), (7, .one (.int .i64)), (8, .one (.int .i64))], [(some 0, f5_l0_o0), (none, f5_l0_or)]⟩
def f5_ann : Nat → Option Ann := fun r => cond (Nat.beq r 2) (some f5_l0_A) (none)
def f5_l0 (p2 : Option Addr) (s5 : Sl) (n3 : Int) (n4 : Int) (w : World) (Kn : Tup f5_l0_A.ins → World → Prop) (K0 : Tup f5_l0_o0 → World → Prop) (Kr : Tup f5_l0_or → World → Prop) : Prop := bif (decide (n4 < n3)) then (0 ≤ n4 ∧ n4 < ((s5.len : Nat) : Int) ∧ NN s5.at_ fun a2 => ∃ (n5 : Int) (s6p : Option Addr) (s6l : Nat) (s6c : Nat) (n6 : Int), (CellsAt w (Addr.at_ a2 n4 3) 0 [(.int .u8 n5), (.slice s6p s6l s6c), (.int .u8 n6)] ∧ (3 = 3 ∧ NewW [(.int .u8 0), (.slice none 0 0), (.int .u8 0)] 58 w fun a3 w2 => St w2 a3 (.int .u8 n5) fun w3 => St w3 (a3.add 1) (.slice s6p s6l s6c) fun w4 => St w4 (a3.add 2) (.int .u8 n6) fun w5 => LS w5 (a3.add 1) fun s7p s7l s7c => bif (decide (((s7l : Nat) : Int) > 10)) then (Kr ⟨false, ()⟩ w5) else (Kn ⟨p2, ⟨s5.at_, s5.len, s5.cap⟩, n3, (IntKind.wrap .i64 (n4 + 1)), ()⟩ w5)))) else (K0 ⟨p2, ()⟩ w)
theorem f5_l0_eq (p2 : Option Addr) (s5 : Sl) (n3 : Int) (n4 : Int) (w : World) (Kn : Tup f5_l0_A.ins → World → Prop) (K0 : Tup f5_l0_o0 → World → Prop) (Kr : Tup f5_l0_or → World → Prop) : WP Pg 27 f5_ann f5_l0_B (bodyQ f5_l0_A (K0, Kr, ()) Kn) (mkEnv f5_l0_A.ins ⟨p2, s5, n3, n4, ()⟩) w = f5_l0 p2 s5 n3 n4 w Kn K0 Kr := by kernel_rfl

def f5 (s1p : Option Addr) (s1l : Nat) (s1c : Nat) (s2p : Option Addr) (s2l : Nat) (s2c : Nat) (w : World) (K : Value → World → Prop) : Prop := NewW [(.slice s1p s1l s1c), (.slice s2p s2l s2c)] 25 w fun a1 w1 => LS w1 a1 fun s3p s3l s3c => LoopP Pg 27 f5_l0_B f5_l0_A ⟨(some a1), ⟨s3p, s3l, s3c⟩, ((s3l : Nat) : Int), 0, ()⟩ w1 (fun (y1 : Tup f5_l0_o0) (w6 : World) => NN y1.1 fun a4 => LS w6 a4 fun s8p s8l s8c => bif (decide (((s8l : Nat) : Int) ≤ 14)) then (NN y1.1 fun a5 => LS w6 (a5.add 1) fun s9p s9l s9c => K (.bool (decide (((s9l : Nat) : Int) ≤ 14))) w6) else (K (.bool false) w6), fun (y2 : Tup f5_l0_or) (w7 : World) => K (.bool y2.1) w7, ())
theorem f5_ret {s1p : Option Addr} {s1l : Nat} {s1c : Nat} {s2p : Option Addr} {s2l : Nat} {s2c : Nat} {w : World} {K : Value → World → Prop} (h : f5 s1p s1l s1c s2p s2l s2c w K) : Ret Pg 5 [(.agg ⟨[(.slice s1p s1l s1c), (.slice s2p s2l s2c)]⟩)] w K :=
  ret_of_WP (ann := f5_ann) (c := bodyOf Try.f5) follows Try.func5 rfl (by kernel_rfl) (by
    have e : WP Pg 27 f5_ann (bodyOf Try.f5) (retQ Pg Try.f5.results.toList K) (initEnv 0 [(.agg ⟨[(.slice s1p s1l s1c), (.slice s2p s2l s2c)]⟩)]) w = f5 s1p s1l s1c s2p s2l s2c w K := by kernel_rfl
    rw [← e] at h; exact h)

-- besom/besomlaw11.Build
noncomputable def f6_l0_B : Code := sub [1, 1, 0, 1, 0, 0] (bodyOf Try.f6)
@[reducible] def f6_l0_o0 : List (Nat × Sh) := [(2, .one (.ptr)), (6, .one (.ptr)), (7, .one (.int .i64))]
@[reducible] def f6_l0_A : Ann := ⟨[(2, .one (.ptr)), (6, .one (.ptr)), (7, .one (.int .i64)), (31, .one (.sl)), (32, .one (.int .i64)), (33, .one (.int .i64))], [(some 0, f6_l0_o0)]⟩
noncomputable def f6_l1_B : Code := sub [1, 1, 1, 1, 1, 1, 0, 1, 0, 0] (bodyOf Try.f6)
@[reducible] def f6_l1_o2 : List (Nat × Sh) := [(2, .one (.ptr)), (6, .one (.ptr)), (10, .one (.ptr)), (12, .one (.ptr)), (13, .one (.sl))]
@[reducible] def f6_l1_A : Ann := ⟨[(2, .one (.ptr)), (6, .one (.ptr)), (10, .one (.ptr)), (12, .one (.ptr)), (13, .one (.sl)), (57, .one (.sl)), (58, .one (.int .i64)), (59, .one (.int .i64))], [(some 2, f6_l1_o2)]⟩
noncomputable def f6_l2_B : Code := sub [1, 1, 1, 1, 1, 1, 1, 0, 1, 0, 0] (bodyOf Try.f6)
@[reducible] def f6_l2_o4 : List (Nat × Sh) := [(2, .one (.ptr)), (6, .one (.ptr)), (10, .one (.ptr)), (12, .one (.ptr)), (13, .one (.sl))]
@[reducible] def f6_l2_A : Ann := ⟨[(2, .one (.ptr)), (6, .one (.ptr)), (10, .one (.ptr)), (12, .one (.ptr)), (13, .one (.sl)), (118, .one (.sl)), (119, .one (.int .i64)), (120, .one (.int .i64))], [(some 4, f6_l2_o4)]⟩
noncomputable def f6_l3_B : Code := sub [1, 1, 1, 1, 1, 1, 1, 0, 1, 0, 0, 1, 1, 0, 0, 1, 0, 1, 0, 0] (bodyOf Try.f6)
@[reducible] def f6_l3_o6 : List (Nat × Sh) := [(2, .one (.ptr)), (6, .one (.ptr)), (10, .one (.ptr)), (12, .one (.ptr)), (13, .one (.sl)), (20, .one (.int .i64)), (21, .one (.ptr)), (118, .one (.sl)), (119, .one (.int .i64)), (120, .one (.int .i64))]
@[reducible] def f6_l3_A : Ann := ⟨[(2, .one (.ptr)), (6, .one (.ptr)), (10, .one (.ptr)), (12, .one (.ptr)), (13, .one (.sl)), (20, .one (.int .i64)), (21, .one (.ptr)), (118, .one (.sl)), (119, .one (.int .i64)), (120, .one (.int .i64)), (126, .one (.sl)), (127, .one (.int .i64)), (128, .one (.int .i64))], [(some 6, f6_l3_o6)]⟩
noncomputable def f6_l4_B : Code := sub [1, 1, 1, 1, 1, 1, 1, 0, 1, 0, 0, 1, 1, 0, 0, 1, 1, 1, 0, 0] (bodyOf Try.f6)
@[reducible] def f6_l4_o8 : List (Nat × Sh) := [(2, .one (.ptr)), (6, .one (.ptr)), (10, .one (.ptr)), (12, .one (.ptr)), (13, .one (.sl)), (118, .one (.sl)), (119, .one (.int .i64)), (120, .one (.int .i64))]
@[reducible] def f6_l4_A : Ann := ⟨[(2, .one (.ptr)), (6, .one (.ptr)), (10, .one (.ptr)), (12, .one (.ptr)), (13, .one (.sl)), (20, .one (.int .i64)), (21, .one (.ptr)), (118, .one (.sl)), (119, .one (.int .i64)), (120, .one (.int .i64)), (160, .one (.int .i64)), (161, .one (.int .i64))], [(some 8, f6_l4_o8)]⟩
noncomputable def f6_l5_B : Code := sub [1, 1, 1, 1, 1, 1, 1, 1, 1, 0, 1, 0, 0] (bodyOf Try.f6)
@[reducible] def f6_l5_o10 : List (Nat × Sh) := [(6, .one (.ptr)), (10, .one (.ptr)), (12, .one (.ptr)), (25, .one (.sl))]
@[reducible] def f6_l5_A : Ann := ⟨[(6, .one (.ptr)), (10, .one (.ptr)), (12, .one (.ptr)), (13, .one (.sl)), (25, .one (.sl)), (200, .one (.sl)), (201, .one (.int .i64)), (202, .one (.int .i64))], [(some 10, f6_l5_o10)]⟩
def f6_ann : Nat → Option Ann := fun r => cond (Nat.beq r 3) (some f6_l0_A) (cond (Nat.beq r 11) (some f6_l1_A) (cond (Nat.beq r 23) (some f6_l2_A) (cond (Nat.beq r 26) (some f6_l3_A) (cond (Nat.beq r 32) (some f6_l4_A) (cond (Nat.beq r 40) (some f6_l5_A) (none))))))
def f6_l5 (p44 : Option Addr) (p45 : Option Addr) (p46 : Option Addr) (s39 : Sl) (s40 : Sl) (s41 : Sl) (n56 : Int) (n57 : Int) (w : World) (Kn : Tup f6_l5_A.ins → World → Prop) (K10 : Tup f6_l5_o10 → World → Prop) : Prop := bif (decide (n57 < n56)) then (0 ≤ n57 ∧ n57 < ((s41.len : Nat) : Int) ∧ NN s41.at_ fun a22 => LK .u8 w (Addr.at_ a22 n57 1) fun n58 => Ret Pg 21 [(.slice s39.at_ s39.len s39.cap), (.int .u8 n58)] w fun r6 w41 => ∃ (n59 : Int), r6 = (.int .i64 n59) ∧ NewW [(.int .i64 n59)] 3 w41 fun a23 w42 => ApW Pg 29 29 (.slice s40.at_ s40.len s40.cap) (.slice (some a23) 1 1) w42 fun s42p s42l s42c w43 => Kn ⟨p44, p45, p46, ⟨s39.at_, s39.len, s39.cap⟩, ⟨s42p, s42l, s42c⟩, ⟨s41.at_, s41.len, s41.cap⟩, n56, (IntKind.wrap .i64 (n57 + 1)), ()⟩ w43) else (K10 ⟨p44, p45, p46, ⟨s40.at_, s40.len, s40.cap⟩, ()⟩ w)
theorem f6_l5_eq (p44 : Option Addr) (p45 : Option Addr) (p46 : Option Addr) (s39 : Sl) (s40 : Sl) (s41 : Sl) (n56 : Int) (n57 : Int) (w : World) (Kn : Tup f6_l5_A.ins → World → Prop) (K10 : Tup f6_l5_o10 → World → Prop) : WP Pg 216 f6_ann f6_l5_B (bodyQ f6_l5_A (K10, ()) Kn) (mkEnv f6_l5_A.ins ⟨p44, p45, p46, s39, s40, s41, n56, n57, ()⟩) w = f6_l5 p44 p45 p46 s39 s40 s41 n56 n57 w Kn K10 := by kernel_rfl

def f6_l4 (p43 : Option Addr) (p44 : Option Addr) (p45 : Option Addr) (p46 : Option Addr) (s40 : Sl) (n73 : Int) (p47 : Option Addr) (s41 : Sl) (n74 : Int) (n75 : Int) (n76 : Int) (n77 : Int) (w : World) (Kn : Tup f6_l4_A.ins → World → Prop) (K8 : Tup f6_l4_o8 → World → Prop) : Prop := bif (decide (n77 < n76)) then (0 ≤ n73 ∧ n73 < ((s40.len : Nat) : Int) ∧ NN s40.at_ fun a26 => LI w.drew (Addr.at_ a26 n73 1) fun n78 => NN p47 fun a27 => LS w.drew (a27.add 1) fun s42p s42l s42c => Ret Pg 20 [(.pointer p45), (.int .i64 n78), (.int .i64 (IntKind.wrap .i64 (((s42l : Nat) : Int) + n77))), (.int .i64 (IntKind.wrap .i64 ((IntKind.wrap .i64 (100 * n73)) + n77)))] w.drew fun r10 w45 => ∃ (n79 : Int), r10 = (.int .i64 n79) ∧ NN p46 fun a28 => ∃ (n80 : Int) (s43p : Option Addr) (s43l : Nat) (s43c : Nat), (CellsAt w45.drew a28 0 [(.int .i64 n80), (.slice s43p s43l s43c)] ∧ (2 = 2 ∧ 0 ≤ n73 ∧ n73 < ((s40.len : Nat) : Int) ∧ NN s40.at_ fun a29 => LI w45.drew (Addr.at_ a29 n73 1) fun n81 => NN p47 fun a30 => LS w45.drew (a30.add 1) fun s44p s44l s44c => Ret Pg 22 [(.agg ⟨[(.int .i64 n80), (.slice s43p s43l s43c)]⟩), (.int .i64 n81), (.int .i64 (IntKind.wrap .i64 (((s44l : Nat) : Int) + n77))), (.int .i64 (IntKind.wrap .i64 ((IntKind.wrap .i64 (100 * n73)) + n77)))] w45.drew fun r11 w46 => ∃ (n82 : Int) (s45p : Option Addr) (s45l : Nat) (s45c : Nat), ∃ (n83 : Int), r11 = (.tuple ⟨[(.agg ⟨[(.int .i64 n82), (.slice s45p s45l s45c)]⟩), (.int .i64 n83)]⟩) ∧ NN p46 fun a31 => St w46 a31 (.int .i64 n82) fun w47 => St w47 (a31.add 1) (.slice s45p s45l s45c) fun w48 => Kn ⟨p43, p44, p45, p46, ⟨s40.at_, s40.len, s40.cap⟩, n73, p47, ⟨s41.at_, s41.len, s41.cap⟩, n74, n75, n76, (IntKind.wrap .i64 (n77 + 1)), ()⟩ w48))) else (K8 ⟨p43, p44, p45, p46, ⟨s40.at_, s40.len, s40.cap⟩, ⟨s41.at_, s41.len, s41.cap⟩, n74, n75, ()⟩ w)
theorem f6_l4_eq (p43 : Option Addr) (p44 : Option Addr) (p45 : Option Addr) (p46 : Option Addr) (s40 : Sl) (n73 : Int) (p47 : Option Addr) (s41 : Sl) (n74 : Int) (n75 : Int) (n76 : Int) (n77 : Int) (w : World) (Kn : Tup f6_l4_A.ins → World → Prop) (K8 : Tup f6_l4_o8 → World → Prop) : WP Pg 216 f6_ann f6_l4_B (bodyQ f6_l4_A (K8, ()) Kn) (mkEnv f6_l4_A.ins ⟨p43, p44, p45, p46, s40, n73, p47, s41, n74, n75, n76, n77, ()⟩) w = f6_l4 p43 p44 p45 p46 s40 n73 p47 s41 n74 n75 n76 n77 w Kn K8 := by kernel_rfl

def f6_l3 (p33 : Option Addr) (p34 : Option Addr) (p35 : Option Addr) (p36 : Option Addr) (s33 : Sl) (n53 : Int) (p37 : Option Addr) (s34 : Sl) (n54 : Int) (n55 : Int) (s35 : Sl) (n56 : Int) (n57 : Int) (w : World) (Kn : Tup f6_l3_A.ins → World → Prop) (K6 : Tup f6_l3_o6 → World → Prop) : Prop := bif (decide (n57 < n56)) then (0 ≤ n57 ∧ n57 < ((s35.len : Nat) : Int) ∧ NN s35.at_ fun a20 => LK .u8 w (Addr.at_ a20 n57 1) fun n58 => 0 ≤ n53 ∧ n53 < ((s33.len : Nat) : Int) ∧ NN s33.at_ fun a21 => LI w.drew (Addr.at_ a21 n53 1) fun n59 => Ret Pg 21 [(.slice s33.at_ s33.len s33.cap), (.int .u8 n58)] w.drew fun r6 w38 => ∃ (n60 : Int), r6 = (.int .i64 n60) ∧ Old w.drew w38 ∧ Ret Pg 20 [(.pointer p35), (.int .i64 n59), (.int .i64 n57), (.int .i64 n60)] w38 fun r7 w39 => ∃ (n61 : Int), r7 = (.int .i64 n61) ∧ NN p36 fun a22 => ∃ (n62 : Int) (s36p : Option Addr) (s36l : Nat) (s36c : Nat), (CellsAt w39.drew a22 0 [(.int .i64 n62), (.slice s36p s36l s36c)] ∧ (2 = 2 ∧ 0 ≤ n53 ∧ n53 < ((s33.len : Nat) : Int) ∧ NN s33.at_ fun a23 => LI w39.drew (Addr.at_ a23 n53 1) fun n63 => Ret Pg 21 [(.slice s33.at_ s33.len s33.cap), (.int .u8 n58)] w39.drew fun r8 w40 => ∃ (n64 : Int), r8 = (.int .i64 n64) ∧ Old w39.drew w40 ∧ Ret Pg 22 [(.agg ⟨[(.int .i64 n62), (.slice s36p s36l s36c)]⟩), (.int .i64 n63), (.int .i64 n57), (.int .i64 n64)] w40 fun r9 w41 => ∃ (n65 : Int) (s37p : Option Addr) (s37l : Nat) (s37c : Nat), ∃ (n66 : Int), r9 = (.tuple ⟨[(.agg ⟨[(.int .i64 n65), (.slice s37p s37l s37c)]⟩), (.int .i64 n66)]⟩) ∧ NN p36 fun a24 => St w41 a24 (.int .i64 n65) fun w42 => St w42 (a24.add 1) (.slice s37p s37l s37c) fun w43 => Kn ⟨p33, p34, p35, p36, ⟨s33.at_, s33.len, s33.cap⟩, n53, p37, ⟨s34.at_, s34.len, s34.cap⟩, n54, n55, ⟨s35.at_, s35.len, s35.cap⟩, n56, (IntKind.wrap .i64 (n57 + 1)), ()⟩ w43))) else (K6 ⟨p33, p34, p35, p36, ⟨s33.at_, s33.len, s33.cap⟩, n53, p37, ⟨s34.at_, s34.len, s34.cap⟩, n54, n55, ()⟩ w)
theorem f6_l3_eq (p33 : Option Addr) (p34 : Option Addr) (p35 : Option Addr) (p36 : Option Addr) (s33 : Sl) (n53 : Int) (p37 : Option Addr) (s34 : Sl) (n54 : Int) (n55 : Int) (s35 : Sl) (n56 : Int) (n57 : Int) (w : World) (Kn : Tup f6_l3_A.ins → World → Prop) (K6 : Tup f6_l3_o6 → World → Prop) : WP Pg 216 f6_ann f6_l3_B (bodyQ f6_l3_A (K6, ()) Kn) (mkEnv f6_l3_A.ins ⟨p33, p34, p35, p36, s33, n53, p37, s34, n54, n55, s35, n56, n57, ()⟩) w = f6_l3 p33 p34 p35 p36 s33 n53 p37 s34 n54 n55 s35 n56 n57 w Kn K6 := by kernel_rfl

def f6_j4 (p32 : Option Addr) (p33 : Option Addr) (p34 : Option Addr) (p35 : Option Addr) (s32p : Option Addr) (s32l : Nat) (s32c : Nat) (n50 : Int) (p36 : Option Addr) (s33p : Option Addr) (s33l : Nat) (s33c : Nat) (n51 : Int) (n52 : Int) (w : World) (Kn : Tup f6_l2_A.ins → World → Prop) (K4 : Tup f6_l2_o4 → World → Prop) : Prop := NN p36 fun a20 => LK .u8 w (a20.add 2) fun n53 => LoopP Pg 216 f6_l4_B f6_l4_A ⟨p32, p33, p34, p35, ⟨s32p, s32l, s32c⟩, n50, p36, ⟨s33p, s33l, s33c⟩, n51, n52, (IntKind.wrap .i64 (Int.tmod n53 4)), 0, ()⟩ w (fun (y4 : Tup f6_l4_o8) (w39 : World) => Kn ⟨y4.1, y4.2.1, y4.2.2.1, y4.2.2.2.1, ⟨y4.2.2.2.2.1.at_, y4.2.2.2.2.1.len, y4.2.2.2.2.1.cap⟩, ⟨y4.2.2.2.2.2.1.at_, y4.2.2.2.2.2.1.len, y4.2.2.2.2.2.1.cap⟩, y4.2.2.2.2.2.2.1, (IntKind.wrap .i64 (y4.2.2.2.2.2.2.2.1 + 1)), ()⟩ w39, ())

def f6_l2 (p28 : Option Addr) (p29 : Option Addr) (p30 : Option Addr) (p31 : Option Addr) (s28 : Sl) (s29 : Sl) (n46 : Int) (n47 : Int) (w : World) (Kn : Tup f6_l2_A.ins → World → Prop) (K4 : Tup f6_l2_o4 → World → Prop) : Prop := bif (decide (n47 < n46)) then (0 ≤ n47 ∧ n47 < ((s29.len : Nat) : Int) ∧ NN s29.at_ fun a18 => ∃ (n48 : Int) (s30p : Option Addr) (s30l : Nat) (s30c : Nat) (n49 : Int), (CellsAt w (Addr.at_ a18 n47 3) 0 [(.int .u8 n48), (.slice s30p s30l s30c), (.int .u8 n49)] ∧ (3 = 3 ∧ NewW [(.int .u8 0), (.slice none 0 0), (.int .u8 0)] 58 w fun a19 w34 => St w34 a19 (.int .u8 n48) fun w35 => St w35 (a19.add 1) (.slice s30p s30l s30c) fun w36 => St w36 (a19.add 2) (.int .u8 n49) fun w37 => LS w37 (a19.add 1) fun s31p s31l s31c => LoopP Pg 216 f6_l3_B f6_l3_A ⟨p28, p29, p30, p31, ⟨s28.at_, s28.len, s28.cap⟩, n47, (some a19), ⟨s29.at_, s29.len, s29.cap⟩, n46, n47, ⟨s31p, s31l, s31c⟩, ((s31l : Nat) : Int), 0, ()⟩ w37 (fun (y3 : Tup f6_l3_o6) (w38 : World) => f6_j4 y3.1 y3.2.1 y3.2.2.1 y3.2.2.2.1 y3.2.2.2.2.1.at_ y3.2.2.2.2.1.len y3.2.2.2.2.1.cap y3.2.2.2.2.2.1 y3.2.2.2.2.2.2.1 y3.2.2.2.2.2.2.2.1.at_ y3.2.2.2.2.2.2.2.1.len y3.2.2.2.2.2.2.2.1.cap y3.2.2.2.2.2.2.2.2.1 y3.2.2.2.2.2.2.2.2.2.1 w38 Kn K4, ())))) else (K4 ⟨p28, p29, p30, p31, ⟨s28.at_, s28.len, s28.cap⟩, ()⟩ w)
theorem f6_l2_eq (p28 : Option Addr) (p29 : Option Addr) (p30 : Option Addr) (p31 : Option Addr) (s28 : Sl) (s29 : Sl) (n46 : Int) (n47 : Int) (w : World) (Kn : Tup f6_l2_A.ins → World → Prop) (K4 : Tup f6_l2_o4 → World → Prop) : WP Pg 216 f6_ann f6_l2_B (bodyQ f6_l2_A (K4, ()) Kn) (mkEnv f6_l2_A.ins ⟨p28, p29, p30, p31, s28, s29, n46, n47, ()⟩) w = f6_l2 p28 p29 p30 p31 s28 s29 n46 n47 w Kn K4 := by kernel_rfl

def f6_j2 (p16 : Option Addr) (p17 : Option Addr) (p18 : Option Addr) (p19 : Option Addr) (s16p : Option Addr) (s16l : Nat) (s16c : Nat) (a11 : Addr) (s17p : Option Addr) (s17l : Nat) (s17c : Nat) (n27 : Int) (n28 : Int) (w : World) (Kn : Tup f6_l1_A.ins → World → Prop) (K2 : Tup f6_l1_o2 → World → Prop) : Prop := LK .u8 w a11 fun n29 => LS w (a11.add 1) fun s18p s18l s18c => LK .u8 w (a11.add 2) fun n30 => LS w (a11.add 1) fun s19p s19l s19c => NewW [(.int .i64 0), (.int .i64 0), (.int .i64 0)] 64 w fun a12 w20 => St w20 a12 (.int .i64 (IntKind.wrap .i64 (Int.tmod n29 15))) fun w21 => St w21 (a12.add 1) (.int .i64 (IntKind.wrap .i64 (((s18l : Nat) : Int) + (IntKind.wrap .i64 (Int.tmod n30 4))))) fun w22 => St w22 (a12.add 2) (.int .i64 ((s19l : Nat) : Int)) fun w23 => ∃ (n31 : Int) (n32 : Int) (n33 : Int), (CellsAt w23 a12 0 [(.int .i64 n31), (.int .i64 n32), (.int .i64 n33)] ∧ (3 = 3 ∧ Ret Pg 18 [(.pointer p18), (.agg ⟨[(.int .i64 n31), (.int .i64 n32), (.int .i64 n33)]⟩)] w23 fun r4 w24 => ∃ (n34 : Int), ∃ (n35 : Int), r4 = (.tuple ⟨[(.int .i64 n34), (.int .i64 n35)]⟩) ∧ NN p19 fun a13 => ∃ (n36 : Int) (s20p : Option Addr) (s20l : Nat) (s20c : Nat), (CellsAt w24 a13 0 [(.int .i64 n36), (.slice s20p s20l s20c)] ∧ (2 = 2 ∧ ∃ (n37 : Int) (n38 : Int) (n39 : Int), (CellsAt w24 a12 0 [(.int .i64 n37), (.int .i64 n38), (.int .i64 n39)] ∧ (3 = 3 ∧ Ret Pg 19 [(.agg ⟨[(.int .i64 n36), (.slice s20p s20l s20c)]⟩), (.agg ⟨[(.int .i64 n37), (.int .i64 n38), (.int .i64 n39)]⟩)] w24 fun r5 w25 => ∃ (n40 : Int) (s21p : Option Addr) (s21l : Nat) (s21c : Nat), ∃ (n41 : Int), ∃ (n42 : Int), r5 = (.tuple ⟨[(.agg ⟨[(.int .i64 n40), (.slice s21p s21l s21c)]⟩), (.int .i64 n41), (.int .i64 n42)]⟩) ∧ NewW [(.int .i64 0), (.slice none 0 0)] 32 w25 fun a14 w26 => St w26 a14 (.int .i64 n40) fun w27 => St w27 (a14.add 1) (.slice s21p s21l s21c) fun w28 => ∃ (n43 : Int) (s22p : Option Addr) (s22l : Nat) (s22c : Nat), (CellsAt w28 a14 0 [(.int .i64 n43), (.slice s22p s22l s22c)] ∧ (2 = 2 ∧ NN p19 fun a15 => St w28 a15 (.int .i64 n43) fun w29 => St w29 (a15.add 1) (.slice s22p s22l s22c) fun w30 => NewW [(.int .i64 n41)] 3 w30 fun a16 w31 => ApW Pg 29 29 (.slice s16p s16l s16c) (.slice (some a16) 1 1) w31 fun s23p s23l s23c w32 => Kn ⟨p16, p17, p18, p19, ⟨s23p, s23l, s23c⟩, ⟨s17p, s17l, s17c⟩, n27, (IntKind.wrap .i64 (n28 + 1)), ()⟩ w32))))))))

def f6_l1 (p12 : Option Addr) (p13 : Option Addr) (p14 : Option Addr) (p15 : Option Addr) (s11 : Sl) (s12 : Sl) (n15 : Int) (n16 : Int) (w : World) (Kn : Tup f6_l1_A.ins → World → Prop) (K2 : Tup f6_l1_o2 → World → Prop) : Prop := bif (decide (n16 < n15)) then (0 ≤ n16 ∧ n16 < ((s12.len : Nat) : Int) ∧ NN s12.at_ fun a7 => ∃ (n17 : Int) (s13p : Option Addr) (s13l : Nat) (s13c : Nat) (n18 : Int), (CellsAt w (Addr.at_ a7 n16 3) 0 [(.int .u8 n17), (.slice s13p s13l s13c), (.int .u8 n18)] ∧ (3 = 3 ∧ NewW [(.int .u8 0), (.slice none 0 0), (.int .u8 0)] 58 w fun a8 w12 => St w12 a8 (.int .u8 n17) fun w13 => St w13 (a8.add 1) (.slice s13p s13l s13c) fun w14 => St w14 (a8.add 2) (.int .u8 n18) fun w15 => bif ((Int.tmod n16 3) == 2) then (LK .u8 w15 a8 fun n19 => Ret Pg 18 [(.pointer p14), (.agg ⟨[(.int .i64 15), (.int .i64 (IntKind.wrap .i64 (Int.tmod n19 2))), (.int .i64 0)]⟩)] w15 fun r2 w16 => ∃ (n20 : Int), ∃ (n21 : Int), r2 = (.tuple ⟨[(.int .i64 n20), (.int .i64 n21)]⟩) ∧ NN p15 fun a9 => ∃ (n22 : Int) (s14p : Option Addr) (s14l : Nat) (s14c : Nat), (CellsAt w16 a9 0 [(.int .i64 n22), (.slice s14p s14l s14c)] ∧ (2 = 2 ∧ LK .u8 w16 a8 fun n23 => Ret Pg 19 [(.agg ⟨[(.int .i64 n22), (.slice s14p s14l s14c)]⟩), (.agg ⟨[(.int .i64 15), (.int .i64 (IntKind.wrap .i64 (Int.tmod n23 2))), (.int .i64 0)]⟩)] w16 fun r3 w17 => ∃ (n24 : Int) (s15p : Option Addr) (s15l : Nat) (s15c : Nat), ∃ (n25 : Int), ∃ (n26 : Int), r3 = (.tuple ⟨[(.agg ⟨[(.int .i64 n24), (.slice s15p s15l s15c)]⟩), (.int .i64 n25), (.int .i64 n26)]⟩) ∧ NN p15 fun a10 => St w17 a10 (.int .i64 n24) fun w18 => St w18 (a10.add 1) (.slice s15p s15l s15c) fun w19 => f6_j2 p12 p13 p14 p15 s11.at_ s11.len s11.cap a8 s12.at_ s12.len s12.cap n15 n16 w19 Kn K2))) else (f6_j2 p12 p13 p14 p15 s11.at_ s11.len s11.cap a8 s12.at_ s12.len s12.cap n15 n16 w15 Kn K2)))) else (K2 ⟨p12, p13, p14, p15, ⟨s11.at_, s11.len, s11.cap⟩, ()⟩ w)
theorem f6_l1_eq (p12 : Option Addr) (p13 : Option Addr) (p14 : Option Addr) (p15 : Option Addr) (s11 : Sl) (s12 : Sl) (n15 : Int) (n16 : Int) (w : World) (Kn : Tup f6_l1_A.ins → World → Prop) (K2 : Tup f6_l1_o2 → World → Prop) : WP Pg 216 f6_ann f6_l1_B (bodyQ f6_l1_A (K2, ()) Kn) (mkEnv f6_l1_A.ins ⟨p12, p13, p14, p15, s11, s12, n15, n16, ()⟩) w = f6_l1 p12 p13 p14 p15 s11 s12 n15 n16 w Kn K2 := by kernel_rfl

def f6_l0 (p3 : Option Addr) (p4 : Option Addr) (n5 : Int) (s5 : Sl) (n6 : Int) (n7 : Int) (w : World) (Kn : Tup f6_l0_A.ins → World → Prop) (K0 : Tup f6_l0_o0 → World → Prop) : Prop := bif (decide (n7 < n6)) then (0 ≤ n7 ∧ n7 < ((s5.len : Nat) : Int) ∧ NN s5.at_ fun a3 => ∃ (n8 : Int) (s6p : Option Addr) (s6l : Nat) (s6c : Nat) (n9 : Int), (CellsAt w (Addr.at_ a3 n7 3) 0 [(.int .u8 n8), (.slice s6p s6l s6c), (.int .u8 n9)] ∧ (3 = 3 ∧ NewW [(.int .u8 0), (.slice none 0 0), (.int .u8 0)] 58 w fun a4 w3 => St w3 a4 (.int .u8 n8) fun w4 => St w4 (a4.add 1) (.slice s6p s6l s6c) fun w5 => St w5 (a4.add 2) (.int .u8 n9) fun w6 => LS w6 (a4.add 1) fun s7p s7l s7c => LK .u8 w6 (a4.add 2) fun n10 => Kn ⟨p3, p4, (IntKind.wrap .i64 (n5 + (IntKind.wrap .i64 ((IntKind.wrap .i64 (3 + ((s7l : Nat) : Int))) + (IntKind.wrap .i64 (Int.tmod n10 4)))))), ⟨s5.at_, s5.len, s5.cap⟩, n6, (IntKind.wrap .i64 (n7 + 1)), ()⟩ w6))) else (K0 ⟨p3, p4, n5, ()⟩ w)
theorem f6_l0_eq (p3 : Option Addr) (p4 : Option Addr) (n5 : Int) (s5 : Sl) (n6 : Int) (n7 : Int) (w : World) (Kn : Tup f6_l0_A.ins → World → Prop) (K0 : Tup f6_l0_o0 → World → Prop) : WP Pg 216 f6_ann f6_l0_B (bodyQ f6_l0_A (K0, ()) Kn) (mkEnv f6_l0_A.ins ⟨p3, p4, n5, s5, n6, n7, ()⟩) w = f6_l0 p3 p4 n5 s5 n6 n7 w Kn K0 := by kernel_rfl

def f6_j5 (p37 : Option Addr) (p38 : Option Addr) (p39 : Option Addr) (p40 : Option Addr) (s34p : Option Addr) (s34l : Nat) (s34c : Nat) (w : World) (K : Value → World → Prop) : Prop := NN p37 fun a21 => LS w (a21.add 1) fun s35p s35l s35c => LoopP Pg 216 f6_l5_B f6_l5_A ⟨p38, p39, p40, ⟨s34p, s34l, s34c⟩, ⟨none, 0, 0⟩, ⟨s35p, s35l, s35c⟩, ((s35l : Nat) : Int), 0, ()⟩ w (fun (y6 : Tup f6_l5_o10) (w44 : World) => NN y6.2.2.1 fun a24 => ∃ (n60 : Int) (s43p : Option Addr) (s43l : Nat) (s43c : Nat), (CellsAt w44.drew a24 0 [(.int .i64 n60), (.slice s43p s43l s43c)] ∧ (2 = 2 ∧ NN y6.1 fun a25 => St w44.drew a25 (.int .i64 n60) fun w45 => St w45 (a25.add 1) (.slice s43p s43l s43c) fun w46 => NN y6.1 fun a26 => ∃ (n61 : Int) (s44p : Option Addr) (s44l : Nat) (s44c : Nat), (CellsAt w46 a26 0 [(.int .i64 n61), (.slice s44p s44l s44c)] ∧ (2 = 2 ∧ K (.tuple ⟨[(.pointer y6.2.1), (.slice y6.2.2.2.1.at_ y6.2.2.2.1.len y6.2.2.2.1.cap), (.agg ⟨[(.int .i64 n61), (.slice s44p s44l s44c)]⟩)]⟩) w46)))), ())

def f6_j3 (p20 : Option Addr) (p21 : Option Addr) (p22 : Option Addr) (p23 : Option Addr) (s24p : Option Addr) (s24l : Nat) (s24c : Nat) (w : World) (K : Value → World → Prop) : Prop := NN p20 fun a17 => LS w a17 fun s25p s25l s25c => LoopP Pg 216 f6_l2_B f6_l2_A ⟨p20, p21, p22, p23, ⟨s24p, s24l, s24c⟩, ⟨s25p, s25l, s25c⟩, ((s25l : Nat) : Int), 0, ()⟩ w (fun (y5 : Tup f6_l2_o4) (w40 : World) => f6_j5 y5.1 y5.2.1 y5.2.2.1 y5.2.2.2.1 y5.2.2.2.2.1.at_ y5.2.2.2.2.1.len y5.2.2.2.2.1.cap w40 K, ())

def f6_j1 (p5 : Option Addr) (p6 : Option Addr) (n11 : Int) (w : World) (K : Value → World → Prop) : Prop := Ret Pg 17 [(.int .i64 n11)] w fun r1 w8 => ∃ (p7 : Option Addr), ∃ (n12 : Int), r1 = (.tuple ⟨[(.pointer p7), (.int .i64 n12)]⟩) ∧ NewW [(.int .i64 0), (.slice none 0 0)] 32 w8 fun a5 w9 => St w9 a5 (.int .i64 n11) fun w10 => St w10 (a5.add 1) (.slice none 0 0) fun w11 => NN p5 fun a6 => LS w11 a6 fun s8p s8l s8c => LoopP Pg 216 f6_l1_B f6_l1_A ⟨p5, p6, p7, (some a5), ⟨none, 0, 0⟩, ⟨s8p, s8l, s8c⟩, ((s8l : Nat) : Int), 0, ()⟩ w11 (fun (y2 : Tup f6_l1_o2) (w33 : World) => f6_j3 y2.1 y2.2.1 y2.2.2.1 y2.2.2.2.1 y2.2.2.2.2.1.at_ y2.2.2.2.2.1.len y2.2.2.2.2.1.cap w33 K, ())

def f6 (s1p : Option Addr) (s1l : Nat) (s1c : Nat) (s2p : Option Addr) (s2l : Nat) (s2c : Nat) (n1 : Int) (w : World) (K : Value → World → Prop) : Prop := NewW [(.slice s1p s1l s1c), (.slice s2p s2l s2c)] 25 w fun a1 w1 => NewW [(.int .i64 0), (.slice none 0 0)] 32 w1 fun a2 w2 => LS w2 a1 fun s3p s3l s3c => LoopP Pg 216 f6_l0_B f6_l0_A ⟨(some a1), (some a2), (IntKind.wrap .i64 (1 + n1)), ⟨s3p, s3l, s3c⟩, ((s3l : Nat) : Int), 0, ()⟩ w2 (fun (y1 : Tup f6_l0_o0) (w7 : World) => f6_j1 y1.1 y1.2.1 y1.2.2.1 w7 K, ())
theorem f6_ret {s1p : Option Addr} {s1l : Nat} {s1c : Nat} {s2p : Option Addr} {s2l : Nat} {s2c : Nat} {n1 : Int} {w : World} {K : Value → World → Prop} (h : f6 s1p s1l s1c s2p s2l s2c n1 w K) : Ret Pg 6 [(.agg ⟨[(.slice s1p s1l s1c), (.slice s2p s2l s2c)]⟩), (.int .i64 n1)] w K :=
  ret_of_WP (ann := f6_ann) (c := bodyOf Try.f6) follows Try.func6 rfl (by kernel_rfl) (by
    have e : WP Pg 216 f6_ann (bodyOf Try.f6) (retQ Pg Try.f6.results.toList K) (initEnv 0 [(.agg ⟨[(.slice s1p s1l s1c), (.slice s2p s2l s2c)]⟩), (.int .i64 n1)]) w = f6 s1p s1l s1c s2p s2l s2c n1 w K := by kernel_rfl
    rw [← e] at h; exact h)

-- besom/graph.Of
noncomputable def f7_l0_B : Code := sub [1, 1, 1, 0, 1, 0, 0] (bodyOf Try.f7)
@[reducible] def f7_l0_o0 : List (Nat × Sh) := [(4, .one (.ptr)), (6, .one (.ptr)), (7, .one (.ptr))]
@[reducible] def f7_l0_or : List (Nat × Sh) := [(4, .one (.ptr)), (5, .one (.int .i64))]
@[reducible] def f7_l0_A : Ann := ⟨[(4, .one (.ptr)), (6, .one (.ptr)), (7, .one (.ptr)), (18, .one (.sl)), (19, .one (.int .i64)), (20, .one (.int .i64))], [(some 0, f7_l0_o0), (none, f7_l0_or)]⟩
noncomputable def f7_l1_B : Code := sub [1, 1, 1, 1, 0, 0, 0] (bodyOf Try.f7)
@[reducible] def f7_l1_o2 : List (Nat × Sh) := [(4, .one (.ptr)), (7, .one (.ptr))]
@[reducible] def f7_l1_or : List (Nat × Sh) := [(4, .one (.ptr)), (5, .one (.int .i64))]
@[reducible] def f7_l1_A : Ann := ⟨[(4, .one (.ptr)), (6, .one (.ptr)), (7, .one (.ptr))], [(some 2, f7_l1_o2), (none, f7_l1_or)]⟩
def f7_ann : Nat → Option Ann := fun r => cond (Nat.beq r 4) (some f7_l0_A) (cond (Nat.beq r 11) (some f7_l1_A) (none))
def f7_l1 (p14 : Option Addr) (p15 : Option Addr) (p16 : Option Addr) (w : World) (Kn : Tup f7_l1_A.ins → World → Prop) (K2 : Tup f7_l1_o2 → World → Prop) (Kr : Tup f7_l1_or → World → Prop) : Prop := NN p16 fun a9 => LS w.drew (a9.add 1) fun s6p s6l s6c => NN p15 fun a10 => LS w.drew (a10.add 1) fun s7p s7l s7c => bif (decide (((s6l : Nat) : Int) < ((s7l : Nat) : Int))) then (NN p15 fun a11 => LS (World.drew w.drew) (a11.add 1) fun s8p s8l s8c => NN p16 fun a12 => LS (World.drew w.drew) (a12.add 1) fun s9p s9l s9c => 0 ≤ ((s9l : Nat) : Int) ∧ ((s9l : Nat) : Int) < ((s8l : Nat) : Int) ∧ NN s8p fun a13 => LI (World.drew w.drew) (Addr.at_ a13 ((s9l : Nat) : Int) 1) fun n7 => (Ret Pg 24 [(.pointer p15), (.int .i64 n7)] (World.drew w.drew) fun r2 w11 => ∃ (n8 : Int) (s10p : Option Addr) (s10l : Nat) (s10c : Nat) (s11p : Option Addr) (s11l : Nat) (s11c : Nat), ∃ (b2 : Bool), r2 = (.tuple ⟨[(.agg ⟨[(.int .i64 n8), (.slice s10p s10l s10c), (.slice s11p s11l s11c)]⟩), (.bool b2)]⟩) ∧ NewW [(.int .i64 0), (.slice none 0 0), (.slice none 0 0)] 78 w11 fun a14 w12 => Old w11 w12 ∧ St w12 a14 (.int .i64 n8) fun w13 => St w13 (a14.add 1) (.slice s10p s10l s10c) fun w14 => St w14 (a14.add 2) (.slice s11p s11l s11c) fun w15 => bif (!b2) then (NN p14 fun a15 => St w15 a15 (.slice none 0 0) fun w16 => St w16 (a15.add 1) (.slice none 0 0) fun w17 => Kr ⟨p14, 5, ()⟩ w17) else (NN p16 fun a16 => LS w15 (a16.add 1) fun s12p s12l s12c => ∃ (n9 : Int) (s13p : Option Addr) (s13l : Nat) (s13c : Nat) (s14p : Option Addr) (s14l : Nat) (s14c : Nat), (CellsAt w15 a14 0 [(.int .i64 n9), (.slice s13p s13l s13c), (.slice s14p s14l s14c)] ∧ (3 = 3 ∧ NewW [(.int .i64 n9), (.slice s13p s13l s13c), (.slice s14p s14l s14c)] 78 w15 fun a17 w18 => ApW Pg 35 35 (.slice s12p s12l s12c) (.slice (some a17) 1 1) w18 fun s15p s15l s15c w19 => NN p16 fun a18 => St w19 (a18.add 1) (.slice s15p s15l s15c) fun w20 => Kn ⟨p14, p15, p16, ()⟩ w20)))) ∧ (NewW [(.int .i64 0), (.slice none 0 0), (.slice none 0 0)] 78 (World.drew w.drew) fun a19 w21 => Old (World.drew w.drew) w21 ∧ Ret Pg 24 [(.pointer p15), (.int .i64 n7)] w21 fun r3 w22 => ∃ (n10 : Int) (s16p : Option Addr) (s16l : Nat) (s16c : Nat) (s17p : Option Addr) (s17l : Nat) (s17c : Nat), ∃ (b3 : Bool), r3 = (.tuple ⟨[(.agg ⟨[(.int .i64 n10), (.slice s16p s16l s16c), (.slice s17p s17l s17c)]⟩), (.bool b3)]⟩) ∧ St w22 a19 (.int .i64 n10) fun w23 => St w23 (a19.add 1) (.slice s16p s16l s16c) fun w24 => St w24 (a19.add 2) (.slice s17p s17l s17c) fun w25 => bif (!b3) then (NN p14 fun a20 => St w25 a20 (.slice none 0 0) fun w26 => St w26 (a20.add 1) (.slice none 0 0) fun w27 => Kr ⟨p14, 5, ()⟩ w27) else (NN p16 fun a21 => LS w25 (a21.add 1) fun s18p s18l s18c => ∃ (n11 : Int) (s19p : Option Addr) (s19l : Nat) (s19c : Nat) (s20p : Option Addr) (s20l : Nat) (s20c : Nat), (CellsAt w25 a19 0 [(.int .i64 n11), (.slice s19p s19l s19c), (.slice s20p s20l s20c)] ∧ (3 = 3 ∧ NewW [(.int .i64 n11), (.slice s19p s19l s19c), (.slice s20p s20l s20c)] 78 w25 fun a22 w28 => ApW Pg 35 35 (.slice s18p s18l s18c) (.slice (some a22) 1 1) w28 fun s21p s21l s21c w29 => NN p16 fun a23 => St w29 (a23.add 1) (.slice s21p s21l s21c) fun w30 => Kn ⟨p14, p15, p16, ()⟩ w30))))) else (K2 ⟨p14, p16, ()⟩ w.drew)
theorem f7_l1_eq (p14 : Option Addr) (p15 : Option Addr) (p16 : Option Addr) (w : World) (Kn : Tup f7_l1_A.ins → World → Prop) (K2 : Tup f7_l1_o2 → World → Prop) (Kr : Tup f7_l1_or → World → Prop) : WP Pg 73 f7_ann f7_l1_B (bodyQ f7_l1_A (K2, Kr, ()) Kn) (mkEnv f7_l1_A.ins ⟨p14, p15, p16, ()⟩) w = f7_l1 p14 p15 p16 w Kn K2 Kr := by kernel_rfl

def f7_l0 (p5 : Option Addr) (p6 : Option Addr) (p7 : Option Addr) (s3 : Sl) (n3 : Int) (n4 : Int) (w : World) (Kn : Tup f7_l0_A.ins → World → Prop) (K0 : Tup f7_l0_o0 → World → Prop) (Kr : Tup f7_l0_or → World → Prop) : Prop := bif (decide (n4 < n3)) then (0 ≤ n4 ∧ n4 < ((s3.len : Nat) : Int) ∧ NN s3.at_ fun a4 => LI w (Addr.at_ a4 n4 1) fun n5 => Ret Pg 23 [(.pointer p6), (.int .i64 n5)] w fun r1 w4 => ∃ (n6 : Int), ∃ (b1 : Bool), r1 = (.tuple ⟨[(.int .i64 n6), (.bool b1)]⟩) ∧ bif (!b1) then (NN p5 fun a5 => St w4 a5 (.slice none 0 0) fun w5 => St w5 (a5.add 1) (.slice none 0 0) fun w6 => Kr ⟨p5, 5, ()⟩ w6) else (NN p7 fun a6 => LS w4 a6 fun s4p s4l s4c => NewW [(.int .i64 n6)] 3 w4 fun a7 w7 => ApW Pg 29 29 (.slice s4p s4l s4c) (.slice (some a7) 1 1) w7 fun s5p s5l s5c w8 => NN p7 fun a8 => St w8 a8 (.slice s5p s5l s5c) fun w9 => Kn ⟨p5, p6, p7, ⟨s3.at_, s3.len, s3.cap⟩, n3, (IntKind.wrap .i64 (n4 + 1)), ()⟩ w9)) else (K0 ⟨p5, p6, p7, ()⟩ w)
theorem f7_l0_eq (p5 : Option Addr) (p6 : Option Addr) (p7 : Option Addr) (s3 : Sl) (n3 : Int) (n4 : Int) (w : World) (Kn : Tup f7_l0_A.ins → World → Prop) (K0 : Tup f7_l0_o0 → World → Prop) (Kr : Tup f7_l0_or → World → Prop) : WP Pg 73 f7_ann f7_l0_B (bodyQ f7_l0_A (K0, Kr, ()) Kn) (mkEnv f7_l0_A.ins ⟨p5, p6, p7, s3, n3, n4, ()⟩) w = f7_l0 p5 p6 p7 s3 n3 n4 w Kn K0 Kr := by kernel_rfl

def f7_j1 (p8 : Option Addr) (p9 : Option Addr) (p10 : Option Addr) (w : World) (K : Value → World → Prop) : Prop := LoopP Pg 73 f7_l1_B f7_l1_A ⟨p8, p9, p10, ()⟩ w (fun (y2 : Tup f7_l1_o2) (w31 : World) => NN y2.2.1 fun a24 => ∃ (s22p : Option Addr) (s22l : Nat) (s22c : Nat) (s23p : Option Addr) (s23l : Nat) (s23c : Nat), (CellsAt w31 a24 0 [(.slice s22p s22l s22c), (.slice s23p s23l s23c)] ∧ (2 = 2 ∧ NN y2.1 fun a25 => St w31 a25 (.slice s22p s22l s22c) fun w32 => St w32 (a25.add 1) (.slice s23p s23l s23c) fun w33 => NN y2.1 fun a26 => ∃ (s24p : Option Addr) (s24l : Nat) (s24c : Nat) (s25p : Option Addr) (s25l : Nat) (s25c : Nat), (CellsAt w33 a26 0 [(.slice s24p s24l s24c), (.slice s25p s25l s25c)] ∧ (2 = 2 ∧ K (.tuple ⟨[(.agg ⟨[(.slice s24p s24l s24c), (.slice s25p s25l s25c)]⟩), (.int .i64 0)]⟩) w33)))), fun (y3 : Tup f7_l1_or) (w34 : World) => NN y3.1 fun a27 => ∃ (s26p : Option Addr) (s26l : Nat) (s26c : Nat) (s27p : Option Addr) (s27l : Nat) (s27c : Nat), (CellsAt w34 a27 0 [(.slice s26p s26l s26c), (.slice s27p s27l s27c)] ∧ (2 = 2 ∧ K (.tuple ⟨[(.agg ⟨[(.slice s26p s26l s26c), (.slice s27p s27l s27c)]⟩), (.int .i64 y3.2.1)]⟩) w34)), ())

def f7 (p1 : Option Addr) (s1p : Option Addr) (s1l : Nat) (s1c : Nat) (w : World) (K : Value → World → Prop) : Prop := NewW [(.slice none 0 0), (.slice none 0 0)] 37 w fun a1 w1 => NewW [(.pointer p1), (.slice none 0 0), (.map (some (World.heap w1).size))] 74 (World.alloc w1 (.map #[] 0)) fun a2 w2 => NewW [(.slice none 0 0), (.slice none 0 0)] 37 w2 fun a3 w3 => LoopP Pg 73 f7_l0_B f7_l0_A ⟨(some a1), (some a2), (some a3), ⟨s1p, s1l, s1c⟩, ((s1l : Nat) : Int), 0, ()⟩ w3 (fun (y1 : Tup f7_l0_o0) (w10 : World) => f7_j1 y1.1 y1.2.1 y1.2.2.1 w10 K, fun (y4 : Tup f7_l0_or) (w35 : World) => NN y4.1 fun a28 => ∃ (s28p : Option Addr) (s28l : Nat) (s28c : Nat) (s29p : Option Addr) (s29l : Nat) (s29c : Nat), (CellsAt w35 a28 0 [(.slice s28p s28l s28c), (.slice s29p s29l s29c)] ∧ (2 = 2 ∧ K (.tuple ⟨[(.agg ⟨[(.slice s28p s28l s28c), (.slice s29p s29l s29c)]⟩), (.int .i64 y4.2.1)]⟩) w35)), ())
theorem f7_ret {p1 : Option Addr} {s1p : Option Addr} {s1l : Nat} {s1c : Nat} {w : World} {K : Value → World → Prop} (h : f7 p1 s1p s1l s1c w K) : Ret Pg 7 [(.pointer p1), (.slice s1p s1l s1c)] w K :=
  ret_of_WP (ann := f7_ann) (c := bodyOf Try.f7) follows Try.func7 rfl (by kernel_rfl) (by
    have e : WP Pg 73 f7_ann (bodyOf Try.f7) (retQ Pg Try.f7.results.toList K) (initEnv 0 [(.pointer p1), (.slice s1p s1l s1c)]) w = f7 p1 s1p s1l s1c w K := by kernel_rfl
    rw [← e] at h; exact h)

-- (besom/graph.Form).Words
noncomputable def f8_l0_B : Code := sub [1, 1, 0, 1, 0, 0] (bodyOf Try.f8)
@[reducible] def f8_l0_o0 : List (Nat × Sh) := [(3, .one (.int .i64))]
@[reducible] def f8_l0_A : Ann := ⟨[(3, .one (.int .i64)), (7, .one (.sl)), (8, .one (.int .i64)), (9, .one (.int .i64))], [(some 0, f8_l0_o0)]⟩
def f8_ann : Nat → Option Ann := fun r => cond (Nat.beq r 3) (some f8_l0_A) (none)
def f8_l0 (n4 : Int) (s5 : Sl) (n5 : Int) (n6 : Int) (w : World) (Kn : Tup f8_l0_A.ins → World → Prop) (K0 : Tup f8_l0_o0 → World → Prop) : Prop := bif (decide (n6 < n5)) then (0 ≤ n6 ∧ n6 < ((s5.len : Nat) : Int) ∧ NN s5.at_ fun a2 => ∃ (n7 : Int) (s6p : Option Addr) (s6l : Nat) (s6c : Nat) (s7p : Option Addr) (s7l : Nat) (s7c : Nat), (CellsAt w (Addr.at_ a2 n6 3) 0 [(.int .i64 n7), (.slice s6p s6l s6c), (.slice s7p s7l s7c)] ∧ (3 = 3 ∧ NewW [(.int .i64 0), (.slice none 0 0), (.slice none 0 0)] 78 w fun a3 w2 => St w2 a3 (.int .i64 n7) fun w3 => St w3 (a3.add 1) (.slice s6p s6l s6c) fun w4 => St w4 (a3.add 2) (.slice s7p s7l s7c) fun w5 => LS w5 (a3.add 1) fun s8p s8l s8c => LS w5 (a3.add 2) fun s9p s9l s9c => Kn ⟨(IntKind.wrap .i64 (n4 + (IntKind.wrap .i64 ((IntKind.wrap .i64 (1 + ((s8l : Nat) : Int))) + ((s9l : Nat) : Int))))), ⟨s5.at_, s5.len, s5.cap⟩, n5, (IntKind.wrap .i64 (n6 + 1)), ()⟩ w5))) else (K0 ⟨n4, ()⟩ w)
theorem f8_l0_eq (n4 : Int) (s5 : Sl) (n5 : Int) (n6 : Int) (w : World) (Kn : Tup f8_l0_A.ins → World → Prop) (K0 : Tup f8_l0_o0 → World → Prop) : WP Pg 25 f8_ann f8_l0_B (bodyQ f8_l0_A (K0, ()) Kn) (mkEnv f8_l0_A.ins ⟨n4, s5, n5, n6, ()⟩) w = f8_l0 n4 s5 n5 n6 w Kn K0 := by kernel_rfl

def f8 (s1p : Option Addr) (s1l : Nat) (s1c : Nat) (s2p : Option Addr) (s2l : Nat) (s2c : Nat) (w : World) (K : Value → World → Prop) : Prop := NewW [(.slice s1p s1l s1c), (.slice s2p s2l s2c)] 37 w fun a1 w1 => LS w1 (a1.add 1) fun s3p s3l s3c => LoopP Pg 25 f8_l0_B f8_l0_A ⟨0, ⟨s3p, s3l, s3c⟩, ((s3l : Nat) : Int), 0, ()⟩ w1 (fun (y1 : Tup f8_l0_o0) (w6 : World) => K (.int .i64 y1.1) w6, ())
theorem f8_ret {s1p : Option Addr} {s1l : Nat} {s1c : Nat} {s2p : Option Addr} {s2l : Nat} {s2c : Nat} {w : World} {K : Value → World → Prop} (h : f8 s1p s1l s1c s2p s2l s2c w K) : Ret Pg 8 [(.agg ⟨[(.slice s1p s1l s1c), (.slice s2p s2l s2c)]⟩)] w K :=
  ret_of_WP (ann := f8_ann) (c := bodyOf Try.f8) follows Try.func8 rfl (by kernel_rfl) (by
    have e : WP Pg 25 f8_ann (bodyOf Try.f8) (retQ Pg Try.f8.results.toList K) (initEnv 0 [(.agg ⟨[(.slice s1p s1l s1c), (.slice s2p s2l s2c)]⟩)]) w = f8 s1p s1l s1c s2p s2l s2c w K := by kernel_rfl
    rw [← e] at h; exact h)

-- (besom/graph.Form).Heap
noncomputable def f9_l0_B : Code := sub [1, 1, 1, 1, 0, 1, 0, 0] (bodyOf Try.f9)
@[reducible] def f9_l0_o0 : List (Nat × Sh) := [(2, .one (.ptr)), (7, .one (.ptr)), (9, .one (.ptr))]
@[reducible] def f9_l0_or : List (Nat × Sh) := [(4, .one (.ptr)), (5, .one (.sl)), (6, .one (.int .i64))]
@[reducible] def f9_l0_A : Ann := ⟨[(2, .one (.ptr)), (7, .one (.ptr)), (9, .one (.ptr)), (34, .one (.sl)), (35, .one (.int .i64)), (36, .one (.int .i64))], [(some 0, f9_l0_o0), (none, f9_l0_or)]⟩
noncomputable def f9_l1_B : Code := sub [1, 1, 1, 1, 1, 1, 0, 1, 0, 0] (bodyOf Try.f9)
@[reducible] def f9_l1_o2 : List (Nat × Sh) := [(2, .one (.ptr)), (7, .one (.ptr)), (9, .one (.ptr)), (14, .one (.raw))]
@[reducible] def f9_l1_or : List (Nat × Sh) := [(4, .one (.ptr)), (5, .one (.sl)), (6, .one (.int .i64))]
@[reducible] def f9_l1_A : Ann := ⟨[(2, .one (.ptr)), (7, .one (.ptr)), (9, .one (.ptr)), (14, .one (.raw)), (62, .one (.sl)), (63, .one (.int .i64)), (64, .one (.int .i64))], [(some 2, f9_l1_o2), (none, f9_l1_or)]⟩
noncomputable def f9_l2_B : Code := sub [1, 1, 1, 1, 1, 1, 0, 1, 0, 0, 1, 1, 0, 0, 1, 0, 1, 0, 0] (bodyOf Try.f9)
@[reducible] def f9_l2_o4 : List (Nat × Sh) := [(2, .one (.ptr)), (7, .one (.ptr)), (9, .one (.ptr)), (14, .one (.raw)), (15, .one (.int .i64)), (16, .one (.ptr)), (62, .one (.sl)), (63, .one (.int .i64)), (64, .one (.int .i64))]
@[reducible] def f9_l2_or : List (Nat × Sh) := [(4, .one (.ptr)), (5, .one (.sl)), (6, .one (.int .i64))]
@[reducible] def f9_l2_A : Ann := ⟨[(2, .one (.ptr)), (7, .one (.ptr)), (9, .one (.ptr)), (14, .one (.raw)), (15, .one (.int .i64)), (16, .one (.ptr)), (62, .one (.sl)), (63, .one (.int .i64)), (64, .one (.int .i64)), (70, .one (.sl)), (71, .one (.int .i64)), (72, .one (.int .i64))], [(some 4, f9_l2_o4), (none, f9_l2_or)]⟩
noncomputable def f9_l3_B : Code := sub [1, 1, 1, 1, 1, 1, 0, 1, 0, 0, 1, 1, 0, 0, 1, 1, 1, 0, 0] (bodyOf Try.f9)
@[reducible] def f9_l3_o6 : List (Nat × Sh) := [(2, .one (.ptr)), (7, .one (.ptr)), (9, .one (.ptr)), (14, .one (.raw)), (62, .one (.sl)), (63, .one (.int .i64)), (64, .one (.int .i64))]
@[reducible] def f9_l3_A : Ann := ⟨[(2, .one (.ptr)), (7, .one (.ptr)), (9, .one (.ptr)), (14, .one (.raw)), (15, .one (.int .i64)), (16, .one (.ptr)), (62, .one (.sl)), (63, .one (.int .i64)), (64, .one (.int .i64)), (96, .one (.sl)), (97, .one (.int .i64)), (98, .one (.int .i64))], [(some 6, f9_l3_o6)]⟩
noncomputable def f9_l4_B : Code := sub [1, 1, 1, 1, 1, 1, 1, 1, 0, 1, 0, 0] (bodyOf Try.f9)
@[reducible] def f9_l4_o8 : List (Nat × Sh) := [(7, .one (.ptr)), (21, .one (.sl))]
@[reducible] def f9_l4_or : List (Nat × Sh) := [(4, .one (.ptr)), (5, .one (.sl)), (6, .one (.int .i64))]
@[reducible] def f9_l4_A : Ann := ⟨[(7, .one (.ptr)), (9, .one (.ptr)), (14, .one (.raw)), (21, .one (.sl)), (120, .one (.sl)), (121, .one (.int .i64)), (122, .one (.int .i64))], [(some 8, f9_l4_o8), (none, f9_l4_or)]⟩
def f9_ann : Nat → Option Ann := fun r => cond (Nat.beq r 6) (some f9_l0_A) (cond (Nat.beq r 15) (some f9_l1_A) (cond (Nat.beq r 18) (some f9_l2_A) (cond (Nat.beq r 25) (some f9_l3_A) (cond (Nat.beq r 32) (some f9_l4_A) (none)))))
def f9_l4 (p26 : Option Addr) (p27 : Option Addr) (v6 : Value) (s23 : Sl) (s24 : Sl) (n25 : Int) (n26 : Int) (w : World) (Kn : Tup f9_l4_A.ins → World → Prop) (K8 : Tup f9_l4_o8 → World → Prop) (Kr : Tup f9_l4_or → World → Prop) : Prop := bif (decide (n26 < n25)) then (0 ≤ n26 ∧ n26 < ((s24.len : Nat) : Int) ∧ NN s24.at_ fun a14 => LI w (Addr.at_ a14 n26 1) fun n27 => CvW Pg true v6 [(.int .i64 n27)] w fun r4 w24 => ∃ (b1 : Bool), r4 = (.bool b1) ∧ bif (!b1) then (Kr ⟨none, ⟨none, 0, 0⟩, 1, ()⟩ w24) else (NN p27 fun a15 => LS w24 a15 fun s25p s25l s25c => 0 ≤ n27 ∧ n27 < ((s25l : Nat) : Int) ∧ NN s25p fun a16 => LI w24 (Addr.at_ a16 n27 1) fun n28 => NewW [(.int .i64 n28)] 3 w24 fun a17 w25 => ApW Pg 29 29 (.slice s23.at_ s23.len s23.cap) (.slice (some a17) 1 1) w25 fun s26p s26l s26c w26 => Kn ⟨p26, p27, v6, ⟨s26p, s26l, s26c⟩, ⟨s24.at_, s24.len, s24.cap⟩, n25, (IntKind.wrap .i64 (n26 + 1)), ()⟩ w26)) else (K8 ⟨p26, ⟨s23.at_, s23.len, s23.cap⟩, ()⟩ w)
theorem f9_l4_eq (p26 : Option Addr) (p27 : Option Addr) (v6 : Value) (s23 : Sl) (s24 : Sl) (n25 : Int) (n26 : Int) (w : World) (Kn : Tup f9_l4_A.ins → World → Prop) (K8 : Tup f9_l4_o8 → World → Prop) (Kr : Tup f9_l4_or → World → Prop) : WP Pg 140 f9_ann f9_l4_B (bodyQ f9_l4_A (K8, Kr, ()) Kn) (mkEnv f9_l4_A.ins ⟨p26, p27, v6, s23, s24, n25, n26, ()⟩) w = f9_l4 p26 p27 v6 s23 s24 n25 n26 w Kn K8 Kr := by kernel_rfl

def f9_l3 (p26 : Option Addr) (p27 : Option Addr) (p28 : Option Addr) (v5 : Value) (n37 : Int) (p29 : Option Addr) (s26 : Sl) (n38 : Int) (n39 : Int) (s27 : Sl) (n40 : Int) (n41 : Int) (w : World) (Kn : Tup f9_l3_A.ins → World → Prop) (K6 : Tup f9_l3_o6 → World → Prop) : Prop := bif (decide (n41 < n40)) then (0 ≤ n41 ∧ n41 < ((s27.len : Nat) : Int) ∧ NN s27.at_ fun a18 => LI w (Addr.at_ a18 n41 1) fun n42 => NN p28 fun a19 => LS w.drew a19 fun s28p s28l s28c => 0 ≤ (IntKind.wrap .i64 (n37 + 1)) ∧ (IntKind.wrap .i64 (n37 + 1)) < ((s28l : Nat) : Int) ∧ NN s28p fun a20 => LI w.drew (Addr.at_ a20 (IntKind.wrap .i64 (n37 + 1)) 1) fun n43 => NN p29 fun a21 => LS w.drew (a21.add 1) fun s29p s29l s29c => Ret Pg 20 [(.pointer p27), (.int .i64 (IntKind.wrap .i64 (n43 - 1))), (.int .i64 (IntKind.wrap .i64 (((s29l : Nat) : Int) + n41))), (.int .i64 n42)] w.drew fun r6 w23 => ∃ (n44 : Int), r6 = (.int .i64 n44) ∧ Kn ⟨p26, p27, p28, v5, n37, p29, ⟨s26.at_, s26.len, s26.cap⟩, n38, n39, ⟨s27.at_, s27.len, s27.cap⟩, n40, (IntKind.wrap .i64 (n41 + 1)), ()⟩ w23) else (K6 ⟨p26, p27, p28, v5, ⟨s26.at_, s26.len, s26.cap⟩, n38, n39, ()⟩ w)
theorem f9_l3_eq (p26 : Option Addr) (p27 : Option Addr) (p28 : Option Addr) (v5 : Value) (n37 : Int) (p29 : Option Addr) (s26 : Sl) (n38 : Int) (n39 : Int) (s27 : Sl) (n40 : Int) (n41 : Int) (w : World) (Kn : Tup f9_l3_A.ins → World → Prop) (K6 : Tup f9_l3_o6 → World → Prop) : WP Pg 140 f9_ann f9_l3_B (bodyQ f9_l3_A (K6, ()) Kn) (mkEnv f9_l3_A.ins ⟨p26, p27, p28, v5, n37, p29, s26, n38, n39, s27, n40, n41, ()⟩) w = f9_l3 p26 p27 p28 v5 n37 p29 s26 n38 n39 s27 n40 n41 w Kn K6 := by kernel_rfl

def f9_l2 (p18 : Option Addr) (p19 : Option Addr) (p20 : Option Addr) (v3 : Value) (n23 : Int) (p21 : Option Addr) (s19 : Sl) (n24 : Int) (n25 : Int) (s20 : Sl) (n26 : Int) (n27 : Int) (w : World) (Kn : Tup f9_l2_A.ins → World → Prop) (K4 : Tup f9_l2_o4 → World → Prop) (Kr : Tup f9_l2_or → World → Prop) : Prop := bif (decide (n27 < n26)) then (0 ≤ n27 ∧ n27 < ((s20.len : Nat) : Int) ∧ NN s20.at_ fun a12 => LI w (Addr.at_ a12 n27 1) fun n28 => CvW Pg true v3 [(.int .i64 n28)] w fun r4 w20 => ∃ (b1 : Bool), r4 = (.bool b1) ∧ bif (!b1) then (Kr ⟨none, ⟨none, 0, 0⟩, 1, ()⟩ w20) else (NN p20 fun a13 => LS w20.drew a13 fun s21p s21l s21c => 0 ≤ (IntKind.wrap .i64 (n23 + 1)) ∧ (IntKind.wrap .i64 (n23 + 1)) < ((s21l : Nat) : Int) ∧ NN s21p fun a14 => LI w20.drew (Addr.at_ a14 (IntKind.wrap .i64 (n23 + 1)) 1) fun n29 => NN p20 fun a15 => LS w20.drew a15 fun s22p s22l s22c => 0 ≤ n28 ∧ n28 < ((s22l : Nat) : Int) ∧ NN s22p fun a16 => LI w20.drew (Addr.at_ a16 n28 1) fun n30 => Ret Pg 20 [(.pointer p19), (.int .i64 (IntKind.wrap .i64 (n29 - 1))), (.int .i64 n27), (.int .i64 n30)] w20.drew fun r5 w21 => ∃ (n31 : Int), r5 = (.int .i64 n31) ∧ Kn ⟨p18, p19, p20, v3, n23, p21, ⟨s19.at_, s19.len, s19.cap⟩, n24, n25, ⟨s20.at_, s20.len, s20.cap⟩, n26, (IntKind.wrap .i64 (n27 + 1)), ()⟩ w21)) else (K4 ⟨p18, p19, p20, v3, n23, p21, ⟨s19.at_, s19.len, s19.cap⟩, n24, n25, ()⟩ w)
theorem f9_l2_eq (p18 : Option Addr) (p19 : Option Addr) (p20 : Option Addr) (v3 : Value) (n23 : Int) (p21 : Option Addr) (s19 : Sl) (n24 : Int) (n25 : Int) (s20 : Sl) (n26 : Int) (n27 : Int) (w : World) (Kn : Tup f9_l2_A.ins → World → Prop) (K4 : Tup f9_l2_o4 → World → Prop) (Kr : Tup f9_l2_or → World → Prop) : WP Pg 140 f9_ann f9_l2_B (bodyQ f9_l2_A (K4, Kr, ()) Kn) (mkEnv f9_l2_A.ins ⟨p18, p19, p20, v3, n23, p21, s19, n24, n25, s20, n26, n27, ()⟩) w = f9_l2 p18 p19 p20 v3 n23 p21 s19 n24 n25 s20 n26 n27 w Kn K4 Kr := by kernel_rfl

def f9_j2 (p17 : Option Addr) (p18 : Option Addr) (p19 : Option Addr) (v3 : Value) (n20 : Int) (p20 : Option Addr) (s18p : Option Addr) (s18l : Nat) (s18c : Nat) (n21 : Int) (n22 : Int) (w : World) (Kn : Tup f9_l1_A.ins → World → Prop) (K2 : Tup f9_l1_o2 → World → Prop) (Kr : Tup f9_l1_or → World → Prop) : Prop := NN p20 fun a12 => LS w (a12.add 2) fun s19p s19l s19c => LoopP Pg 140 f9_l3_B f9_l3_A ⟨p17, p18, p19, v3, n20, p20, ⟨s18p, s18l, s18c⟩, n21, n22, ⟨s19p, s19l, s19c⟩, ((s19l : Nat) : Int), 0, ()⟩ w (fun (y3 : Tup f9_l3_o6) (w21 : World) => Kn ⟨y3.1, y3.2.1, y3.2.2.1, y3.2.2.2.1, ⟨y3.2.2.2.2.1.at_, y3.2.2.2.2.1.len, y3.2.2.2.2.1.cap⟩, y3.2.2.2.2.2.1, (IntKind.wrap .i64 (y3.2.2.2.2.2.2.1 + 1)), ()⟩ w21, ())

def f9_l1 (p14 : Option Addr) (p15 : Option Addr) (p16 : Option Addr) (v2 : Value) (s14 : Sl) (n17 : Int) (n18 : Int) (w : World) (Kn : Tup f9_l1_A.ins → World → Prop) (K2 : Tup f9_l1_o2 → World → Prop) (Kr : Tup f9_l1_or → World → Prop) : Prop := bif (decide (n18 < n17)) then (0 ≤ n18 ∧ n18 < ((s14.len : Nat) : Int) ∧ NN s14.at_ fun a10 => ∃ (n19 : Int) (s15p : Option Addr) (s15l : Nat) (s15c : Nat) (s16p : Option Addr) (s16l : Nat) (s16c : Nat), (CellsAt w (Addr.at_ a10 n18 3) 0 [(.int .i64 n19), (.slice s15p s15l s15c), (.slice s16p s16l s16c)] ∧ (3 = 3 ∧ NewW [(.int .i64 0), (.slice none 0 0), (.slice none 0 0)] 78 w fun a11 w16 => St w16 a11 (.int .i64 n19) fun w17 => St w17 (a11.add 1) (.slice s15p s15l s15c) fun w18 => St w18 (a11.add 2) (.slice s16p s16l s16c) fun w19 => LS w19 (a11.add 1) fun s17p s17l s17c => LoopP Pg 140 f9_l2_B f9_l2_A ⟨p14, p15, p16, v2, n18, (some a11), ⟨s14.at_, s14.len, s14.cap⟩, n17, n18, ⟨s17p, s17l, s17c⟩, ((s17l : Nat) : Int), 0, ()⟩ w19 (fun (y2 : Tup f9_l2_o4) (w20 : World) => f9_j2 y2.1 y2.2.1 y2.2.2.1 y2.2.2.2.1 y2.2.2.2.2.1 y2.2.2.2.2.2.1 y2.2.2.2.2.2.2.1.at_ y2.2.2.2.2.2.2.1.len y2.2.2.2.2.2.2.1.cap y2.2.2.2.2.2.2.2.1 y2.2.2.2.2.2.2.2.2.1 w20 Kn K2 Kr, fun (y4 : Tup f9_l2_or) (w22 : World) => Kr ⟨y4.1, ⟨y4.2.1.at_, y4.2.1.len, y4.2.1.cap⟩, y4.2.2.1, ()⟩ w22, ())))) else (K2 ⟨p14, p15, p16, v2, ()⟩ w)
theorem f9_l1_eq (p14 : Option Addr) (p15 : Option Addr) (p16 : Option Addr) (v2 : Value) (s14 : Sl) (n17 : Int) (n18 : Int) (w : World) (Kn : Tup f9_l1_A.ins → World → Prop) (K2 : Tup f9_l1_o2 → World → Prop) (Kr : Tup f9_l1_or → World → Prop) : WP Pg 140 f9_ann f9_l1_B (bodyQ f9_l1_A (K2, Kr, ()) Kn) (mkEnv f9_l1_A.ins ⟨p14, p15, p16, v2, s14, n17, n18, ()⟩) w = f9_l1 p14 p15 p16 v2 s14 n17 n18 w Kn K2 Kr := by kernel_rfl

def f9_l0 (p5 : Option Addr) (p6 : Option Addr) (p7 : Option Addr) (s5 : Sl) (n5 : Int) (n6 : Int) (w : World) (Kn : Tup f9_l0_A.ins → World → Prop) (K0 : Tup f9_l0_o0 → World → Prop) (Kr : Tup f9_l0_or → World → Prop) : Prop := bif (decide (n6 < n5)) then (0 ≤ n6 ∧ n6 < ((s5.len : Nat) : Int) ∧ NN s5.at_ fun a4 => ∃ (n7 : Int) (s6p : Option Addr) (s6l : Nat) (s6c : Nat) (s7p : Option Addr) (s7l : Nat) (s7c : Nat), (CellsAt w (Addr.at_ a4 n6 3) 0 [(.int .i64 n7), (.slice s6p s6l s6c), (.slice s7p s7l s7c)] ∧ (3 = 3 ∧ NewW [(.int .i64 0), (.slice none 0 0), (.slice none 0 0)] 78 w fun a5 w6 => St w6 a5 (.int .i64 n7) fun w7 => St w7 (a5.add 1) (.slice s6p s6l s6c) fun w8 => St w8 (a5.add 2) (.slice s7p s7l s7c) fun w9 => ∃ (n8 : Int) (s8p : Option Addr) (s8l : Nat) (s8c : Nat) (s9p : Option Addr) (s9l : Nat) (s9c : Nat), (CellsAt w9 a5 0 [(.int .i64 n8), (.slice s8p s8l s8c), (.slice s9p s9l s9c)] ∧ (3 = 3 ∧ Ret Pg 25 [(.agg ⟨[(.int .i64 n8), (.slice s8p s8l s8c), (.slice s9p s9l s9c)]⟩)] w9 fun r2 w10 => ∃ (n9 : Int) (n10 : Int) (n11 : Int), r2 = (.agg ⟨[(.int .i64 n9), (.int .i64 n10), (.int .i64 n11)]⟩) ∧ Ret Pg 18 [(.pointer p6), (.agg ⟨[(.int .i64 n9), (.int .i64 n10), (.int .i64 n11)]⟩)] w10 fun r3 w11 => ∃ (n12 : Int), ∃ (n13 : Int), r3 = (.tuple ⟨[(.int .i64 n12), (.int .i64 n13)]⟩) ∧ bif (n13 != 0) then (Kr ⟨none, ⟨none, 0, 0⟩, 1, ()⟩ w11) else (LI w11 a5 fun n14 => bif (n14 == 15) then (Kr ⟨none, ⟨none, 0, 0⟩, 1, ()⟩ w11) else (NN p7 fun a6 => LS w11 a6 fun s10p s10l s10c => NewW [(.int .i64 (IntKind.wrap .i64 (1 + n12)))] 3 w11 fun a7 w12 => ApW Pg 29 29 (.slice s10p s10l s10c) (.slice (some a7) 1 1) w12 fun s11p s11l s11c w13 => NN p7 fun a8 => St w13 a8 (.slice s11p s11l s11c) fun w14 => Kn ⟨p5, p6, p7, ⟨s5.at_, s5.len, s5.cap⟩, n5, (IntKind.wrap .i64 (n6 + 1)), ()⟩ w14))))))) else (K0 ⟨p5, p6, p7, ()⟩ w)
theorem f9_l0_eq (p5 : Option Addr) (p6 : Option Addr) (p7 : Option Addr) (s5 : Sl) (n5 : Int) (n6 : Int) (w : World) (Kn : Tup f9_l0_A.ins → World → Prop) (K0 : Tup f9_l0_o0 → World → Prop) (Kr : Tup f9_l0_or → World → Prop) : WP Pg 140 f9_ann f9_l0_B (bodyQ f9_l0_A (K0, Kr, ()) Kn) (mkEnv f9_l0_A.ins ⟨p5, p6, p7, s5, n5, n6, ()⟩) w = f9_l0 p5 p6 p7 s5 n5 n6 w Kn K0 Kr := by kernel_rfl

def f9_j3 (p21 : Option Addr) (p22 : Option Addr) (p23 : Option Addr) (v4 : Value) (w : World) (K : Value → World → Prop) : Prop := NN p21 fun a13 => LS w a13 fun s20p s20l s20c => LoopP Pg 140 f9_l4_B f9_l4_A ⟨p22, p23, v4, ⟨none, 0, 0⟩, ⟨s20p, s20l, s20c⟩, ((s20l : Nat) : Int), 0, ()⟩ w (fun (y6 : Tup f9_l4_o8) (w27 : World) => K (.tuple ⟨[(.pointer y6.1), (.slice y6.2.1.at_ y6.2.1.len y6.2.1.cap), (.int .i64 0)]⟩) w27, fun (y7 : Tup f9_l4_or) (w28 : World) => K (.tuple ⟨[(.pointer y7.1), (.slice y7.2.1.at_ y7.2.1.len y7.2.1.cap), (.int .i64 y7.2.2.1)]⟩) w28, ())

def f9_j1 (p8 : Option Addr) (p9 : Option Addr) (p10 : Option Addr) (w : World) (K : Value → World → Prop) : Prop := NN p8 fun a9 => LS w (a9.add 1) fun s12p s12l s12c => LoopP Pg 140 f9_l1_B f9_l1_A ⟨p8, p9, p10, (.func (.func 26) ⟨[]⟩ ⟨[(.pointer p10)]⟩), ⟨s12p, s12l, s12c⟩, ((s12l : Nat) : Int), 0, ()⟩ w (fun (y5 : Tup f9_l1_o2) (w23 : World) => f9_j3 y5.1 y5.2.1 y5.2.2.1 y5.2.2.2.1 w23 K, fun (y8 : Tup f9_l1_or) (w29 : World) => K (.tuple ⟨[(.pointer y8.1), (.slice y8.2.1.at_ y8.2.1.len y8.2.1.cap), (.int .i64 y8.2.2.1)]⟩) w29, ())

def f9 (s1p : Option Addr) (s1l : Nat) (s1c : Nat) (s2p : Option Addr) (s2l : Nat) (s2c : Nat) (n1 : Int) (w : World) (K : Value → World → Prop) : Prop := NewW [(.slice s1p s1l s1c), (.slice s2p s2l s2c)] 37 w fun a1 w1 => Ret Pg 17 [(.int .i64 n1)] w1 fun r1 w2 => ∃ (p1 : Option Addr), ∃ (n2 : Int), r1 = (.tuple ⟨[(.pointer p1), (.int .i64 n2)]⟩) ∧ bif (n2 != 0) then (K (.tuple ⟨[(.pointer none), (.slice none 0 0), (.int .i64 n2)]⟩) w2) else (NewW [(.int .i64 0)] 3 w2 fun a2 w3 => NewW [(.slice none 0 0)] 29 w3 fun a3 w4 => St w4 a3 (.slice (some a2) 1 1) fun w5 => LS w5 (a1.add 1) fun s3p s3l s3c => LoopP Pg 140 f9_l0_B f9_l0_A ⟨(some a1), p1, (some a3), ⟨s3p, s3l, s3c⟩, ((s3l : Nat) : Int), 0, ()⟩ w5 (fun (y1 : Tup f9_l0_o0) (w15 : World) => f9_j1 y1.1 y1.2.1 y1.2.2.1 w15 K, fun (y9 : Tup f9_l0_or) (w30 : World) => K (.tuple ⟨[(.pointer y9.1), (.slice y9.2.1.at_ y9.2.1.len y9.2.1.cap), (.int .i64 y9.2.2.1)]⟩) w30, ()))
theorem f9_ret {s1p : Option Addr} {s1l : Nat} {s1c : Nat} {s2p : Option Addr} {s2l : Nat} {s2c : Nat} {n1 : Int} {w : World} {K : Value → World → Prop} (h : f9 s1p s1l s1c s2p s2l s2c n1 w K) : Ret Pg 9 [(.agg ⟨[(.slice s1p s1l s1c), (.slice s2p s2l s2c)]⟩), (.int .i64 n1)] w K :=
  ret_of_WP (ann := f9_ann) (c := bodyOf Try.f9) follows Try.func9 rfl (by kernel_rfl) (by
    have e : WP Pg 140 f9_ann (bodyOf Try.f9) (retQ Pg Try.f9.results.toList K) (initEnv 0 [(.agg ⟨[(.slice s1p s1l s1c), (.slice s2p s2l s2c)]⟩), (.int .i64 n1)]) w = f9 s1p s1l s1c s2p s2l s2c n1 w K := by kernel_rfl
    rw [← e] at h; exact h)

-- besom/tally.Of
def f10_ann : Nat → Option Ann := fun _ => none
noncomputable def f10_Ra : Code := sub [1, 1, 0, 1, 0, 0] (bodyOf Try.f10)
noncomputable def f10_Rb : Code := sub [1, 1, 0, 1, 0, 1] (bodyOf Try.f10)
@[reducible] def f10_RA : List (Nat × Sh) := [(3, .one (.ptr))]
def f10_r (p1 : Option Addr) (n1 : Int) (n2 : Int) (n3 : Int) (n4 : Int) (l : Nat) (rec : Loop) (pd : Option Code) (w : World) (K : Value → World → Prop) : Prop := NewW [(.int .i64 0), (.int .i64 0), (.int .i64 0)] 64 w fun a1 w1 => St w1 a1 (.int .i64 n2) fun w2 => St w2 (a1.add 1) (.int .i64 n3) fun w3 => St w3 (a1.add 2) (.int .i64 n4) fun w4 => BusyW w4 l rec pd fun w5 => LI w5 a1 fun n5 => LI w5 (a1.add 1) fun n6 => Ret Pg 29 [(.pointer p1), (.int .i64 n5), (.int .i64 (IntKind.wrap .i64 (1 + n6)))] w5 fun r1 w6 => r1 = (.tuple ⟨[]⟩) ∧ EndW w6 l rec K
theorem f10_yield {p1 : Option Addr} {n1 : Int} {n2 : Int} {n3 : Int} {n4 : Int} {l : Nat} {rec : Loop} {st : LoopState} {pd : Option Code} {w : World} {K : Value → World → Prop} (hr : RecOf 20 (mkEnv f10_RA ⟨p1, ()⟩) ⟨[11, 12]⟩ f10_Ra f10_Rb rec) (hl : LoopAt w l rec st pd) (h : f10_r p1 n1 n2 n3 n4 l rec pd w K) : YieldW Pg l [(.int .i64 n1), (.agg ⟨[(.int .i64 n2), (.int .i64 n3), (.int .i64 n4)]⟩)] w K :=
  yieldW_of (ann := f10_ann) follows hr hl rfl rfl (by
    have e : WP Pg 20 f10_ann f10_Ra (asgQ Pg 20 f10_ann f10_Rb l rec pd K) (zipEnv [11, 12] [(.int .i64 n1), (.agg ⟨[(.int .i64 n2), (.int .i64 n3), (.int .i64 n4)]⟩)] (mkEnv f10_RA ⟨p1, ()⟩)) w = f10_r p1 n1 n2 n3 n4 l rec pd w K := by kernel_rfl
    rw [← e] at h; exact h)

def f10 (p1 : Option Addr) (w : World) (K : Value → World → Prop) : Prop := NewW (List.replicate 33 ((.int .i64 0) : Value)) 48 w fun a1 w1 => Ret Pg 27 [(.pointer p1)] w1 fun r1 w2 => ∃ (n1 : Int), r1 = (.int .i64 n1) ∧ NewW (List.replicate 33 ((.int .i64 0) : Value)) 48 w2 fun a2 w3 => Sts a2 0 (List.replicate 32 ((.int .i64 0) : Value) ++ [(.int .i64 n1)]) w3 fun w4 => Ret Pg 28 [(.pointer p1)] w4 fun r2 w5 => ∃ (v1 : Value), r2 = v1 ∧ RangeP Pg 20 ⟨[11, 12]⟩ f10_Ra f10_Rb (mkEnv f10_RA ⟨(some a2), ()⟩) v1 w5 (fun w6 => ∃ (vs1 : List Value), (CellsAt w6 a2 0 vs1 ∧ (List.length vs1 = 33 ∧ LenIs 33 vs1 (Sts a1 0 vs1 w6 fun w8 => takeW (some (Array.size (World.heap w5))) w8 fun w9 => ∃ (vs2 : List Value), (CellsAt w9 a1 0 vs2 ∧ (List.length vs2 = 33 ∧ K (.agg ⟨vs2⟩) w9)))))) (fun w7 => takeW (some (Array.size (World.heap w5))) w7 fun w10 => ∃ (vs3 : List Value), (CellsAt w10 a1 0 vs3 ∧ (List.length vs3 = 33 ∧ K (.agg ⟨vs3⟩) w10)))
theorem f10_ret {p1 : Option Addr} {w : World} {K : Value → World → Prop} (h : f10 p1 w K) : Ret Pg 10 [(.pointer p1)] w K :=
  ret_of_WPF (ann := f10_ann) (A := f10_RA) (c := bodyOf Try.f10) follows Try.func10 rfl (by kernel_rfl) (by
    have e : WPF Pg 20 f10_ann f10_RA (bodyOf Try.f10) (retF Pg Try.f10.results.toList K) (initEnv 0 [(.pointer p1)]) w = f10 p1 w K := by kernel_rfl
    rw [← e] at h; exact h)

-- besom/tally.Live
noncomputable def f11_l0_B : Code := sub [1, 0, 1, 1, 0, 1, 0, 0] (bodyOf Try.f11)
@[reducible] def f11_l0_o0 : List (Nat × Sh) := [(4, .one (.ptr)), (5, .one (.ptr))]
@[reducible] def f11_l0_A : Ann := ⟨[(4, .one (.ptr)), (5, .one (.ptr)), (11, .one (.sl)), (12, .one (.int .i64)), (13, .one (.int .i64))], [(some 0, f11_l0_o0)]⟩
def f11_ann : Nat → Option Ann := fun r => cond (Nat.beq r 3) (some f11_l0_A) (none)
def f11_l0 (p3 : Option Addr) (p4 : Option Addr) (s5 : Sl) (n4 : Int) (n5 : Int) (w : World) (Kn : Tup f11_l0_A.ins → World → Prop) (K0 : Tup f11_l0_o0 → World → Prop) : Prop := bif (decide (n5 < n4)) then (0 ≤ n5 ∧ n5 < ((s5.len : Nat) : Int) ∧ NN s5.at_ fun a4 => ∃ (n6 : Int) (s6p : Option Addr) (s6l : Nat) (s6c : Nat) (s7p : Option Addr) (s7l : Nat) (s7c : Nat), (CellsAt w (Addr.at_ a4 n5 3) 0 [(.int .i64 n6), (.slice s6p s6l s6c), (.slice s7p s7l s7c)] ∧ (3 = 3 ∧ NewW [(.int .i64 0), (.slice none 0 0), (.slice none 0 0)] 78 w fun a5 w5 => St w5 a5 (.int .i64 n6) fun w6 => St w6 (a5.add 1) (.slice s6p s6l s6c) fun w7 => St w7 (a5.add 2) (.slice s7p s7l s7c) fun w8 => LI w8 a5 fun n7 => bif (decide (n7 < 0)) then (Kn ⟨p3, p4, ⟨s5.at_, s5.len, s5.cap⟩, n4, (IntKind.wrap .i64 (n5 + 1)), ()⟩ w8) else (LI w8 a5 fun n8 => bif (decide (n8 > 14)) then (Kn ⟨p3, p4, ⟨s5.at_, s5.len, s5.cap⟩, n4, (IntKind.wrap .i64 (n5 + 1)), ()⟩ w8) else (LI w8 a5 fun n9 => LS w8 (a5.add 1) fun s8p s8l s8c => LS w8 (a5.add 2) fun s9p s9l s9c => Ret Pg 29 [(.pointer p4), (.int .i64 n9), (.int .i64 (IntKind.wrap .i64 ((IntKind.wrap .i64 (1 + ((s8l : Nat) : Int))) + ((s9l : Nat) : Int))))] w8 fun r1 w9 => r1 = (.tuple ⟨[]⟩) ∧ Kn ⟨p3, p4, ⟨s5.at_, s5.len, s5.cap⟩, n4, (IntKind.wrap .i64 (n5 + 1)), ()⟩ w9))))) else (K0 ⟨p3, p4, ()⟩ w)
theorem f11_l0_eq (p3 : Option Addr) (p4 : Option Addr) (s5 : Sl) (n4 : Int) (n5 : Int) (w : World) (Kn : Tup f11_l0_A.ins → World → Prop) (K0 : Tup f11_l0_o0 → World → Prop) : WP Pg 38 f11_ann f11_l0_B (bodyQ f11_l0_A (K0, ()) Kn) (mkEnv f11_l0_A.ins ⟨p3, p4, s5, n4, n5, ()⟩) w = f11_l0 p3 p4 s5 n4 n5 w Kn K0 := by kernel_rfl

def f11 (s1p : Option Addr) (s1l : Nat) (s1c : Nat) (s2p : Option Addr) (s2l : Nat) (s2c : Nat) (n1 : Int) (w : World) (K : Value → World → Prop) : Prop := NewW [(.slice s1p s1l s1c), (.slice s2p s2l s2c)] 37 w fun a1 w1 => NewW (List.replicate 33 ((.int .i64 0) : Value)) 48 w1 fun a2 w2 => NewW (List.replicate 33 ((.int .i64 0) : Value)) 48 w2 fun a3 w3 => Sts a3 0 (List.replicate 32 ((.int .i64 0) : Value) ++ [(.int .i64 n1)]) w3 fun w4 => LS w4 (a1.add 1) fun s3p s3l s3c => LoopP Pg 38 f11_l0_B f11_l0_A ⟨(some a2), (some a3), ⟨s3p, s3l, s3c⟩, ((s3l : Nat) : Int), 0, ()⟩ w4 (fun (y1 : Tup f11_l0_o0) (w10 : World) => NN y1.2.1 fun a6 => ∃ (vs1 : List Value), (CellsAt w10 a6 0 vs1 ∧ (List.length vs1 = 33 ∧ NN y1.1 fun a7 => LenIs 33 vs1 (Sts a7 0 vs1 w10 fun w11 => NN y1.1 fun a8 => ∃ (vs2 : List Value), (CellsAt w11 a8 0 vs2 ∧ (List.length vs2 = 33 ∧ K (.agg ⟨vs2⟩) w11))))), ())
theorem f11_ret {s1p : Option Addr} {s1l : Nat} {s1c : Nat} {s2p : Option Addr} {s2l : Nat} {s2c : Nat} {n1 : Int} {w : World} {K : Value → World → Prop} (h : f11 s1p s1l s1c s2p s2l s2c n1 w K) : Ret Pg 11 [(.agg ⟨[(.slice s1p s1l s1c), (.slice s2p s2l s2c)]⟩), (.int .i64 n1)] w K :=
  ret_of_WP (ann := f11_ann) (c := bodyOf Try.f11) follows Try.func11 rfl (by kernel_rfl) (by
    have e : WP Pg 38 f11_ann (bodyOf Try.f11) (retQ Pg Try.f11.results.toList K) (initEnv 0 [(.agg ⟨[(.slice s1p s1l s1c), (.slice s2p s2l s2c)]⟩), (.int .i64 n1)]) w = f11 s1p s1l s1c s2p s2l s2c n1 w K := by kernel_rfl
    rw [← e] at h; exact h)

-- (besom/tally.Tally).All
noncomputable def f12_l0_B : Code := sub [1, 1, 0, 1, 0, 0] (bodyOf Try.f12)
@[reducible] def f12_l0_o0 : List (Nat × Sh) := [(2, .one (.ptr)), (3, .one (.ptr))]
@[reducible] def f12_l0_A : Ann := ⟨[(2, .one (.ptr)), (3, .one (.ptr)), (7, .lst), (8, .one (.int .i64))], [(some 0, f12_l0_o0)]⟩
def f12_ann : Nat → Option Ann := fun r => cond (Nat.beq r 3) (some f12_l0_A) (none)
def f12_l0 (p3 : Option Addr) (p4 : Option Addr) (vs4 : List Value) (n2 : Int) (w : World) (Kn : Tup f12_l0_A.ins → World → Prop) (K0 : Tup f12_l0_o0 → World → Prop) : Prop := bif (decide (n2 < 16)) then (0 ≤ n2 ∧ n2 < ((16 : Nat) : Int) ∧ ∃ (n3 : Int) (n4 : Int), (([(.int .i64 n3), (.int .i64 n4)] : List Value) = List.take 2 (List.drop (Int.toNat n2 * 2) vs4) ∧ NewW [(.int .i64 0), (.int .i64 0)] 45 w fun a4 w4 => St w4 a4 (.int .i64 n3) fun w5 => St w5 (a4.add 1) (.int .i64 n4) fun w6 => NN p4 fun a5 => ∃ (n5 : Int) (n6 : Int), (CellsAt w6 a5 0 [(.int .i64 n5), (.int .i64 n6)] ∧ (2 = 2 ∧ ∃ (n7 : Int) (n8 : Int), (CellsAt w6 a4 0 [(.int .i64 n7), (.int .i64 n8)] ∧ (2 = 2 ∧ Ret Pg 30 [(.agg ⟨[(.int .i64 n5), (.int .i64 n6)]⟩), (.agg ⟨[(.int .i64 n7), (.int .i64 n8)]⟩)] w6 fun r1 w7 => ∃ (n9 : Int) (n10 : Int), r1 = (.agg ⟨[(.int .i64 n9), (.int .i64 n10)]⟩) ∧ NN p4 fun a6 => St w7 a6 (.int .i64 n9) fun w8 => St w8 (a6.add 1) (.int .i64 n10) fun w9 => Kn ⟨p3, p4, vs4, (IntKind.wrap .i64 (n2 + 1)), ()⟩ w9)))))) else (K0 ⟨p3, p4, ()⟩ w)
theorem f12_l0_eq (p3 : Option Addr) (p4 : Option Addr) (vs4 : List Value) (n2 : Int) (w : World) (Kn : Tup f12_l0_A.ins → World → Prop) (K0 : Tup f12_l0_o0 → World → Prop) : WP Pg 16 f12_ann f12_l0_B (bodyQ f12_l0_A (K0, ()) Kn) (mkEnv f12_l0_A.ins ⟨p3, p4, vs4, n2, ()⟩) w = f12_l0 p3 p4 vs4 n2 w Kn K0 := by kernel_rfl

def f12 (vs1 : List Value) (w : World) (K : Value → World → Prop) : Prop := NewW vs1 48 w fun a1 w1 => NewW [(.int .i64 0), (.int .i64 0)] 45 w1 fun a2 w2 => NewW [(.int .i64 0), (.int .i64 0)] 45 w2 fun a3 w3 => ∃ (vs2 : List Value), (CellsAt w3 a1 0 vs2 ∧ (List.length vs2 = 32 ∧ LoopP Pg 16 f12_l0_B f12_l0_A ⟨(some a2), (some a3), vs2, 0, ()⟩ w3 (fun (y1 : Tup f12_l0_o0) (w10 : World) => NN y1.2.1 fun a7 => ∃ (n11 : Int) (n12 : Int), (CellsAt w10 a7 0 [(.int .i64 n11), (.int .i64 n12)] ∧ (2 = 2 ∧ NN y1.1 fun a8 => St w10 a8 (.int .i64 n11) fun w11 => St w11 (a8.add 1) (.int .i64 n12) fun w12 => NN y1.1 fun a9 => ∃ (n13 : Int) (n14 : Int), (CellsAt w12 a9 0 [(.int .i64 n13), (.int .i64 n14)] ∧ (2 = 2 ∧ K (.agg ⟨[(.int .i64 n13), (.int .i64 n14)]⟩) w12)))), ())))
theorem f12_ret {vs1 : List Value} {w : World} {K : Value → World → Prop} (h : f12 vs1 w K) : Ret Pg 12 [(.agg ⟨vs1⟩)] w K :=
  ret_of_WP (ann := f12_ann) (c := bodyOf Try.f12) follows Try.func12 rfl (by kernel_rfl) (by
    have e : WP Pg 16 f12_ann (bodyOf Try.f12) (retQ Pg Try.f12.results.toList K) (initEnv 0 [(.agg ⟨vs1⟩)]) w = f12 vs1 w K := by kernel_rfl
    rw [← e] at h; exact h)

-- besom/gauge.Class
def f13_ann : Nat → Option Ann := fun _ => none
def f13_j1 (f2 : Nat) (b3 : Bool) (w : World) (K : Value → World → Prop) : Prop := bif b3 then (K (.int .i64 3) w) else (bif ((Ieee.Format.order (FloatKind.format .f64) f2 0) == some Ordering.eq) then (K (.int .i64 4) w) else (Ret Pg 31 [(.float .f64 f2), (.int .i64 1)] w fun r3 w3 => ∃ (b4 : Bool), r3 = (.bool b4) ∧ bif b4 then (K (.int .i64 6) w3) else (K (.int .i64 5) w3)))

def f13_j2 (f3 : Nat) (w : World) (K : Value → World → Prop) : Prop := bif ((Ieee.Format.order (FloatKind.format .f64) f3 0) == some Ordering.eq) then (K (.int .i64 4) w) else (Ret Pg 31 [(.float .f64 f3), (.int .i64 1)] w fun r4 w4 => ∃ (b5 : Bool), r4 = (.bool b5) ∧ bif b5 then (K (.int .i64 6) w4) else (K (.int .i64 5) w4))

def f13 (f1 : Nat) (w : World) (K : Value → World → Prop) : Prop := bif ((Ieee.Format.order (FloatKind.format .f64) f1 f1) != some Ordering.eq) then (K (.int .i64 0) w) else (Ret Pg 31 [(.float .f64 f1), (.int .i64 (-1))] w fun r1 w1 => ∃ (b1 : Bool), r1 = (.bool b1) ∧ bif b1 then (K (.int .i64 1) w1) else (bif ((Ieee.Format.order (FloatKind.format .f64) f1 0) == some Ordering.lt) then (K (.int .i64 2) w1) else (bif ((Ieee.Format.order (FloatKind.format .f64) f1 0) == some Ordering.eq) then (Ret Pg 32 [(.float .f64 f1)] w1 fun r2 w2 => ∃ (b2 : Bool), r2 = (.bool b2) ∧ f13_j1 f1 b2 w2 K) else (f13_j2 f1 w1 K))))
theorem f13_ret {f1 : Nat} {w : World} {K : Value → World → Prop} (h : f13 f1 w K) : Ret Pg 13 [(.float .f64 f1)] w K :=
  ret_of_WP (ann := f13_ann) (c := bodyOf Try.f13) follows Try.func13 rfl (by kernel_rfl) (by
    have e : WP Pg 26 f13_ann (bodyOf Try.f13) (retQ Pg Try.f13.results.toList K) (initEnv 0 [(.float .f64 f1)]) w = f13 f1 w K := by kernel_rfl
    rw [← e] at h; exact h)

-- (besom/tally.Tally).Mean
def f14_ann : Nat → Option Ann := fun _ => none
def f14 (vs1 : List Value) (n1 : Int) (w : World) (K : Value → World → Prop) : Prop := NewW vs1 48 w fun a1 w1 => ∃ (vs2 : List Value), (CellsAt w1 a1 0 vs2 ∧ (List.length vs2 = 33 ∧ Ret Pg 33 [(.agg ⟨vs2⟩), (.int .i64 n1)] w1 fun r1 w2 => ∃ (n2 : Int) (n3 : Int), r1 = (.agg ⟨[(.int .i64 n2), (.int .i64 n3)]⟩) ∧ NewW [(.int .i64 0), (.int .i64 0)] 45 w2 fun a2 w3 => St w3 a2 (.int .i64 n2) fun w4 => St w4 (a2.add 1) (.int .i64 n3) fun w5 => LI w5 (a2.add 1) fun n4 => LI w5 a2 fun n5 => Ret Pg 34 [(.int .i64 n4), (.int .i64 n5)] w5 fun r2 w6 => ∃ (f1 : Nat), r2 = (.float .f64 f1) ∧ K (.float .f64 f1) w6))
theorem f14_ret {vs1 : List Value} {n1 : Int} {w : World} {K : Value → World → Prop} (h : f14 vs1 n1 w K) : Ret Pg 14 [(.agg ⟨vs1⟩), (.int .i64 n1)] w K :=
  ret_of_WP (ann := f14_ann) (c := bodyOf Try.f14) follows Try.func14 rfl (by kernel_rfl) (by
    have e : WP Pg 14 f14_ann (bodyOf Try.f14) (retQ Pg Try.f14.results.toList K) (initEnv 0 [(.agg ⟨vs1⟩), (.int .i64 n1)]) w = f14 vs1 n1 w K := by kernel_rfl
    rw [← e] at h; exact h)

-- (besom/tally.Tally).Share
def f15_ann : Nat → Option Ann := fun _ => none
def f15 (vs1 : List Value) (n1 : Int) (w : World) (K : Value → World → Prop) : Prop := NewW vs1 48 w fun a1 w1 => ∃ (vs2 : List Value), (CellsAt w1.drew a1 0 vs2 ∧ (List.length vs2 = 33 ∧ ∃ (vs3 : List Value), (CellsAt w1.drew a1 0 vs3 ∧ (List.length vs3 = 33 ∧ Ret Pg 33 [(.agg ⟨vs2⟩), (.int .i64 n1)] w1.drew fun r1 w2 => ∃ (n2 : Int) (n3 : Int), r1 = (.agg ⟨[(.int .i64 n2), (.int .i64 n3)]⟩) ∧ Old w1.drew w2 ∧ ∃ (n4 : Int), ([(.int .i64 n2), (.int .i64 n3)] : List Value)[1]? = some (.int .i64 n4) ∧ Ret Pg 12 [(.agg ⟨vs3⟩)] w2 fun r2 w3 => ∃ (n5 : Int) (n6 : Int), r2 = (.agg ⟨[(.int .i64 n5), (.int .i64 n6)]⟩) ∧ ∃ (n7 : Int), ([(.int .i64 n5), (.int .i64 n6)] : List Value)[1]? = some (.int .i64 n7) ∧ Ret Pg 34 [(.int .i64 n4), (.int .i64 n7)] w3 fun r3 w4 => ∃ (f1 : Nat), r3 = (.float .f64 f1) ∧ K (.float .f64 f1) w4))))
theorem f15_ret {vs1 : List Value} {n1 : Int} {w : World} {K : Value → World → Prop} (h : f15 vs1 n1 w K) : Ret Pg 15 [(.agg ⟨vs1⟩), (.int .i64 n1)] w K :=
  ret_of_WP (ann := f15_ann) (c := bodyOf Try.f15) follows Try.func15 rfl (by kernel_rfl) (by
    have e : WP Pg 13 f15_ann (bodyOf Try.f15) (retQ Pg Try.f15.results.toList K) (initEnv 0 [(.agg ⟨vs1⟩), (.int .i64 n1)]) w = f15 vs1 n1 w K := by kernel_rfl
    rw [← e] at h; exact h)

-- besom/tally.Add
noncomputable def f16_l0_B : Code := sub [1, 0, 1, 0, 0] (bodyOf Try.f16)
@[reducible] def f16_l0_o0 : List (Nat × Sh) := [(2, .one (.ptr)), (3, .one (.ptr)), (4, .one (.ptr))]
@[reducible] def f16_l0_A : Ann := ⟨[(2, .one (.ptr)), (3, .one (.ptr)), (4, .one (.ptr)), (8, .lst), (9, .one (.int .i64))], [(some 0, f16_l0_o0)]⟩
def f16_ann : Nat → Option Ann := fun r => cond (Nat.beq r 2) (some f16_l0_A) (none)
def f16_l0 (p4 : Option Addr) (p5 : Option Addr) (p6 : Option Addr) (vs5 : List Value) (n2 : Int) (w : World) (Kn : Tup f16_l0_A.ins → World → Prop) (K0 : Tup f16_l0_o0 → World → Prop) : Prop := bif (decide (n2 < 16)) then (0 ≤ n2 ∧ n2 < ((16 : Nat) : Int) ∧ ∃ (n3 : Int) (n4 : Int), (([(.int .i64 n3), (.int .i64 n4)] : List Value) = List.take 2 (List.drop (Int.toNat n2 * 2) vs5) ∧ NewW [(.int .i64 0), (.int .i64 0)] 45 w fun a4 w4 => St w4 a4 (.int .i64 n3) fun w5 => St w5 (a4.add 1) (.int .i64 n4) fun w6 => NN p4 fun a5 => 0 ≤ n2 ∧ n2 < ((16 : Nat) : Int) ∧ ∃ (n5 : Int) (n6 : Int), (CellsAt w6.drew (Addr.at_ a5 n2 2) 0 [(.int .i64 n5), (.int .i64 n6)] ∧ (2 = 2 ∧ ∃ (n7 : Int) (n8 : Int), (CellsAt w6.drew a4 0 [(.int .i64 n7), (.int .i64 n8)] ∧ (2 = 2 ∧ NN p4 fun a6 => Ret Pg 30 [(.agg ⟨[(.int .i64 n5), (.int .i64 n6)]⟩), (.agg ⟨[(.int .i64 n7), (.int .i64 n8)]⟩)] w6.drew fun r1 w7 => ∃ (n9 : Int) (n10 : Int), r1 = (.agg ⟨[(.int .i64 n9), (.int .i64 n10)]⟩) ∧ 0 ≤ n2 ∧ n2 < ((16 : Nat) : Int) ∧ St w7 (Addr.at_ a6 n2 2) (.int .i64 n9) fun w8 => St w8 (Addr.add (Addr.at_ a6 n2 2) 1) (.int .i64 n10) fun w9 => Kn ⟨p4, p5, p6, vs5, (IntKind.wrap .i64 (n2 + 1)), ()⟩ w9)))))) else (K0 ⟨p4, p5, p6, ()⟩ w)
theorem f16_l0_eq (p4 : Option Addr) (p5 : Option Addr) (p6 : Option Addr) (vs5 : List Value) (n2 : Int) (w : World) (Kn : Tup f16_l0_A.ins → World → Prop) (K0 : Tup f16_l0_o0 → World → Prop) : WP Pg 30 f16_ann f16_l0_B (bodyQ f16_l0_A (K0, ()) Kn) (mkEnv f16_l0_A.ins ⟨p4, p5, p6, vs5, n2, ()⟩) w = f16_l0 p4 p5 p6 vs5 n2 w Kn K0 := by kernel_rfl

def f16 (vs1 : List Value) (vs2 : List Value) (w : World) (K : Value → World → Prop) : Prop := NewW vs1 48 w fun a1 w1 => NewW vs2 48 w1 fun a2 w2 => NewW (List.replicate 33 ((.int .i64 0) : Value)) 48 w2 fun a3 w3 => ∃ (vs3 : List Value), (CellsAt w3 a2 0 vs3 ∧ (List.length vs3 = 32 ∧ LoopP Pg 30 f16_l0_B f16_l0_A ⟨(some a1), (some a2), (some a3), vs3, 0, ()⟩ w3 (fun (y1 : Tup f16_l0_o0) (w10 : World) => NN y1.1 fun a7 => LI w10 (a7.add 32) fun n11 => NN y1.2.1 fun a8 => LI w10 (a8.add 32) fun n12 => NN y1.1 fun a9 => St w10 (a9.add 32) (.int .i64 (IntKind.wrap .i64 (n11 + n12))) fun w11 => NN y1.1 fun a10 => ∃ (vs6 : List Value), (CellsAt w11 a10 0 vs6 ∧ (List.length vs6 = 33 ∧ NN y1.2.2.1 fun a11 => LenIs 33 vs6 (Sts a11 0 vs6 w11 fun w12 => NN y1.2.2.1 fun a12 => ∃ (vs7 : List Value), (CellsAt w12 a12 0 vs7 ∧ (List.length vs7 = 33 ∧ K (.agg ⟨vs7⟩) w12))))), ())))
theorem f16_ret {vs1 : List Value} {vs2 : List Value} {w : World} {K : Value → World → Prop} (h : f16 vs1 vs2 w K) : Ret Pg 16 [(.agg ⟨vs1⟩), (.agg ⟨vs2⟩)] w K :=
  ret_of_WP (ann := f16_ann) (c := bodyOf Try.f16) follows Try.func16 rfl (by kernel_rfl) (by
    have e : WP Pg 30 f16_ann (bodyOf Try.f16) (retQ Pg Try.f16.results.toList K) (initEnv 0 [(.agg ⟨vs1⟩), (.agg ⟨vs2⟩)]) w = f16 vs1 vs2 w K := by kernel_rfl
    rw [← e] at h; exact h)

-- besom/heap.New
def f17_ann : Nat → Option Ann := fun _ => none
def f17 (n1 : Int) (w : World) (K : Value → World → Prop) : Prop := bif (decide (n1 < 1)) then (K (.tuple ⟨[(.pointer none), (.int .i64 1)]⟩) w) else (bif (decide (n1 > 65536)) then (K (.tuple ⟨[(.pointer none), (.int .i64 1)]⟩) w) else ((0 ≤ n1 ∧ n1 ≤ n1 ∧ n1 * ((8 : Nat) : Int) ≤ 140737488355328 ∧ n1 ≤ 9223372036854775807 ∧ NewW (reps (Int.toNat n1) [(.int .i64 0)]) 3 w.drew fun a1 w1 => 0 ≤ n1 ∧ n1 ≤ n1 ∧ n1 * ((1 : Nat) : Int) ≤ 140737488355328 ∧ n1 ≤ 9223372036854775807 ∧ NewW (reps (Int.toNat n1) [(.bool false)]) 4 w1 fun a2 w2 => NewW [(.slice (some a1) (Int.toNat n1) (Int.toNat n1)), (.int .i64 0), (.slice (some a2) (Int.toNat n1) (Int.toNat n1))] 94 w2 fun a3 w3 => K (.tuple ⟨[(.pointer (some a3)), (.int .i64 0)]⟩) w3) ∧ (0 ≤ n1 ∧ n1 ≤ n1 ∧ n1 * ((1 : Nat) : Int) ≤ 140737488355328 ∧ n1 ≤ 9223372036854775807 ∧ NewW (reps (Int.toNat n1) [(.bool false)]) 4 w.drew fun a4 w4 => 0 ≤ n1 ∧ n1 ≤ n1 ∧ n1 * ((8 : Nat) : Int) ≤ 140737488355328 ∧ n1 ≤ 9223372036854775807 ∧ NewW (reps (Int.toNat n1) [(.int .i64 0)]) 3 w4 fun a5 w5 => NewW [(.slice (some a5) (Int.toNat n1) (Int.toNat n1)), (.int .i64 0), (.slice (some a4) (Int.toNat n1) (Int.toNat n1))] 94 w5 fun a6 w6 => K (.tuple ⟨[(.pointer (some a6)), (.int .i64 0)]⟩) w6)))
theorem f17_ret {n1 : Int} {w : World} {K : Value → World → Prop} (h : f17 n1 w K) : Ret Pg 17 [(.int .i64 n1)] w K :=
  ret_of_WP (ann := f17_ann) (c := bodyOf Try.f17) follows Try.func17 rfl (by kernel_rfl) (by
    have e : WP Pg 16 f17_ann (bodyOf Try.f17) (retQ Pg Try.f17.results.toList K) (initEnv 0 [(.int .i64 n1)]) w = f17 n1 w K := by kernel_rfl
    rw [← e] at h; exact h)

-- (*besom/heap.Heap).Place
def f18_ann : Nat → Option Ann := fun _ => none
def f18 (p1 : Option Addr) (n1 : Int) (n2 : Int) (n3 : Int) (w : World) (K : Value → World → Prop) : Prop := NewW [(.int .i64 n1), (.int .i64 n2), (.int .i64 n3)] 64 w fun a1 w1 => ∃ (n4 : Int) (n5 : Int) (n6 : Int), (CellsAt w1 a1 0 [(.int .i64 n4), (.int .i64 n5), (.int .i64 n6)] ∧ (3 = 3 ∧ Ret Pg 35 [(.agg ⟨[(.int .i64 n4), (.int .i64 n5), (.int .i64 n6)]⟩)] w1 fun r1 w2 => ∃ (n7 : Int), ∃ (n8 : Int), r1 = (.tuple ⟨[(.int .i64 n7), (.int .i64 n8)]⟩) ∧ bif (n8 != 0) then (K (.tuple ⟨[(.int .i64 0), (.int .i64 n8)]⟩) w2) else (LI w2.drew (a1.add 1) fun n9 => NN p1 fun a2 => LS w2.drew a2 fun s1p s1l s1c => NN p1 fun a3 => LI w2.drew (a3.add 1) fun n10 => bif (decide (n9 ≥ (IntKind.wrap .i64 (((s1l : Nat) : Int) - n10)))) then (K (.tuple ⟨[(.int .i64 0), (.int .i64 6)]⟩) w2.drew) else (NN p1 fun a4 => LI w2.drew (a4.add 1) fun n11 => ∃ (n12 : Int) (n13 : Int) (n14 : Int), (CellsAt w2.drew a1 0 [(.int .i64 n12), (.int .i64 n13), (.int .i64 n14)] ∧ (3 = 3 ∧ Ret Pg 36 [(.pointer p1), (.int .i64 n11), (.agg ⟨[(.int .i64 n12), (.int .i64 n13), (.int .i64 n14)]⟩)] w2.drew fun r2 w3 => r2 = (.tuple ⟨[]⟩) ∧ NN p1 fun a5 => LI w3.drew (a5.add 1) fun n15 => LI w3.drew (a1.add 1) fun n16 => NN p1 fun a6 => St w3.drew (a6.add 1) (.int .i64 (IntKind.wrap .i64 (n15 + (IntKind.wrap .i64 (1 + n16))))) fun w4 => K (.tuple ⟨[(.int .i64 n11), (.int .i64 0)]⟩) w4))))))
theorem f18_ret {p1 : Option Addr} {n1 : Int} {n2 : Int} {n3 : Int} {w : World} {K : Value → World → Prop} (h : f18 p1 n1 n2 n3 w K) : Ret Pg 18 [(.pointer p1), (.agg ⟨[(.int .i64 n1), (.int .i64 n2), (.int .i64 n3)]⟩)] w K :=
  ret_of_WP (ann := f18_ann) (c := bodyOf Try.f18) follows Try.func18 rfl (by kernel_rfl) (by
    have e : WP Pg 51 f18_ann (bodyOf Try.f18) (retQ Pg Try.f18.results.toList K) (initEnv 0 [(.pointer p1), (.agg ⟨[(.int .i64 n1), (.int .i64 n2), (.int .i64 n3)]⟩)]) w = f18 p1 n1 n2 n3 w K := by kernel_rfl
    rw [← e] at h; exact h)

-- besom/besomref01.Place
def f19_ann : Nat → Option Ann := fun _ => none
def f19 (n1 : Int) (s1p : Option Addr) (s1l : Nat) (s1c : Nat) (n2 : Int) (n3 : Int) (n4 : Int) (w : World) (K : Value → World → Prop) : Prop := NewW [(.int .i64 n1), (.slice s1p s1l s1c)] 32 w fun a1 w1 => NewW [(.int .i64 n2), (.int .i64 n3), (.int .i64 n4)] 64 w1 fun a2 w2 => NewW [(.int .i64 0), (.slice none 0 0)] 32 w2 fun a3 w3 => ∃ (n5 : Int) (n6 : Int) (n7 : Int), (CellsAt w3 a2 0 [(.int .i64 n5), (.int .i64 n6), (.int .i64 n7)] ∧ (3 = 3 ∧ Ret Pg 37 [(.agg ⟨[(.int .i64 n5), (.int .i64 n6), (.int .i64 n7)]⟩)] w3 fun r1 w4 => ∃ (b1 : Bool), r1 = (.bool b1) ∧ bif (!b1) then (∃ (n8 : Int) (s2p : Option Addr) (s2l : Nat) (s2c : Nat), (CellsAt w4 a1 0 [(.int .i64 n8), (.slice s2p s2l s2c)] ∧ (2 = 2 ∧ St w4 a3 (.int .i64 n8) fun w5 => St w5 (a3.add 1) (.slice s2p s2l s2c) fun w6 => ∃ (n9 : Int) (s3p : Option Addr) (s3l : Nat) (s3c : Nat), (CellsAt w6 a3 0 [(.int .i64 n9), (.slice s3p s3l s3c)] ∧ (2 = 2 ∧ K (.tuple ⟨[(.agg ⟨[(.int .i64 n9), (.slice s3p s3l s3c)]⟩), (.int .i64 0), (.int .i64 1)]⟩) w6))))) else (∃ (n10 : Int) (s4p : Option Addr) (s4l : Nat) (s4c : Nat), (CellsAt w4 a1 0 [(.int .i64 n10), (.slice s4p s4l s4c)] ∧ (2 = 2 ∧ Ret Pg 38 [(.agg ⟨[(.int .i64 n10), (.slice s4p s4l s4c)]⟩)] w4 fun r2 w7 => ∃ (n11 : Int), r2 = (.int .i64 n11) ∧ LI w7 (a2.add 1) fun n12 => LI w7 a1 fun n13 => bif (decide ((IntKind.wrap .i64 ((IntKind.wrap .i64 (n11 + 1)) + n12)) > n13)) then (∃ (n14 : Int) (s5p : Option Addr) (s5l : Nat) (s5c : Nat), (CellsAt w7 a1 0 [(.int .i64 n14), (.slice s5p s5l s5c)] ∧ (2 = 2 ∧ St w7 a3 (.int .i64 n14) fun w8 => St w8 (a3.add 1) (.slice s5p s5l s5c) fun w9 => ∃ (n15 : Int) (s6p : Option Addr) (s6l : Nat) (s6c : Nat), (CellsAt w9 a3 0 [(.int .i64 n15), (.slice s6p s6l s6c)] ∧ (2 = 2 ∧ K (.tuple ⟨[(.agg ⟨[(.int .i64 n15), (.slice s6p s6l s6c)]⟩), (.int .i64 0), (.int .i64 6)]⟩) w9))))) else (LS w7.drew (a1.add 1) fun s7p s7l s7c => ∃ (n16 : Int) (n17 : Int) (n18 : Int), (CellsAt w7.drew a2 0 [(.int .i64 n16), (.int .i64 n17), (.int .i64 n18)] ∧ (3 = 3 ∧ LI w7.drew (a2.add 1) fun n19 => (NewW [] 99 w7.drew fun a4 w10 => Old w7.drew w10 ∧ (ApW Pg 30 30 (.slice (some a4) 0 0) (.slice s7p s7l s7c) w10 fun s8p s8l s8c w11 => Old w10 w11 ∧ 0 ≤ n19 ∧ n19 ≤ n19 ∧ n19 * ((8 : Nat) : Int) ≤ 140737488355328 ∧ n19 ≤ 9223372036854775807 ∧ NewW (reps (Int.toNat n19) [(.int .i64 0)]) 3 w11 fun a5 w12 => Old w11 w12 ∧ NewW [(.int .i64 n11), (.int .i64 n16), (.int .i64 n17), (.int .i64 n18), (.slice (some a5) (Int.toNat n19) (Int.toNat n19))] 99 w12 fun a6 w13 => Old w12 w13 ∧ ApW Pg 30 30 (.slice s8p s8l s8c) (.slice (some a6) 1 1) w13 fun s9p s9l s9c w14 => St w14 (a1.add 1) (.slice s9p s9l s9c) fun w15 => ∃ (n20 : Int) (s10p : Option Addr) (s10l : Nat) (s10c : Nat), (CellsAt w15 a1 0 [(.int .i64 n20), (.slice s10p s10l s10c)] ∧ (2 = 2 ∧ St w15 a3 (.int .i64 n20) fun w16 => St w16 (a3.add 1) (.slice s10p s10l s10c) fun w17 => ∃ (n21 : Int) (s11p : Option Addr) (s11l : Nat) (s11c : Nat), (CellsAt w17 a3 0 [(.int .i64 n21), (.slice s11p s11l s11c)] ∧ (2 = 2 ∧ K (.tuple ⟨[(.agg ⟨[(.int .i64 n21), (.slice s11p s11l s11c)]⟩), (.int .i64 n11), (.int .i64 0)]⟩) w17))))) ∧ (0 ≤ n19 ∧ n19 ≤ n19 ∧ n19 * ((8 : Nat) : Int) ≤ 140737488355328 ∧ n19 ≤ 9223372036854775807 ∧ NewW (reps (Int.toNat n19) [(.int .i64 0)]) 3 w10 fun a7 w18 => Old w10 w18 ∧ (ApW Pg 30 30 (.slice (some a4) 0 0) (.slice s7p s7l s7c) w18 fun s12p s12l s12c w19 => Old w18 w19 ∧ NewW [(.int .i64 n11), (.int .i64 n16), (.int .i64 n17), (.int .i64 n18), (.slice (some a7) (Int.toNat n19) (Int.toNat n19))] 99 w19 fun a8 w20 => Old w19 w20 ∧ ApW Pg 30 30 (.slice s12p s12l s12c) (.slice (some a8) 1 1) w20 fun s13p s13l s13c w21 => St w21 (a1.add 1) (.slice s13p s13l s13c) fun w22 => ∃ (n22 : Int) (s14p : Option Addr) (s14l : Nat) (s14c : Nat), (CellsAt w22 a1 0 [(.int .i64 n22), (.slice s14p s14l s14c)] ∧ (2 = 2 ∧ St w22 a3 (.int .i64 n22) fun w23 => St w23 (a3.add 1) (.slice s14p s14l s14c) fun w24 => ∃ (n23 : Int) (s15p : Option Addr) (s15l : Nat) (s15c : Nat), (CellsAt w24 a3 0 [(.int .i64 n23), (.slice s15p s15l s15c)] ∧ (2 = 2 ∧ K (.tuple ⟨[(.agg ⟨[(.int .i64 n23), (.slice s15p s15l s15c)]⟩), (.int .i64 n11), (.int .i64 0)]⟩) w24))))) ∧ (NewW [(.int .i64 n11), (.int .i64 n16), (.int .i64 n17), (.int .i64 n18), (.slice (some a7) (Int.toNat n19) (Int.toNat n19))] 99 w18 fun a9 w25 => Old w18 w25 ∧ ApW Pg 30 30 (.slice (some a4) 0 0) (.slice s7p s7l s7c) w25 fun s16p s16l s16c w26 => Old w25 w26 ∧ ApW Pg 30 30 (.slice s16p s16l s16c) (.slice (some a9) 1 1) w26 fun s17p s17l s17c w27 => St w27 (a1.add 1) (.slice s17p s17l s17c) fun w28 => ∃ (n24 : Int) (s18p : Option Addr) (s18l : Nat) (s18c : Nat), (CellsAt w28 a1 0 [(.int .i64 n24), (.slice s18p s18l s18c)] ∧ (2 = 2 ∧ St w28 a3 (.int .i64 n24) fun w29 => St w29 (a3.add 1) (.slice s18p s18l s18c) fun w30 => ∃ (n25 : Int) (s19p : Option Addr) (s19l : Nat) (s19c : Nat), (CellsAt w30 a3 0 [(.int .i64 n25), (.slice s19p s19l s19c)] ∧ (2 = 2 ∧ K (.tuple ⟨[(.agg ⟨[(.int .i64 n25), (.slice s19p s19l s19c)]⟩), (.int .i64 n11), (.int .i64 0)]⟩) w30))))))) ∧ (0 ≤ n19 ∧ n19 ≤ n19 ∧ n19 * ((8 : Nat) : Int) ≤ 140737488355328 ∧ n19 ≤ 9223372036854775807 ∧ NewW (reps (Int.toNat n19) [(.int .i64 0)]) 3 w7.drew fun a10 w31 => Old w7.drew w31 ∧ (NewW [] 99 w31 fun a11 w32 => Old w31 w32 ∧ (ApW Pg 30 30 (.slice (some a11) 0 0) (.slice s7p s7l s7c) w32 fun s20p s20l s20c w33 => Old w32 w33 ∧ NewW [(.int .i64 n11), (.int .i64 n16), (.int .i64 n17), (.int .i64 n18), (.slice (some a10) (Int.toNat n19) (Int.toNat n19))] 99 w33 fun a12 w34 => Old w33 w34 ∧ ApW Pg 30 30 (.slice s20p s20l s20c) (.slice (some a12) 1 1) w34 fun s21p s21l s21c w35 => St w35 (a1.add 1) (.slice s21p s21l s21c) fun w36 => ∃ (n26 : Int) (s22p : Option Addr) (s22l : Nat) (s22c : Nat), (CellsAt w36 a1 0 [(.int .i64 n26), (.slice s22p s22l s22c)] ∧ (2 = 2 ∧ St w36 a3 (.int .i64 n26) fun w37 => St w37 (a3.add 1) (.slice s22p s22l s22c) fun w38 => ∃ (n27 : Int) (s23p : Option Addr) (s23l : Nat) (s23c : Nat), (CellsAt w38 a3 0 [(.int .i64 n27), (.slice s23p s23l s23c)] ∧ (2 = 2 ∧ K (.tuple ⟨[(.agg ⟨[(.int .i64 n27), (.slice s23p s23l s23c)]⟩), (.int .i64 n11), (.int .i64 0)]⟩) w38))))) ∧ (NewW [(.int .i64 n11), (.int .i64 n16), (.int .i64 n17), (.int .i64 n18), (.slice (some a10) (Int.toNat n19) (Int.toNat n19))] 99 w32 fun a13 w39 => Old w32 w39 ∧ ApW Pg 30 30 (.slice (some a11) 0 0) (.slice s7p s7l s7c) w39 fun s24p s24l s24c w40 => Old w39 w40 ∧ ApW Pg 30 30 (.slice s24p s24l s24c) (.slice (some a13) 1 1) w40 fun s25p s25l s25c w41 => St w41 (a1.add 1) (.slice s25p s25l s25c) fun w42 => ∃ (n28 : Int) (s26p : Option Addr) (s26l : Nat) (s26c : Nat), (CellsAt w42 a1 0 [(.int .i64 n28), (.slice s26p s26l s26c)] ∧ (2 = 2 ∧ St w42 a3 (.int .i64 n28) fun w43 => St w43 (a3.add 1) (.slice s26p s26l s26c) fun w44 => ∃ (n29 : Int) (s27p : Option Addr) (s27l : Nat) (s27c : Nat), (CellsAt w44 a3 0 [(.int .i64 n29), (.slice s27p s27l s27c)] ∧ (2 = 2 ∧ K (.tuple ⟨[(.agg ⟨[(.int .i64 n29), (.slice s27p s27l s27c)]⟩), (.int .i64 n11), (.int .i64 0)]⟩) w44)))))) ∧ (NewW [(.int .i64 n11), (.int .i64 n16), (.int .i64 n17), (.int .i64 n18), (.slice (some a10) (Int.toNat n19) (Int.toNat n19))] 99 w31 fun a14 w45 => Old w31 w45 ∧ NewW [] 99 w45 fun a15 w46 => Old w45 w46 ∧ ApW Pg 30 30 (.slice (some a15) 0 0) (.slice s7p s7l s7c) w46 fun s28p s28l s28c w47 => Old w46 w47 ∧ ApW Pg 30 30 (.slice s28p s28l s28c) (.slice (some a14) 1 1) w47 fun s29p s29l s29c w48 => St w48 (a1.add 1) (.slice s29p s29l s29c) fun w49 => ∃ (n30 : Int) (s30p : Option Addr) (s30l : Nat) (s30c : Nat), (CellsAt w49 a1 0 [(.int .i64 n30), (.slice s30p s30l s30c)] ∧ (2 = 2 ∧ St w49 a3 (.int .i64 n30) fun w50 => St w50 (a3.add 1) (.slice s30p s30l s30c) fun w51 => ∃ (n31 : Int) (s31p : Option Addr) (s31l : Nat) (s31c : Nat), (CellsAt w51 a3 0 [(.int .i64 n31), (.slice s31p s31l s31c)] ∧ (2 = 2 ∧ K (.tuple ⟨[(.agg ⟨[(.int .i64 n31), (.slice s31p s31l s31c)]⟩), (.int .i64 n11), (.int .i64 0)]⟩) w51))))))))))))))
theorem f19_ret {n1 : Int} {s1p : Option Addr} {s1l : Nat} {s1c : Nat} {n2 : Int} {n3 : Int} {n4 : Int} {w : World} {K : Value → World → Prop} (h : f19 n1 s1p s1l s1c n2 n3 n4 w K) : Ret Pg 19 [(.agg ⟨[(.int .i64 n1), (.slice s1p s1l s1c)]⟩), (.agg ⟨[(.int .i64 n2), (.int .i64 n3), (.int .i64 n4)]⟩)] w K :=
  ret_of_WP (ann := f19_ann) (c := bodyOf Try.f19) follows Try.func19 rfl (by kernel_rfl) (by
    have e : WP Pg 38 f19_ann (bodyOf Try.f19) (retQ Pg Try.f19.results.toList K) (initEnv 0 [(.agg ⟨[(.int .i64 n1), (.slice s1p s1l s1c)]⟩), (.agg ⟨[(.int .i64 n2), (.int .i64 n3), (.int .i64 n4)]⟩)]) w = f19 n1 s1p s1l s1c n2 n3 n4 w K := by kernel_rfl
    rw [← e] at h; exact h)

-- (*besom/heap.Heap).Write
def f20_ann : Nat → Option Ann := fun _ => none
def f20_j1 (p2 : Option Addr) (n10 : Int) (n11 : Int) (n12 : Int) (w : World) (K : Value → World → Prop) : Prop := NN p2 fun a2 => LS w a2 fun s1p s1l s1c => 0 ≤ (IntKind.wrap .i64 ((IntKind.wrap .i64 (n10 + 1)) + n11)) ∧ (IntKind.wrap .i64 ((IntKind.wrap .i64 (n10 + 1)) + n11)) < ((s1l : Nat) : Int) ∧ NN s1p fun a3 => St w (Addr.at_ a3 (IntKind.wrap .i64 ((IntKind.wrap .i64 (n10 + 1)) + n11)) 1) (.int .i64 n12) fun w7 => K (.int .i64 0) w7

def f20 (p1 : Option Addr) (n1 : Int) (n2 : Int) (n3 : Int) (w : World) (K : Value → World → Prop) : Prop := Ret Pg 39 [(.pointer p1), (.int .i64 n1), (.int .i64 n2)] w fun r1 w1 => ∃ (n4 : Int) (n5 : Int) (n6 : Int), ∃ (n7 : Int), r1 = (.tuple ⟨[(.agg ⟨[(.int .i64 n4), (.int .i64 n5), (.int .i64 n6)]⟩), (.int .i64 n7)]⟩) ∧ NewW [(.int .i64 0), (.int .i64 0), (.int .i64 0)] 64 w1 fun a1 w2 => St w2 a1 (.int .i64 n4) fun w3 => St w3 (a1.add 1) (.int .i64 n5) fun w4 => St w4 (a1.add 2) (.int .i64 n6) fun w5 => bif (n7 != 0) then (K (.int .i64 n7) w5) else (LI w5 a1 fun n8 => bif (n8 == 15) then (K (.int .i64 4) w5) else (LI w5 (a1.add 2) fun n9 => bif (decide (n2 < n9)) then (Ret Pg 40 [(.pointer p1), (.int .i64 n3)] w5 fun r2 w6 => ∃ (b1 : Bool), r2 = (.bool b1) ∧ bif (!b1) then (K (.int .i64 5) w6) else (f20_j1 p1 n1 n2 n3 w6 K)) else (f20_j1 p1 n1 n2 n3 w5 K)))
theorem f20_ret {p1 : Option Addr} {n1 : Int} {n2 : Int} {n3 : Int} {w : World} {K : Value → World → Prop} (h : f20 p1 n1 n2 n3 w K) : Ret Pg 20 [(.pointer p1), (.int .i64 n1), (.int .i64 n2), (.int .i64 n3)] w K :=
  ret_of_WP (ann := f20_ann) (c := bodyOf Try.f20) follows Try.func20 rfl (by kernel_rfl) (by
    have e : WP Pg 47 f20_ann (bodyOf Try.f20) (retQ Pg Try.f20.results.toList K) (initEnv 0 [(.pointer p1), (.int .i64 n1), (.int .i64 n2), (.int .i64 n3)]) w = f20 p1 n1 n2 n3 w K := by kernel_rfl
    rw [← e] at h; exact h)

-- besom/besomlaw11.place
def f21_ann : Nat → Option Ann := fun _ => none
def f21 (s1p : Option Addr) (s1l : Nat) (s1c : Nat) (n1 : Int) (w : World) (K : Value → World → Prop) : Prop := NZ (IntKind.wrap .i64 (((s1l : Nat) : Int) + 1)) (bif ((Int.tmod (IntKind.wrap .i64 n1) (IntKind.wrap .i64 (((s1l : Nat) : Int) + 1))) == ((s1l : Nat) : Int)) then (K (.int .i64 0) w) else (0 ≤ (Int.tmod (IntKind.wrap .i64 n1) (IntKind.wrap .i64 (((s1l : Nat) : Int) + 1))) ∧ (Int.tmod (IntKind.wrap .i64 n1) (IntKind.wrap .i64 (((s1l : Nat) : Int) + 1))) < ((s1l : Nat) : Int) ∧ NN s1p fun a1 => LI w (Addr.at_ a1 (Int.tmod (IntKind.wrap .i64 n1) (IntKind.wrap .i64 (((s1l : Nat) : Int) + 1))) 1) fun n2 => K (.int .i64 (IntKind.wrap .i64 (1 + n2))) w))
theorem f21_ret {s1p : Option Addr} {s1l : Nat} {s1c : Nat} {n1 : Int} {w : World} {K : Value → World → Prop} (h : f21 s1p s1l s1c n1 w K) : Ret Pg 21 [(.slice s1p s1l s1c), (.int .u8 n1)] w K :=
  ret_of_WP (ann := f21_ann) (c := bodyOf Try.f21) follows Try.func21 rfl (by kernel_rfl) (by
    have e : WP Pg 21 f21_ann (bodyOf Try.f21) (retQ Pg Try.f21.results.toList K) (initEnv 0 [(.slice s1p s1l s1c), (.int .u8 n1)]) w = f21 s1p s1l s1c n1 w K := by kernel_rfl
    rw [← e] at h; exact h)

-- besom/besomref01.Write
def f22_ann : Nat → Option Ann := fun _ => none
def f22_j2 (n28 : Int) (n29 : Int) (a8 : Addr) (a9 : Addr) (n30 : Int) (a10 : Addr) (w : World) (K : Value → World → Prop) : Prop := NewW [] 99 w fun a11 w21 => LS w21 (a8.add 1) fun s16p s16l s16c => ApW Pg 30 30 (.slice (some a11) 0 0) (.slice s16p s16l s16c) w21 fun s17p s17l s17c w22 => NewW [] 3 w22 fun a12 w23 => LS w23 (a10.add 4) fun s18p s18l s18c => ApW Pg 29 29 (.slice (some a12) 0 0) (.slice s18p s18l s18c) w23 fun s19p s19l s19c w24 => 0 ≤ n30 ∧ n30 < ((s17l : Nat) : Int) ∧ NN s17p fun a13 => St w24 (Addr.add (Addr.at_ a13 n30 5) 4) (.slice s19p s19l s19c) fun w25 => 0 ≤ n30 ∧ n30 < ((s17l : Nat) : Int) ∧ NN s17p fun a14 => LS w25 (Addr.add (Addr.at_ a14 n30 5) 4) fun s20p s20l s20c => 0 ≤ n28 ∧ n28 < ((s20l : Nat) : Int) ∧ NN s20p fun a15 => St w25 (Addr.at_ a15 n28 1) (.int .i64 n29) fun w26 => St w26 (a8.add 1) (.slice s17p s17l s17c) fun w27 => ∃ (n31 : Int) (s21p : Option Addr) (s21l : Nat) (s21c : Nat), (CellsAt w27 a8 0 [(.int .i64 n31), (.slice s21p s21l s21c)] ∧ (2 = 2 ∧ St w27 a9 (.int .i64 n31) fun w28 => St w28 (a9.add 1) (.slice s21p s21l s21c) fun w29 => ∃ (n32 : Int) (s22p : Option Addr) (s22l : Nat) (s22c : Nat), (CellsAt w29 a9 0 [(.int .i64 n32), (.slice s22p s22l s22c)] ∧ (2 = 2 ∧ K (.tuple ⟨[(.agg ⟨[(.int .i64 n32), (.slice s22p s22l s22c)]⟩), (.int .i64 0)]⟩) w29))))

def f22_j1 (n21 : Int) (n22 : Int) (a5 : Addr) (a6 : Addr) (n23 : Int) (a7 : Addr) (w : World) (K : Value → World → Prop) : Prop := LI w (Addr.add (a7.add 1) 2) fun n24 => bif (decide (n21 < n24)) then (∃ (n25 : Int) (s13p : Option Addr) (s13l : Nat) (s13c : Nat), (CellsAt w a5 0 [(.int .i64 n25), (.slice s13p s13l s13c)] ∧ (2 = 2 ∧ Ret Pg 42 [(.agg ⟨[(.int .i64 n25), (.slice s13p s13l s13c)]⟩), (.int .i64 n22)] w fun r2 w18 => ∃ (b1 : Bool), r2 = (.bool b1) ∧ bif (!b1) then (∃ (n26 : Int) (s14p : Option Addr) (s14l : Nat) (s14c : Nat), (CellsAt w18 a5 0 [(.int .i64 n26), (.slice s14p s14l s14c)] ∧ (2 = 2 ∧ St w18 a6 (.int .i64 n26) fun w19 => St w19 (a6.add 1) (.slice s14p s14l s14c) fun w20 => ∃ (n27 : Int) (s15p : Option Addr) (s15l : Nat) (s15c : Nat), (CellsAt w20 a6 0 [(.int .i64 n27), (.slice s15p s15l s15c)] ∧ (2 = 2 ∧ K (.tuple ⟨[(.agg ⟨[(.int .i64 n27), (.slice s15p s15l s15c)]⟩), (.int .i64 5)]⟩) w20))))) else (f22_j2 n21 n22 a5 a6 n23 a7 w18 K)))) else (f22_j2 n21 n22 a5 a6 n23 a7 w K)

def f22 (n1 : Int) (s1p : Option Addr) (s1l : Nat) (s1c : Nat) (n2 : Int) (n3 : Int) (n4 : Int) (w : World) (K : Value → World → Prop) : Prop := NewW [(.int .i64 n1), (.slice s1p s1l s1c)] 32 w fun a1 w1 => NewW [(.int .i64 0), (.slice none 0 0)] 32 w1 fun a2 w2 => ∃ (n5 : Int) (s2p : Option Addr) (s2l : Nat) (s2c : Nat), (CellsAt w2 a1 0 [(.int .i64 n5), (.slice s2p s2l s2c)] ∧ (2 = 2 ∧ Ret Pg 41 [(.agg ⟨[(.int .i64 n5), (.slice s2p s2l s2c)]⟩), (.int .i64 n2)] w2 fun r1 w3 => ∃ (n6 : Int), r1 = (.int .i64 n6) ∧ bif (decide (n6 < 0)) then (∃ (n7 : Int) (s3p : Option Addr) (s3l : Nat) (s3c : Nat), (CellsAt w3 a1 0 [(.int .i64 n7), (.slice s3p s3l s3c)] ∧ (2 = 2 ∧ St w3 a2 (.int .i64 n7) fun w4 => St w4 (a2.add 1) (.slice s3p s3l s3c) fun w5 => ∃ (n8 : Int) (s4p : Option Addr) (s4l : Nat) (s4c : Nat), (CellsAt w5 a2 0 [(.int .i64 n8), (.slice s4p s4l s4c)] ∧ (2 = 2 ∧ K (.tuple ⟨[(.agg ⟨[(.int .i64 n8), (.slice s4p s4l s4c)]⟩), (.int .i64 3)]⟩) w5))))) else (LS w3 (a1.add 1) fun s5p s5l s5c => 0 ≤ n6 ∧ n6 < ((s5l : Nat) : Int) ∧ NN s5p fun a3 => ∃ (n9 : Int) (n10 : Int) (n11 : Int) (n12 : Int) (s6p : Option Addr) (s6l : Nat) (s6c : Nat), (CellsAt w3 (Addr.at_ a3 n6 5) 0 [(.int .i64 n9), (.int .i64 n10), (.int .i64 n11), (.int .i64 n12), (.slice s6p s6l s6c)] ∧ (5 = 5 ∧ NewW [(.int .i64 0), (.int .i64 0), (.int .i64 0), (.int .i64 0), (.slice none 0 0)] 99 w3 fun a4 w6 => St w6 a4 (.int .i64 n9) fun w7 => St w7 (a4.add 1) (.int .i64 n10) fun w8 => St w8 (a4.add 2) (.int .i64 n11) fun w9 => St w9 (a4.add 3) (.int .i64 n12) fun w10 => St w10 (a4.add 4) (.slice s6p s6l s6c) fun w11 => bif (decide (n3 < 0)) then (∃ (n13 : Int) (s7p : Option Addr) (s7l : Nat) (s7c : Nat), (CellsAt w11 a1 0 [(.int .i64 n13), (.slice s7p s7l s7c)] ∧ (2 = 2 ∧ St w11 a2 (.int .i64 n13) fun w12 => St w12 (a2.add 1) (.slice s7p s7l s7c) fun w13 => ∃ (n14 : Int) (s8p : Option Addr) (s8l : Nat) (s8c : Nat), (CellsAt w13 a2 0 [(.int .i64 n14), (.slice s8p s8l s8c)] ∧ (2 = 2 ∧ K (.tuple ⟨[(.agg ⟨[(.int .i64 n14), (.slice s8p s8l s8c)]⟩), (.int .i64 4)]⟩) w13))))) else (LI w11 (Addr.add (a4.add 1) 1) fun n15 => bif (decide (n3 ≥ n15)) then (∃ (n16 : Int) (s9p : Option Addr) (s9l : Nat) (s9c : Nat), (CellsAt w11 a1 0 [(.int .i64 n16), (.slice s9p s9l s9c)] ∧ (2 = 2 ∧ St w11 a2 (.int .i64 n16) fun w14 => St w14 (a2.add 1) (.slice s9p s9l s9c) fun w15 => ∃ (n17 : Int) (s10p : Option Addr) (s10l : Nat) (s10c : Nat), (CellsAt w15 a2 0 [(.int .i64 n17), (.slice s10p s10l s10c)] ∧ (2 = 2 ∧ K (.tuple ⟨[(.agg ⟨[(.int .i64 n17), (.slice s10p s10l s10c)]⟩), (.int .i64 4)]⟩) w15))))) else (LI w11 (a4.add 1) fun n18 => bif (n18 == 15) then (∃ (n19 : Int) (s11p : Option Addr) (s11l : Nat) (s11c : Nat), (CellsAt w11 a1 0 [(.int .i64 n19), (.slice s11p s11l s11c)] ∧ (2 = 2 ∧ St w11 a2 (.int .i64 n19) fun w16 => St w16 (a2.add 1) (.slice s11p s11l s11c) fun w17 => ∃ (n20 : Int) (s12p : Option Addr) (s12l : Nat) (s12c : Nat), (CellsAt w17 a2 0 [(.int .i64 n20), (.slice s12p s12l s12c)] ∧ (2 = 2 ∧ K (.tuple ⟨[(.agg ⟨[(.int .i64 n20), (.slice s12p s12l s12c)]⟩), (.int .i64 4)]⟩) w17))))) else (f22_j1 n3 n4 a1 a2 n6 a4 w11 K))))))))
theorem f22_ret {n1 : Int} {s1p : Option Addr} {s1l : Nat} {s1c : Nat} {n2 : Int} {n3 : Int} {n4 : Int} {w : World} {K : Value → World → Prop} (h : f22 n1 s1p s1l s1c n2 n3 n4 w K) : Ret Pg 22 [(.agg ⟨[(.int .i64 n1), (.slice s1p s1l s1c)]⟩), (.int .i64 n2), (.int .i64 n3), (.int .i64 n4)] w K :=
  ret_of_WP (ann := f22_ann) (c := bodyOf Try.f22) follows Try.func22 rfl (by kernel_rfl) (by
    have e : WP Pg 75 f22_ann (bodyOf Try.f22) (retQ Pg Try.f22.results.toList K) (initEnv 0 [(.agg ⟨[(.int .i64 n1), (.slice s1p s1l s1c)]⟩), (.int .i64 n2), (.int .i64 n3), (.int .i64 n4)]) w = f22 n1 s1p s1l s1c n2 n3 n4 w K := by kernel_rfl
    rw [← e] at h; exact h)

-- (*besom/graph.finder).number
def f23_ann : Nat → Option Ann := fun _ => none
def f23_j1 (p3 : Option Addr) (n7 : Int) (w : World) (K : Value → World → Prop) : Prop := NN p3 fun a3 => LM w (a3.add 2) fun m1 => NM m1 fun r2 => ∃ (n8 : Int) (b1 : Bool), MapGet w r2 .i64 (IntKind.wrap .i64 (n7 - 1)) .i64 n8 b1 ∧ bif (!b1) then (NN p3 fun a4 => LS w (a4.add 1) fun s1p s1l s1c => NewW [(.int .i64 (IntKind.wrap .i64 (n7 - 1)))] 3 w fun a5 w6 => ApW Pg 29 29 (.slice s1p s1l s1c) (.slice (some a5) 1 1) w6 fun s2p s2l s2c w7 => NN p3 fun a6 => St w7 (a6.add 1) (.slice s2p s2l s2c) fun w8 => NN p3 fun a7 => LM w8.drew (a7.add 2) fun m2 => NN p3 fun a8 => LS w8.drew (a8.add 1) fun s3p s3l s3c => NM m2 fun r3 => ∃ (es1 : Array MapEntry) (cl1 : Nat), (World.heap w8.drew)[r3]? = some (.map es1 cl1) ∧ Instr.findNow (.int .i64) (.int .i64 (IntKind.wrap .i64 (n7 - 1))) es1.toList 0 = some none ∧ NN p3 fun a9 => LM (World.setObj w8.drew r3 (.map (es1.push { key := (.int .i64 (IntKind.wrap .i64 (n7 - 1))), val := (.int .i64 ((s3l : Nat) : Int)), born := cl1 }) (cl1 + 1))) (a9.add 2) fun m3 => NM m3 fun r4 => ∃ (n9 : Int) (b2 : Bool), MapGet (World.setObj w8.drew r3 (.map (es1.push { key := (.int .i64 (IntKind.wrap .i64 (n7 - 1))), val := (.int .i64 ((s3l : Nat) : Int)), born := cl1 }) (cl1 + 1))) r4 .i64 (IntKind.wrap .i64 (n7 - 1)) .i64 n9 b2 ∧ K (.tuple ⟨[(.int .i64 n9), (.bool true)]⟩) (World.setObj w8.drew r3 (.map (es1.push { key := (.int .i64 (IntKind.wrap .i64 (n7 - 1))), val := (.int .i64 ((s3l : Nat) : Int)), born := cl1 }) (cl1 + 1)))) else (NN p3 fun a10 => LM w (a10.add 2) fun m4 => NM m4 fun r5 => ∃ (n10 : Int) (b3 : Bool), MapGet w r5 .i64 (IntKind.wrap .i64 (n7 - 1)) .i64 n10 b3 ∧ K (.tuple ⟨[(.int .i64 n10), (.bool true)]⟩) w)

def f23 (p1 : Option Addr) (n1 : Int) (w : World) (K : Value → World → Prop) : Prop := bif (n1 == 0) then (K (.tuple ⟨[(.int .i64 0), (.bool true)]⟩) w) else (NN p1 fun a1 => LP w a1 fun p2 => Ret Pg 43 [(.pointer p2), (.int .i64 (IntKind.wrap .i64 (n1 - 1)))] w fun r1 w1 => ∃ (n2 : Int) (n3 : Int) (n4 : Int), ∃ (n5 : Int), r1 = (.tuple ⟨[(.agg ⟨[(.int .i64 n2), (.int .i64 n3), (.int .i64 n4)]⟩), (.int .i64 n5)]⟩) ∧ NewW [(.int .i64 0), (.int .i64 0), (.int .i64 0)] 64 w1 fun a2 w2 => St w2 a2 (.int .i64 n2) fun w3 => St w3 (a2.add 1) (.int .i64 n3) fun w4 => St w4 (a2.add 2) (.int .i64 n4) fun w5 => bif (n5 != 0) then (K (.tuple ⟨[(.int .i64 0), (.bool false)]⟩) w5) else (LI w5 a2 fun n6 => bif (n6 == 15) then (K (.tuple ⟨[(.int .i64 0), (.bool false)]⟩) w5) else (f23_j1 p1 n1 w5 K)))
theorem f23_ret {p1 : Option Addr} {n1 : Int} {w : World} {K : Value → World → Prop} (h : f23 p1 n1 w K) : Ret Pg 23 [(.pointer p1), (.int .i64 n1)] w K :=
  ret_of_WP (ann := f23_ann) (c := bodyOf Try.f23) follows Try.func23 rfl (by kernel_rfl) (by
    have e : WP Pg 70 f23_ann (bodyOf Try.f23) (retQ Pg Try.f23.results.toList K) (initEnv 0 [(.pointer p1), (.int .i64 n1)]) w = f23 p1 n1 w K := by kernel_rfl
    rw [← e] at h; exact h)

-- (*besom/graph.finder).node
noncomputable def f24_l0_B : Code := sub [1, 1, 1, 0, 1, 0, 0] (bodyOf Try.f24)
@[reducible] def f24_l0_o0 : List (Nat × Sh) := [(4, .one (.ptr)), (8, .one (.ptr))]
@[reducible] def f24_l0_or : List (Nat × Sh) := [(4, .one (.ptr)), (5, .one (.bool))]
@[reducible] def f24_l0_A : Ann := ⟨[(0, .one (.ptr)), (1, .one (.int .i64)), (4, .one (.ptr)), (6, .one (.ptr)), (8, .one (.ptr)), (27, .one (.int .i64)), (28, .one (.int .i64))], [(some 0, f24_l0_o0), (none, f24_l0_or)]⟩
def f24_ann : Nat → Option Ann := fun r => cond (Nat.beq r 4) (some f24_l0_A) (none)
def f24_l0 (p7 : Option Addr) (n11 : Int) (p8 : Option Addr) (p9 : Option Addr) (p10 : Option Addr) (n12 : Int) (n13 : Int) (w : World) (Kn : Tup f24_l0_A.ins → World → Prop) (K0 : Tup f24_l0_o0 → World → Prop) (Kr : Tup f24_l0_or → World → Prop) : Prop := bif (decide (n13 < n12)) then (NN p7 fun a5 => LP w a5 fun p11 => Ret Pg 44 [(.pointer p11), (.int .i64 n11), (.int .i64 n13)] w fun r2 w11 => ∃ (n14 : Int), ∃ (n15 : Int), r2 = (.tuple ⟨[(.int .i64 n14), (.int .i64 n15)]⟩) ∧ NN p9 fun a6 => LI w11 (a6.add 2) fun n16 => bif (decide (n13 ≥ n16)) then (NN p10 fun a7 => LS w11 (a7.add 2) fun s1p s1l s1c => NewW [(.int .i64 n14)] 3 w11 fun a8 w12 => ApW Pg 29 29 (.slice s1p s1l s1c) (.slice (some a8) 1 1) w12 fun s2p s2l s2c w13 => NN p10 fun a9 => St w13 (a9.add 2) (.slice s2p s2l s2c) fun w14 => Kn ⟨p7, n11, p8, p9, p10, n12, (IntKind.wrap .i64 (n13 + 1)), ()⟩ w14) else (Ret Pg 23 [(.pointer p7), (.int .i64 n14)] w11 fun r3 w15 => ∃ (n17 : Int), ∃ (b1 : Bool), r3 = (.tuple ⟨[(.int .i64 n17), (.bool b1)]⟩) ∧ bif (!b1) then (NN p8 fun a10 => St w15 a10 (.int .i64 0) fun w16 => St w16 (a10.add 1) (.slice none 0 0) fun w17 => St w17 (a10.add 2) (.slice none 0 0) fun w18 => Kr ⟨p8, false, ()⟩ w18) else (NN p10 fun a11 => LS w15 (a11.add 1) fun s3p s3l s3c => NewW [(.int .i64 n17)] 3 w15 fun a12 w19 => ApW Pg 29 29 (.slice s3p s3l s3c) (.slice (some a12) 1 1) w19 fun s4p s4l s4c w20 => NN p10 fun a13 => St w20 (a13.add 1) (.slice s4p s4l s4c) fun w21 => Kn ⟨p7, n11, p8, p9, p10, n12, (IntKind.wrap .i64 (n13 + 1)), ()⟩ w21))) else (K0 ⟨p8, p10, ()⟩ w)
theorem f24_l0_eq (p7 : Option Addr) (n11 : Int) (p8 : Option Addr) (p9 : Option Addr) (p10 : Option Addr) (n12 : Int) (n13 : Int) (w : World) (Kn : Tup f24_l0_A.ins → World → Prop) (K0 : Tup f24_l0_o0 → World → Prop) (Kr : Tup f24_l0_or → World → Prop) : WP Pg 68 f24_ann f24_l0_B (bodyQ f24_l0_A (K0, Kr, ()) Kn) (mkEnv f24_l0_A.ins ⟨p7, n11, p8, p9, p10, n12, n13, ()⟩) w = f24_l0 p7 n11 p8 p9 p10 n12 n13 w Kn K0 Kr := by kernel_rfl

def f24 (p1 : Option Addr) (n1 : Int) (w : World) (K : Value → World → Prop) : Prop := NewW [(.int .i64 0), (.slice none 0 0), (.slice none 0 0)] 78 w fun a1 w1 => NN p1 fun a2 => LP w1 a2 fun p2 => Ret Pg 43 [(.pointer p2), (.int .i64 n1)] w1 fun r1 w2 => ∃ (n2 : Int) (n3 : Int) (n4 : Int), ∃ (n5 : Int), r1 = (.tuple ⟨[(.agg ⟨[(.int .i64 n2), (.int .i64 n3), (.int .i64 n4)]⟩), (.int .i64 n5)]⟩) ∧ NewW [(.int .i64 0), (.int .i64 0), (.int .i64 0)] 64 w2 fun a3 w3 => St w3 a3 (.int .i64 n2) fun w4 => St w4 (a3.add 1) (.int .i64 n3) fun w5 => St w5 (a3.add 2) (.int .i64 n4) fun w6 => LI w6 a3 fun n6 => NewW [(.int .i64 0), (.slice none 0 0), (.slice none 0 0)] 78 w6 fun a4 w7 => St w7 a4 (.int .i64 n6) fun w8 => St w8 (a4.add 1) (.slice none 0 0) fun w9 => St w9 (a4.add 2) (.slice none 0 0) fun w10 => LI w10 (a3.add 1) fun n7 => LoopP Pg 68 f24_l0_B f24_l0_A ⟨p1, n1, (some a1), (some a3), (some a4), n7, 0, ()⟩ w10 (fun (y1 : Tup f24_l0_o0) (w22 : World) => NN y1.2.1 fun a14 => ∃ (n18 : Int) (s5p : Option Addr) (s5l : Nat) (s5c : Nat) (s6p : Option Addr) (s6l : Nat) (s6c : Nat), (CellsAt w22 a14 0 [(.int .i64 n18), (.slice s5p s5l s5c), (.slice s6p s6l s6c)] ∧ (3 = 3 ∧ NN y1.1 fun a15 => St w22 a15 (.int .i64 n18) fun w23 => St w23 (a15.add 1) (.slice s5p s5l s5c) fun w24 => St w24 (a15.add 2) (.slice s6p s6l s6c) fun w25 => NN y1.1 fun a16 => ∃ (n19 : Int) (s7p : Option Addr) (s7l : Nat) (s7c : Nat) (s8p : Option Addr) (s8l : Nat) (s8c : Nat), (CellsAt w25 a16 0 [(.int .i64 n19), (.slice s7p s7l s7c), (.slice s8p s8l s8c)] ∧ (3 = 3 ∧ K (.tuple ⟨[(.agg ⟨[(.int .i64 n19), (.slice s7p s7l s7c), (.slice s8p s8l s8c)]⟩), (.bool true)]⟩) w25)))), fun (y2 : Tup f24_l0_or) (w26 : World) => NN y2.1 fun a17 => ∃ (n20 : Int) (s9p : Option Addr) (s9l : Nat) (s9c : Nat) (s10p : Option Addr) (s10l : Nat) (s10c : Nat), (CellsAt w26 a17 0 [(.int .i64 n20), (.slice s9p s9l s9c), (.slice s10p s10l s10c)] ∧ (3 = 3 ∧ K (.tuple ⟨[(.agg ⟨[(.int .i64 n20), (.slice s9p s9l s9c), (.slice s10p s10l s10c)]⟩), (.bool y2.2.1)]⟩) w26)), ())
theorem f24_ret {p1 : Option Addr} {n1 : Int} {w : World} {K : Value → World → Prop} (h : f24 p1 n1 w K) : Ret Pg 24 [(.pointer p1), (.int .i64 n1)] w K :=
  ret_of_WP (ann := f24_ann) (c := bodyOf Try.f24) follows Try.func24 rfl (by kernel_rfl) (by
    have e : WP Pg 68 f24_ann (bodyOf Try.f24) (retQ Pg Try.f24.results.toList K) (initEnv 0 [(.pointer p1), (.int .i64 n1)]) w = f24 p1 n1 w K := by kernel_rfl
    rw [← e] at h; exact h)

-- (besom/graph.Node).head
def f25_ann : Nat → Option Ann := fun _ => none
def f25 (n1 : Int) (s1p : Option Addr) (s1l : Nat) (s1c : Nat) (s2p : Option Addr) (s2l : Nat) (s2c : Nat) (w : World) (K : Value → World → Prop) : Prop := NewW [(.int .i64 n1), (.slice s1p s1l s1c), (.slice s2p s2l s2c)] 78 w fun a1 w1 => NewW [(.int .i64 0), (.int .i64 0), (.int .i64 0)] 64 w1 fun a2 w2 => LI w2 a1 fun n2 => LS w2 (a1.add 1) fun s3p s3l s3c => LS w2 (a1.add 2) fun s4p s4l s4c => LS w2 (a1.add 1) fun s5p s5l s5c => St w2 a2 (.int .i64 n2) fun w3 => St w3 (a2.add 1) (.int .i64 (IntKind.wrap .i64 (((s3l : Nat) : Int) + ((s4l : Nat) : Int)))) fun w4 => St w4 (a2.add 2) (.int .i64 ((s5l : Nat) : Int)) fun w5 => ∃ (n3 : Int) (n4 : Int) (n5 : Int), (CellsAt w5 a2 0 [(.int .i64 n3), (.int .i64 n4), (.int .i64 n5)] ∧ (3 = 3 ∧ K (.agg ⟨[(.int .i64 n3), (.int .i64 n4), (.int .i64 n5)]⟩) w5))
theorem f25_ret {n1 : Int} {s1p : Option Addr} {s1l : Nat} {s1c : Nat} {s2p : Option Addr} {s2l : Nat} {s2c : Nat} {w : World} {K : Value → World → Prop} (h : f25 n1 s1p s1l s1c s2p s2l s2c w K) : Ret Pg 25 [(.agg ⟨[(.int .i64 n1), (.slice s1p s1l s1c), (.slice s2p s2l s2c)]⟩)] w K :=
  ret_of_WP (ann := f25_ann) (c := bodyOf Try.f25) follows Try.func25 rfl (by kernel_rfl) (by
    have e : WP Pg 16 f25_ann (bodyOf Try.f25) (retQ Pg Try.f25.results.toList K) (initEnv 0 [(.agg ⟨[(.int .i64 n1), (.slice s1p s1l s1c), (.slice s2p s2l s2c)]⟩)]) w = f25 n1 s1p s1l s1c s2p s2l s2c w K := by kernel_rfl
    rw [← e] at h; exact h)

-- (besom/graph.Form).Heap$1
def f26_ann : Nat → Option Ann := fun _ => none
def f26 (n1 : Int) (a1 : Addr) (w : World) (K : Value → World → Prop) : Prop := bif (decide (n1 ≥ 0)) then (LS w a1 fun s1p s1l s1c => K (.bool (decide (n1 < ((s1l : Nat) : Int)))) w) else (K (.bool false) w)
theorem f26_ret {n1 : Int} {a1 : Addr} {w : World} {K : Value → World → Prop} (h : f26 n1 a1 w K) : Ret Pg 26 [(.int .i64 n1), (.pointer (some a1))] w K :=
  ret_of_WP (ann := f26_ann) (c := bodyOf Try.f26) follows Try.func26 rfl (by kernel_rfl) (by
    have e : WP Pg 12 f26_ann (bodyOf Try.f26) (retQ Pg Try.f26.results.toList K) (initEnv 0 [(.int .i64 n1), (.pointer (some a1))]) w = f26 n1 a1 w K := by kernel_rfl
    rw [← e] at h; exact h)

-- (*besom/heap.Heap).Size
def f27_ann : Nat → Option Ann := fun _ => none
def f27 (p1 : Option Addr) (w : World) (K : Value → World → Prop) : Prop := NN p1 fun a1 => LS w a1 fun s1p s1l s1c => K (.int .i64 ((s1l : Nat) : Int)) w
theorem f27_ret {p1 : Option Addr} {w : World} {K : Value → World → Prop} (h : f27 p1 w K) : Ret Pg 27 [(.pointer p1)] w K :=
  ret_of_WP (ann := f27_ann) (c := bodyOf Try.f27) follows Try.func27 rfl (by kernel_rfl) (by
    have e : WP Pg 8 f27_ann (bodyOf Try.f27) (retQ Pg Try.f27.results.toList K) (initEnv 0 [(.pointer p1)]) w = f27 p1 w K := by kernel_rfl
    rw [← e] at h; exact h)

-- (*besom/heap.Heap).Walk
def f28_ann : Nat → Option Ann := fun _ => none
def f28 (p1 : Option Addr) (w : World) (K : Value → World → Prop) : Prop := NewW [(.pointer p1)] 28 w fun a1 w1 => K (.func (.func 45) ⟨[]⟩ ⟨[(.pointer (some a1))]⟩) w1
theorem f28_ret {p1 : Option Addr} {w : World} {K : Value → World → Prop} (h : f28 p1 w K) : Ret Pg 28 [(.pointer p1)] w K :=
  ret_of_WP (ann := f28_ann) (c := bodyOf Try.f28) follows Try.func28 rfl (by kernel_rfl) (by
    have e : WP Pg 4 f28_ann (bodyOf Try.f28) (retQ Pg Try.f28.results.toList K) (initEnv 0 [(.pointer p1)]) w = f28 p1 w K := by kernel_rfl
    rw [← e] at h; exact h)

-- (*besom/tally.Tally).count
def f29_ann : Nat → Option Ann := fun _ => none
def f29 (p1 : Option Addr) (n1 : Int) (n2 : Int) (w : World) (K : Value → World → Prop) : Prop := NN p1 fun a1 => 0 ≤ n1 ∧ n1 < ((16 : Nat) : Int) ∧ ∃ (n3 : Int) (n4 : Int), (CellsAt w.drew (Addr.at_ a1 n1 2) 0 [(.int .i64 n3), (.int .i64 n4)] ∧ (2 = 2 ∧ NN p1 fun a2 => Ret Pg 30 [(.agg ⟨[(.int .i64 n3), (.int .i64 n4)]⟩), (.agg ⟨[(.int .i64 1), (.int .i64 n2)]⟩)] w.drew fun r1 w1 => ∃ (n5 : Int) (n6 : Int), r1 = (.agg ⟨[(.int .i64 n5), (.int .i64 n6)]⟩) ∧ 0 ≤ n1 ∧ n1 < ((16 : Nat) : Int) ∧ St w1 (Addr.at_ a2 n1 2) (.int .i64 n5) fun w2 => St w2 (Addr.add (Addr.at_ a2 n1 2) 1) (.int .i64 n6) fun w3 => K (.tuple ⟨[]⟩) w3))
theorem f29_ret {p1 : Option Addr} {n1 : Int} {n2 : Int} {w : World} {K : Value → World → Prop} (h : f29 p1 n1 n2 w K) : Ret Pg 29 [(.pointer p1), (.int .i64 n1), (.int .i64 n2)] w K :=
  ret_of_WP (ann := f29_ann) (c := bodyOf Try.f29) follows Try.func29 rfl (by kernel_rfl) (by
    have e : WP Pg 20 f29_ann (bodyOf Try.f29) (retQ Pg Try.f29.results.toList K) (initEnv 0 [(.pointer p1), (.int .i64 n1), (.int .i64 n2)]) w = f29 p1 n1 n2 w K := by kernel_rfl
    rw [← e] at h; exact h)

-- (besom/tally.Row).plus
def f30_ann : Nat → Option Ann := fun _ => none
def f30 (n1 : Int) (n2 : Int) (n3 : Int) (n4 : Int) (w : World) (K : Value → World → Prop) : Prop := NewW [(.int .i64 n1), (.int .i64 n2)] 45 w fun a1 w1 => NewW [(.int .i64 n3), (.int .i64 n4)] 45 w1 fun a2 w2 => NewW [(.int .i64 0), (.int .i64 0)] 45 w2 fun a3 w3 => LI w3 a1 fun n5 => LI w3 a2 fun n6 => LI w3 (a1.add 1) fun n7 => LI w3 (a2.add 1) fun n8 => St w3 a3 (.int .i64 (IntKind.wrap .i64 (n5 + n6))) fun w4 => St w4 (a3.add 1) (.int .i64 (IntKind.wrap .i64 (n7 + n8))) fun w5 => ∃ (n9 : Int) (n10 : Int), (CellsAt w5 a3 0 [(.int .i64 n9), (.int .i64 n10)] ∧ (2 = 2 ∧ K (.agg ⟨[(.int .i64 n9), (.int .i64 n10)]⟩) w5))
theorem f30_ret {n1 : Int} {n2 : Int} {n3 : Int} {n4 : Int} {w : World} {K : Value → World → Prop} (h : f30 n1 n2 n3 n4 w K) : Ret Pg 30 [(.agg ⟨[(.int .i64 n1), (.int .i64 n2)]⟩), (.agg ⟨[(.int .i64 n3), (.int .i64 n4)]⟩)] w K :=
  ret_of_WP (ann := f30_ann) (c := bodyOf Try.f30) follows Try.func30 rfl (by kernel_rfl) (by
    have e : WP Pg 16 f30_ann (bodyOf Try.f30) (retQ Pg Try.f30.results.toList K) (initEnv 0 [(.agg ⟨[(.int .i64 n1), (.int .i64 n2)]⟩), (.agg ⟨[(.int .i64 n3), (.int .i64 n4)]⟩)]) w = f30 n1 n2 n3 n4 w K := by kernel_rfl
    rw [← e] at h; exact h)

-- math.IsInf
def f31_ann : Nat → Option Ann := fun _ => none
def f31 (f1 : Nat) (n1 : Int) (w : World) (K : Value → World → Prop) : Prop := bif (n1 == 0) then (Ret Pg 47 [(.float .f64 f1)] w fun r1 w1 => ∃ (f2 : Nat), r1 = (.float .f64 f2) ∧ K (.bool ((Ieee.Format.order (FloatKind.format .f64) f2 9218868437227405311) == some Ordering.gt)) w1) else (bif (decide (n1 < 0)) then (K (.bool ((Ieee.Format.order (FloatKind.format .f64) (Op.negFloat .f64 f1) 9218868437227405311) == some Ordering.gt)) w) else (K (.bool ((Ieee.Format.order (FloatKind.format .f64) f1 9218868437227405311) == some Ordering.gt)) w))
theorem f31_ret {f1 : Nat} {n1 : Int} {w : World} {K : Value → World → Prop} (h : f31 f1 n1 w K) : Ret Pg 31 [(.float .f64 f1), (.int .i64 n1)] w K :=
  ret_of_WP (ann := f31_ann) (c := bodyOf Try.f31) follows Try.func31 rfl (by kernel_rfl) (by
    have e : WP Pg 15 f31_ann (bodyOf Try.f31) (retQ Pg Try.f31.results.toList K) (initEnv 0 [(.float .f64 f1), (.int .i64 n1)]) w = f31 f1 n1 w K := by kernel_rfl
    rw [← e] at h; exact h)

-- math.Signbit
def f32_ann : Nat → Option Ann := fun _ => none
def f32 (f1 : Nat) (w : World) (K : Value → World → Prop) : Prop := ExtW Pg 48 [(.float .f64 f1)] fun r1 => ∃ (n1 : Int), r1 = (.int .u64 n1) ∧ K (.bool (decide ((IntKind.wrap .i64 n1) < 0))) w
theorem f32_ret {f1 : Nat} {w : World} {K : Value → World → Prop} (h : f32 f1 w K) : Ret Pg 32 [(.float .f64 f1)] w K :=
  ret_of_WP (ann := f32_ann) (c := bodyOf Try.f32) follows Try.func32 rfl (by kernel_rfl) (by
    have e : WP Pg 7 f32_ann (bodyOf Try.f32) (retQ Pg Try.f32.results.toList K) (initEnv 0 [(.float .f64 f1)]) w = f32 f1 w K := by kernel_rfl
    rw [← e] at h; exact h)

-- (besom/tally.Tally).row
def f33_ann : Nat → Option Ann := fun _ => none
def f33 (vs1 : List Value) (n1 : Int) (w : World) (K : Value → World → Prop) : Prop := NewW vs1 48 w fun a1 w1 => NewW [(.int .i64 0), (.int .i64 0)] 45 w1 fun a2 w2 => bif (decide (n1 < 0)) then (St w2 a2 (.int .i64 0) fun w3 => St w3 (a2.add 1) (.int .i64 0) fun w4 => ∃ (n2 : Int) (n3 : Int), (CellsAt w4 a2 0 [(.int .i64 n2), (.int .i64 n3)] ∧ (2 = 2 ∧ K (.agg ⟨[(.int .i64 n2), (.int .i64 n3)]⟩) w4))) else (bif (decide (n1 ≥ 16)) then (St w2 a2 (.int .i64 0) fun w5 => St w5 (a2.add 1) (.int .i64 0) fun w6 => ∃ (n4 : Int) (n5 : Int), (CellsAt w6 a2 0 [(.int .i64 n4), (.int .i64 n5)] ∧ (2 = 2 ∧ K (.agg ⟨[(.int .i64 n4), (.int .i64 n5)]⟩) w6))) else (0 ≤ n1 ∧ n1 < ((16 : Nat) : Int) ∧ ∃ (n6 : Int) (n7 : Int), (CellsAt w2 (Addr.at_ a1 n1 2) 0 [(.int .i64 n6), (.int .i64 n7)] ∧ (2 = 2 ∧ St w2 a2 (.int .i64 n6) fun w7 => St w7 (a2.add 1) (.int .i64 n7) fun w8 => ∃ (n8 : Int) (n9 : Int), (CellsAt w8 a2 0 [(.int .i64 n8), (.int .i64 n9)] ∧ (2 = 2 ∧ K (.agg ⟨[(.int .i64 n8), (.int .i64 n9)]⟩) w8))))))
theorem f33_ret {vs1 : List Value} {n1 : Int} {w : World} {K : Value → World → Prop} (h : f33 vs1 n1 w K) : Ret Pg 33 [(.agg ⟨vs1⟩), (.int .i64 n1)] w K :=
  ret_of_WP (ann := f33_ann) (c := bodyOf Try.f33) follows Try.func33 rfl (by kernel_rfl) (by
    have e : WP Pg 16 f33_ann (bodyOf Try.f33) (retQ Pg Try.f33.results.toList K) (initEnv 0 [(.agg ⟨vs1⟩), (.int .i64 n1)]) w = f33 vs1 n1 w K := by kernel_rfl
    rw [← e] at h; exact h)

-- besom/gauge.Share
def f34_ann : Nat → Option Ann := fun _ => none
def f34 (n1 : Int) (n2 : Int) (w : World) (K : Value → World → Prop) : Prop := FqW Pg .f64 (FloatKind.nearest .f64 n1) (FloatKind.nearest .f64 n2) w fun f1 w1 => K (.float .f64 f1) w1
theorem f34_ret {n1 : Int} {n2 : Int} {w : World} {K : Value → World → Prop} (h : f34 n1 n2 w K) : Ret Pg 34 [(.int .i64 n1), (.int .i64 n2)] w K :=
  ret_of_WP (ann := f34_ann) (c := bodyOf Try.f34) follows Try.func34 rfl (by kernel_rfl) (by
    have e : WP Pg 10 f34_ann (bodyOf Try.f34) (retQ Pg Try.f34.results.toList K) (initEnv 0 [(.int .i64 n1), (.int .i64 n2)]) w = f34 n1 n2 w K := by kernel_rfl
    rw [← e] at h; exact h)

-- besom/heap.Pack
def f35_ann : Nat → Option Ann := fun _ => none
def f35 (n1 : Int) (n2 : Int) (n3 : Int) (w : World) (K : Value → World → Prop) : Prop := NewW [(.int .i64 n1), (.int .i64 n2), (.int .i64 n3)] 64 w fun a1 w1 => ∃ (n4 : Int) (n5 : Int) (n6 : Int), (CellsAt w1 a1 0 [(.int .i64 n4), (.int .i64 n5), (.int .i64 n6)] ∧ (3 = 3 ∧ Ret Pg 49 [(.agg ⟨[(.int .i64 n4), (.int .i64 n5), (.int .i64 n6)]⟩)] w1 fun r1 w2 => ∃ (b1 : Bool), r1 = (.bool b1) ∧ bif (!b1) then (K (.tuple ⟨[(.int .i64 0), (.int .i64 1)]⟩) w2) else (LI w2 a1 fun n7 => LI w2 (a1.add 2) fun n8 => LI w2 (a1.add 1) fun n9 => K (.tuple ⟨[(.int .i64 (IntKind.wrap .i64 (n7 + (IntKind.wrap .i64 (16 * (IntKind.wrap .i64 (n8 + (IntKind.wrap .i64 (4096 * n9))))))))), (.int .i64 0)]⟩) w2)))
theorem f35_ret {n1 : Int} {n2 : Int} {n3 : Int} {w : World} {K : Value → World → Prop} (h : f35 n1 n2 n3 w K) : Ret Pg 35 [(.agg ⟨[(.int .i64 n1), (.int .i64 n2), (.int .i64 n3)]⟩)] w K :=
  ret_of_WP (ann := f35_ann) (c := bodyOf Try.f35) follows Try.func35 rfl (by kernel_rfl) (by
    have e : WP Pg 17 f35_ann (bodyOf Try.f35) (retQ Pg Try.f35.results.toList K) (initEnv 0 [(.agg ⟨[(.int .i64 n1), (.int .i64 n2), (.int .i64 n3)]⟩)]) w = f35 n1 n2 n3 w K := by kernel_rfl
    rw [← e] at h; exact h)

-- (*besom/heap.Heap).lay
def f36_ann : Nat → Option Ann := fun _ => none
def f36 (p1 : Option Addr) (n1 : Int) (n2 : Int) (n3 : Int) (n4 : Int) (w : World) (K : Value → World → Prop) : Prop := NewW [(.int .i64 n2), (.int .i64 n3), (.int .i64 n4)] 64 w fun a1 w1 => NN p1 fun a2 => LS w1.drew a2 fun s1p s1l s1c => ∃ (n5 : Int) (n6 : Int) (n7 : Int), (CellsAt w1.drew a1 0 [(.int .i64 n5), (.int .i64 n6), (.int .i64 n7)] ∧ (3 = 3 ∧ Ret Pg 35 [(.agg ⟨[(.int .i64 n5), (.int .i64 n6), (.int .i64 n7)]⟩)] w1.drew fun r1 w2 => ∃ (n8 : Int), ∃ (n9 : Int), r1 = (.tuple ⟨[(.int .i64 n8), (.int .i64 n9)]⟩) ∧ Old w1.drew w2 ∧ 0 ≤ n1 ∧ n1 < ((s1l : Nat) : Int) ∧ NN s1p fun a3 => St w2 (Addr.at_ a3 n1 1) (.int .i64 n8) fun w3 => NN p1 fun a4 => LS w3 (a4.add 2) fun s2p s2l s2c => 0 ≤ n1 ∧ n1 < ((s2l : Nat) : Int) ∧ NN s2p fun a5 => St w3 (Addr.at_ a5 n1 1) (.bool true) fun w4 => NN p1 fun a6 => LS w4.drew a6 fun s3p s3l s3c => LI w4.drew (a1.add 1) fun n10 => 0 ≤ (IntKind.wrap .i64 (n1 + 1)) ∧ (IntKind.wrap .i64 (n1 + 1)) ≤ (IntKind.wrap .i64 ((IntKind.wrap .i64 (n1 + 1)) + n10)) ∧ (IntKind.wrap .i64 ((IntKind.wrap .i64 (n1 + 1)) + n10)) ≤ ((s3c : Nat) : Int) ∧ ((s3c : Nat) : Int) ≤ ((s3c : Nat) : Int) ∧ ClW Pg 29 (.slice (if Int.toNat ((s3c : Nat) : Int) = Int.toNat (IntKind.wrap .i64 (n1 + 1)) then s3p else Option.map (fun x => Addr.add x (Int.toNat (IntKind.wrap .i64 (n1 + 1)) * 1)) s3p) (Int.toNat (IntKind.wrap .i64 ((IntKind.wrap .i64 (n1 + 1)) + n10)) - Int.toNat (IntKind.wrap .i64 (n1 + 1))) (Int.toNat ((s3c : Nat) : Int) - Int.toNat (IntKind.wrap .i64 (n1 + 1)))) w4.drew fun w5 => K (.tuple ⟨[]⟩) w5))
theorem f36_ret {p1 : Option Addr} {n1 : Int} {n2 : Int} {n3 : Int} {n4 : Int} {w : World} {K : Value → World → Prop} (h : f36 p1 n1 n2 n3 n4 w K) : Ret Pg 36 [(.pointer p1), (.int .i64 n1), (.agg ⟨[(.int .i64 n2), (.int .i64 n3), (.int .i64 n4)]⟩)] w K :=
  ret_of_WP (ann := f36_ann) (c := bodyOf Try.f36) follows Try.func36 rfl (by kernel_rfl) (by
    have e : WP Pg 35 f36_ann (bodyOf Try.f36) (retQ Pg Try.f36.results.toList K) (initEnv 0 [(.pointer p1), (.int .i64 n1), (.agg ⟨[(.int .i64 n2), (.int .i64 n3), (.int .i64 n4)]⟩)]) w = f36 p1 n1 n2 n3 n4 w K := by kernel_rfl
    rw [← e] at h; exact h)

-- besom/besomref01.Good
def f37_ann : Nat → Option Ann := fun _ => none
def f37 (n1 : Int) (n2 : Int) (n3 : Int) (w : World) (K : Value → World → Prop) : Prop := NewW [(.int .i64 n1), (.int .i64 n2), (.int .i64 n3)] 64 w fun a1 w1 => LI w1 a1 fun n4 => bif (decide (n4 < 0)) then (K (.bool false) w1) else (LI w1 a1 fun n5 => bif (decide (n5 > 15)) then (K (.bool false) w1) else (LI w1 (a1.add 1) fun n6 => bif (decide (n6 < 0)) then (K (.bool false) w1) else (LI w1 (a1.add 1) fun n7 => bif (decide (n7 > 4095)) then (K (.bool false) w1) else (LI w1 (a1.add 2) fun n8 => bif (decide (n8 < 0)) then (K (.bool false) w1) else (LI w1 (a1.add 2) fun n9 => LI w1 (a1.add 1) fun n10 => bif (decide (n9 > n10)) then (K (.bool false) w1) else (LI w1 a1 fun n11 => bif (n11 != 15) then (K (.bool true) w1) else (LI w1 (a1.add 2) fun n12 => K (.bool (n12 == 0)) w1)))))))
theorem f37_ret {n1 : Int} {n2 : Int} {n3 : Int} {w : World} {K : Value → World → Prop} (h : f37 n1 n2 n3 w K) : Ret Pg 37 [(.agg ⟨[(.int .i64 n1), (.int .i64 n2), (.int .i64 n3)]⟩)] w K :=
  ret_of_WP (ann := f37_ann) (c := bodyOf Try.f37) follows Try.func37 rfl (by kernel_rfl) (by
    have e : WP Pg 41 f37_ann (bodyOf Try.f37) (retQ Pg Try.f37.results.toList K) (initEnv 0 [(.agg ⟨[(.int .i64 n1), (.int .i64 n2), (.int .i64 n3)]⟩)]) w = f37 n1 n2 n3 w K := by kernel_rfl
    rw [← e] at h; exact h)

-- besom/besomref01.Top
noncomputable def f38_l0_B : Code := sub [1, 1, 0, 1, 0, 0] (bodyOf Try.f38)
@[reducible] def f38_l0_o0 : List (Nat × Sh) := [(3, .one (.int .i64))]
@[reducible] def f38_l0_A : Ann := ⟨[(1, .one (.ptr)), (3, .one (.int .i64)), (7, .one (.int .i64)), (8, .one (.int .i64))], [(some 0, f38_l0_o0)]⟩
def f38_ann : Nat → Option Ann := fun r => cond (Nat.beq r 3) (some f38_l0_A) (none)
def f38_l0 (p2 : Option Addr) (n5 : Int) (n6 : Int) (n7 : Int) (w : World) (Kn : Tup f38_l0_A.ins → World → Prop) (K0 : Tup f38_l0_o0 → World → Prop) : Prop := bif (decide (n7 < n6)) then (NN p2 fun a2 => LS w (a2.add 1) fun s3p s3l s3c => 0 ≤ n7 ∧ n7 < ((s3l : Nat) : Int) ∧ NN s3p fun a3 => LI w (Addr.add (Addr.add (Addr.at_ a3 n7 5) 1) 1) fun n8 => Kn ⟨p2, (IntKind.wrap .i64 ((IntKind.wrap .i64 (n5 + 1)) + n8)), n6, (IntKind.wrap .i64 (n7 + 1)), ()⟩ w) else (K0 ⟨n5, ()⟩ w)
theorem f38_l0_eq (p2 : Option Addr) (n5 : Int) (n6 : Int) (n7 : Int) (w : World) (Kn : Tup f38_l0_A.ins → World → Prop) (K0 : Tup f38_l0_o0 → World → Prop) : WP Pg 23 f38_ann f38_l0_B (bodyQ f38_l0_A (K0, ()) Kn) (mkEnv f38_l0_A.ins ⟨p2, n5, n6, n7, ()⟩) w = f38_l0 p2 n5 n6 n7 w Kn K0 := by kernel_rfl

def f38 (n1 : Int) (s1p : Option Addr) (s1l : Nat) (s1c : Nat) (w : World) (K : Value → World → Prop) : Prop := NewW [(.int .i64 n1), (.slice s1p s1l s1c)] 32 w fun a1 w1 => LS w1 (a1.add 1) fun s2p s2l s2c => LoopP Pg 23 f38_l0_B f38_l0_A ⟨(some a1), 0, ((s2l : Nat) : Int), 0, ()⟩ w1 (fun (y1 : Tup f38_l0_o0) (w2 : World) => K (.int .i64 y1.1) w2, ())
theorem f38_ret {n1 : Int} {s1p : Option Addr} {s1l : Nat} {s1c : Nat} {w : World} {K : Value → World → Prop} (h : f38 n1 s1p s1l s1c w K) : Ret Pg 38 [(.agg ⟨[(.int .i64 n1), (.slice s1p s1l s1c)]⟩)] w K :=
  ret_of_WP (ann := f38_ann) (c := bodyOf Try.f38) follows Try.func38 rfl (by kernel_rfl) (by
    have e : WP Pg 23 f38_ann (bodyOf Try.f38) (retQ Pg Try.f38.results.toList K) (initEnv 0 [(.agg ⟨[(.int .i64 n1), (.slice s1p s1l s1c)]⟩)]) w = f38 n1 s1p s1l s1c w K := by kernel_rfl
    rw [← e] at h; exact h)

-- (*besom/heap.Heap).field
def f39_ann : Nat → Option Ann := fun _ => none
def f39 (p1 : Option Addr) (n1 : Int) (n2 : Int) (w : World) (K : Value → World → Prop) : Prop := NewW [(.int .i64 0), (.int .i64 0), (.int .i64 0)] 64 w fun a1 w1 => Ret Pg 43 [(.pointer p1), (.int .i64 n1)] w1 fun r1 w2 => ∃ (n3 : Int) (n4 : Int) (n5 : Int), ∃ (n6 : Int), r1 = (.tuple ⟨[(.agg ⟨[(.int .i64 n3), (.int .i64 n4), (.int .i64 n5)]⟩), (.int .i64 n6)]⟩) ∧ NewW [(.int .i64 0), (.int .i64 0), (.int .i64 0)] 64 w2 fun a2 w3 => St w3 a2 (.int .i64 n3) fun w4 => St w4 (a2.add 1) (.int .i64 n4) fun w5 => St w5 (a2.add 2) (.int .i64 n5) fun w6 => bif (n6 != 0) then (St w6 a1 (.int .i64 0) fun w7 => St w7 (a1.add 1) (.int .i64 0) fun w8 => St w8 (a1.add 2) (.int .i64 0) fun w9 => ∃ (n7 : Int) (n8 : Int) (n9 : Int), (CellsAt w9 a1 0 [(.int .i64 n7), (.int .i64 n8), (.int .i64 n9)] ∧ (3 = 3 ∧ K (.tuple ⟨[(.agg ⟨[(.int .i64 n7), (.int .i64 n8), (.int .i64 n9)]⟩), (.int .i64 n6)]⟩) w9))) else (bif (decide (n2 < 0)) then (St w6 a1 (.int .i64 0) fun w10 => St w10 (a1.add 1) (.int .i64 0) fun w11 => St w11 (a1.add 2) (.int .i64 0) fun w12 => ∃ (n10 : Int) (n11 : Int) (n12 : Int), (CellsAt w12 a1 0 [(.int .i64 n10), (.int .i64 n11), (.int .i64 n12)] ∧ (3 = 3 ∧ K (.tuple ⟨[(.agg ⟨[(.int .i64 n10), (.int .i64 n11), (.int .i64 n12)]⟩), (.int .i64 4)]⟩) w12))) else (LI w6 (a2.add 1) fun n13 => bif (decide (n2 ≥ n13)) then (St w6 a1 (.int .i64 0) fun w13 => St w13 (a1.add 1) (.int .i64 0) fun w14 => St w14 (a1.add 2) (.int .i64 0) fun w15 => ∃ (n14 : Int) (n15 : Int) (n16 : Int), (CellsAt w15 a1 0 [(.int .i64 n14), (.int .i64 n15), (.int .i64 n16)] ∧ (3 = 3 ∧ K (.tuple ⟨[(.agg ⟨[(.int .i64 n14), (.int .i64 n15), (.int .i64 n16)]⟩), (.int .i64 4)]⟩) w15))) else (∃ (n17 : Int) (n18 : Int) (n19 : Int), (CellsAt w6 a2 0 [(.int .i64 n17), (.int .i64 n18), (.int .i64 n19)] ∧ (3 = 3 ∧ St w6 a1 (.int .i64 n17) fun w16 => St w16 (a1.add 1) (.int .i64 n18) fun w17 => St w17 (a1.add 2) (.int .i64 n19) fun w18 => ∃ (n20 : Int) (n21 : Int) (n22 : Int), (CellsAt w18 a1 0 [(.int .i64 n20), (.int .i64 n21), (.int .i64 n22)] ∧ (3 = 3 ∧ K (.tuple ⟨[(.agg ⟨[(.int .i64 n20), (.int .i64 n21), (.int .i64 n22)]⟩), (.int .i64 0)]⟩) w18)))))))
theorem f39_ret {p1 : Option Addr} {n1 : Int} {n2 : Int} {w : World} {K : Value → World → Prop} (h : f39 p1 n1 n2 w K) : Ret Pg 39 [(.pointer p1), (.int .i64 n1), (.int .i64 n2)] w K :=
  ret_of_WP (ann := f39_ann) (c := bodyOf Try.f39) follows Try.func39 rfl (by kernel_rfl) (by
    have e : WP Pg 32 f39_ann (bodyOf Try.f39) (retQ Pg Try.f39.results.toList K) (initEnv 0 [(.pointer p1), (.int .i64 n1), (.int .i64 n2)]) w = f39 p1 n1 n2 w K := by kernel_rfl
    rw [← e] at h; exact h)

-- (*besom/heap.Heap).leads
def f40_ann : Nat → Option Ann := fun _ => none
def f40 (p1 : Option Addr) (n1 : Int) (w : World) (K : Value → World → Prop) : Prop := bif (n1 == 0) then (K (.bool true) w) else (Ret Pg 43 [(.pointer p1), (.int .i64 (IntKind.wrap .i64 (n1 - 1)))] w fun r1 w1 => ∃ (n2 : Int) (n3 : Int) (n4 : Int), ∃ (n5 : Int), r1 = (.tuple ⟨[(.agg ⟨[(.int .i64 n2), (.int .i64 n3), (.int .i64 n4)]⟩), (.int .i64 n5)]⟩) ∧ NewW [(.int .i64 0), (.int .i64 0), (.int .i64 0)] 64 w1 fun a1 w2 => St w2 a1 (.int .i64 n2) fun w3 => St w3 (a1.add 1) (.int .i64 n3) fun w4 => St w4 (a1.add 2) (.int .i64 n4) fun w5 => bif (n5 == 0) then (LI w5 a1 fun n6 => K (.bool (n6 != 15)) w5) else (K (.bool false) w5))
theorem f40_ret {p1 : Option Addr} {n1 : Int} {w : World} {K : Value → World → Prop} (h : f40 p1 n1 w K) : Ret Pg 40 [(.pointer p1), (.int .i64 n1)] w K :=
  ret_of_WP (ann := f40_ann) (c := bodyOf Try.f40) follows Try.func40 rfl (by kernel_rfl) (by
    have e : WP Pg 23 f40_ann (bodyOf Try.f40) (retQ Pg Try.f40.results.toList K) (initEnv 0 [(.pointer p1), (.int .i64 n1)]) w = f40 p1 n1 w K := by kernel_rfl
    rw [← e] at h; exact h)

-- besom/besomref01.Find
noncomputable def f41_l0_B : Code := sub [1, 0, 1, 0, 0] (bodyOf Try.f41)
@[reducible] def f41_l0_o0 : List (Nat × Sh) := []
@[reducible] def f41_l0_or : List (Nat × Sh) := [(4, .one (.int .i64))]
@[reducible] def f41_l0_A : Ann := ⟨[(1, .one (.int .i64)), (2, .one (.ptr)), (8, .one (.int .i64)), (9, .one (.int .i64))], [(some 0, f41_l0_o0), (none, f41_l0_or)]⟩
def f41_ann : Nat → Option Ann := fun r => cond (Nat.beq r 2) (some f41_l0_A) (none)
def f41_l0 (n6 : Int) (p2 : Option Addr) (n7 : Int) (n8 : Int) (w : World) (Kn : Tup f41_l0_A.ins → World → Prop) (K0 : Tup f41_l0_o0 → World → Prop) (Kr : Tup f41_l0_or → World → Prop) : Prop := bif (decide (n8 < n7)) then (NN p2 fun a2 => LS w (a2.add 1) fun s3p s3l s3c => 0 ≤ n8 ∧ n8 < ((s3l : Nat) : Int) ∧ NN s3p fun a3 => LI w (Addr.at_ a3 n8 5) fun n9 => bif (n9 == n6) then (Kr ⟨n8, ()⟩ w) else (Kn ⟨n6, p2, n7, (IntKind.wrap .i64 (n8 + 1)), ()⟩ w)) else (K0 () w)
theorem f41_l0_eq (n6 : Int) (p2 : Option Addr) (n7 : Int) (n8 : Int) (w : World) (Kn : Tup f41_l0_A.ins → World → Prop) (K0 : Tup f41_l0_o0 → World → Prop) (Kr : Tup f41_l0_or → World → Prop) : WP Pg 22 f41_ann f41_l0_B (bodyQ f41_l0_A (K0, Kr, ()) Kn) (mkEnv f41_l0_A.ins ⟨n6, p2, n7, n8, ()⟩) w = f41_l0 n6 p2 n7 n8 w Kn K0 Kr := by kernel_rfl

def f41 (n1 : Int) (s1p : Option Addr) (s1l : Nat) (s1c : Nat) (n2 : Int) (w : World) (K : Value → World → Prop) : Prop := NewW [(.int .i64 n1), (.slice s1p s1l s1c)] 32 w fun a1 w1 => LS w1 (a1.add 1) fun s2p s2l s2c => LoopP Pg 22 f41_l0_B f41_l0_A ⟨n2, (some a1), ((s2l : Nat) : Int), 0, ()⟩ w1 (fun (y1 : Tup f41_l0_o0) (w2 : World) => K (.int .i64 (-1)) w2, fun (y2 : Tup f41_l0_or) (w3 : World) => K (.int .i64 y2.1) w3, ())
theorem f41_ret {n1 : Int} {s1p : Option Addr} {s1l : Nat} {s1c : Nat} {n2 : Int} {w : World} {K : Value → World → Prop} (h : f41 n1 s1p s1l s1c n2 w K) : Ret Pg 41 [(.agg ⟨[(.int .i64 n1), (.slice s1p s1l s1c)]⟩), (.int .i64 n2)] w K :=
  ret_of_WP (ann := f41_ann) (c := bodyOf Try.f41) follows Try.func41 rfl (by kernel_rfl) (by
    have e : WP Pg 22 f41_ann (bodyOf Try.f41) (retQ Pg Try.f41.results.toList K) (initEnv 0 [(.agg ⟨[(.int .i64 n1), (.slice s1p s1l s1c)]⟩), (.int .i64 n2)]) w = f41 n1 s1p s1l s1c n2 w K := by kernel_rfl
    rw [← e] at h; exact h)

-- besom/besomref01.Leads
def f42_ann : Nat → Option Ann := fun _ => none
def f42 (n1 : Int) (s1p : Option Addr) (s1l : Nat) (s1c : Nat) (n2 : Int) (w : World) (K : Value → World → Prop) : Prop := NewW [(.int .i64 n1), (.slice s1p s1l s1c)] 32 w fun a1 w1 => bif (decide (n2 ≤ 0)) then (K (.bool (n2 == 0)) w1) else (∃ (n3 : Int) (s2p : Option Addr) (s2l : Nat) (s2c : Nat), (CellsAt w1 a1 0 [(.int .i64 n3), (.slice s2p s2l s2c)] ∧ (2 = 2 ∧ Ret Pg 41 [(.agg ⟨[(.int .i64 n3), (.slice s2p s2l s2c)]⟩), (.int .i64 (IntKind.wrap .i64 (n2 - 1)))] w1 fun r1 w2 => ∃ (n4 : Int), r1 = (.int .i64 n4) ∧ bif (decide (n4 ≥ 0)) then (LS w2 (a1.add 1) fun s3p s3l s3c => 0 ≤ n4 ∧ n4 < ((s3l : Nat) : Int) ∧ NN s3p fun a2 => LI w2 (Addr.add (Addr.at_ a2 n4 5) 1) fun n5 => K (.bool (n5 != 15)) w2) else (K (.bool false) w2))))
theorem f42_ret {n1 : Int} {s1p : Option Addr} {s1l : Nat} {s1c : Nat} {n2 : Int} {w : World} {K : Value → World → Prop} (h : f42 n1 s1p s1l s1c n2 w K) : Ret Pg 42 [(.agg ⟨[(.int .i64 n1), (.slice s1p s1l s1c)]⟩), (.int .i64 n2)] w K :=
  ret_of_WP (ann := f42_ann) (c := bodyOf Try.f42) follows Try.func42 rfl (by kernel_rfl) (by
    have e : WP Pg 26 f42_ann (bodyOf Try.f42) (retQ Pg Try.f42.results.toList K) (initEnv 0 [(.agg ⟨[(.int .i64 n1), (.slice s1p s1l s1c)]⟩), (.int .i64 n2)]) w = f42 n1 s1p s1l s1c n2 w K := by kernel_rfl
    rw [← e] at h; exact h)

-- (*besom/heap.Heap).Head
def f43_ann : Nat → Option Ann := fun _ => none
def f43_j1 (p2 : Option Addr) (n12 : Int) (a5 : Addr) (w : World) (K : Value → World → Prop) : Prop := NN p2 fun a6 => LS w a6 fun s2p s2l s2c => 0 ≤ n12 ∧ n12 < ((s2l : Nat) : Int) ∧ NN s2p fun a7 => LI w (Addr.at_ a7 n12 1) fun n13 => Ret Pg 46 [(.int .i64 n13)] w fun r1 w11 => ∃ (n14 : Int) (n15 : Int) (n16 : Int), ∃ (n17 : Int), r1 = (.tuple ⟨[(.agg ⟨[(.int .i64 n14), (.int .i64 n15), (.int .i64 n16)]⟩), (.int .i64 n17)]⟩) ∧ St w11 a5 (.int .i64 n14) fun w12 => St w12 (a5.add 1) (.int .i64 n15) fun w13 => St w13 (a5.add 2) (.int .i64 n16) fun w14 => ∃ (n18 : Int) (n19 : Int) (n20 : Int), (CellsAt w14 a5 0 [(.int .i64 n18), (.int .i64 n19), (.int .i64 n20)] ∧ (3 = 3 ∧ K (.tuple ⟨[(.agg ⟨[(.int .i64 n18), (.int .i64 n19), (.int .i64 n20)]⟩), (.int .i64 n17)]⟩) w14))

def f43 (p1 : Option Addr) (n1 : Int) (w : World) (K : Value → World → Prop) : Prop := NewW [(.int .i64 0), (.int .i64 0), (.int .i64 0)] 64 w fun a1 w1 => bif (decide (n1 < 0)) then (St w1 a1 (.int .i64 0) fun w2 => St w2 (a1.add 1) (.int .i64 0) fun w3 => St w3 (a1.add 2) (.int .i64 0) fun w4 => ∃ (n2 : Int) (n3 : Int) (n4 : Int), (CellsAt w4 a1 0 [(.int .i64 n2), (.int .i64 n3), (.int .i64 n4)] ∧ (3 = 3 ∧ K (.tuple ⟨[(.agg ⟨[(.int .i64 n2), (.int .i64 n3), (.int .i64 n4)]⟩), (.int .i64 3)]⟩) w4))) else (NN p1 fun a2 => LI w1 (a2.add 1) fun n5 => bif (decide (n1 ≥ n5)) then (St w1 a1 (.int .i64 0) fun w5 => St w5 (a1.add 1) (.int .i64 0) fun w6 => St w6 (a1.add 2) (.int .i64 0) fun w7 => ∃ (n6 : Int) (n7 : Int) (n8 : Int), (CellsAt w7 a1 0 [(.int .i64 n6), (.int .i64 n7), (.int .i64 n8)] ∧ (3 = 3 ∧ K (.tuple ⟨[(.agg ⟨[(.int .i64 n6), (.int .i64 n7), (.int .i64 n8)]⟩), (.int .i64 3)]⟩) w7))) else (NN p1 fun a3 => LS w1 (a3.add 2) fun s1p s1l s1c => 0 ≤ n1 ∧ n1 < ((s1l : Nat) : Int) ∧ NN s1p fun a4 => LB w1 (Addr.at_ a4 n1 1) fun b1 => bif (!b1) then (St w1 a1 (.int .i64 0) fun w8 => St w8 (a1.add 1) (.int .i64 0) fun w9 => St w9 (a1.add 2) (.int .i64 0) fun w10 => ∃ (n9 : Int) (n10 : Int) (n11 : Int), (CellsAt w10 a1 0 [(.int .i64 n9), (.int .i64 n10), (.int .i64 n11)] ∧ (3 = 3 ∧ K (.tuple ⟨[(.agg ⟨[(.int .i64 n9), (.int .i64 n10), (.int .i64 n11)]⟩), (.int .i64 3)]⟩) w10))) else (f43_j1 p1 n1 a1 w1 K)))
theorem f43_ret {p1 : Option Addr} {n1 : Int} {w : World} {K : Value → World → Prop} (h : f43 p1 n1 w K) : Ret Pg 43 [(.pointer p1), (.int .i64 n1)] w K :=
  ret_of_WP (ann := f43_ann) (c := bodyOf Try.f43) follows Try.func43 rfl (by kernel_rfl) (by
    have e : WP Pg 37 f43_ann (bodyOf Try.f43) (retQ Pg Try.f43.results.toList K) (initEnv 0 [(.pointer p1), (.int .i64 n1)]) w = f43 p1 n1 w K := by kernel_rfl
    rw [← e] at h; exact h)

-- (*besom/heap.Heap).Read
def f44_ann : Nat → Option Ann := fun _ => none
def f44 (p1 : Option Addr) (n1 : Int) (n2 : Int) (w : World) (K : Value → World → Prop) : Prop := Ret Pg 39 [(.pointer p1), (.int .i64 n1), (.int .i64 n2)] w fun r1 w1 => ∃ (n3 : Int) (n4 : Int) (n5 : Int), ∃ (n6 : Int), r1 = (.tuple ⟨[(.agg ⟨[(.int .i64 n3), (.int .i64 n4), (.int .i64 n5)]⟩), (.int .i64 n6)]⟩) ∧ NewW [(.int .i64 0), (.int .i64 0), (.int .i64 0)] 64 w1 fun a1 w2 => St w2 a1 (.int .i64 n3) fun w3 => St w3 (a1.add 1) (.int .i64 n4) fun w4 => St w4 (a1.add 2) (.int .i64 n5) fun w5 => bif (n6 != 0) then (K (.tuple ⟨[(.int .i64 0), (.int .i64 n6)]⟩) w5) else (NN p1 fun a2 => LS w5 a2 fun s1p s1l s1c => 0 ≤ (IntKind.wrap .i64 ((IntKind.wrap .i64 (n1 + 1)) + n2)) ∧ (IntKind.wrap .i64 ((IntKind.wrap .i64 (n1 + 1)) + n2)) < ((s1l : Nat) : Int) ∧ NN s1p fun a3 => LI w5 (Addr.at_ a3 (IntKind.wrap .i64 ((IntKind.wrap .i64 (n1 + 1)) + n2)) 1) fun n7 => K (.tuple ⟨[(.int .i64 n7), (.int .i64 0)]⟩) w5)
theorem f44_ret {p1 : Option Addr} {n1 : Int} {n2 : Int} {w : World} {K : Value → World → Prop} (h : f44 p1 n1 n2 w K) : Ret Pg 44 [(.pointer p1), (.int .i64 n1), (.int .i64 n2)] w K :=
  ret_of_WP (ann := f44_ann) (c := bodyOf Try.f44) follows Try.func44 rfl (by kernel_rfl) (by
    have e : WP Pg 30 f44_ann (bodyOf Try.f44) (retQ Pg Try.f44.results.toList K) (initEnv 0 [(.pointer p1), (.int .i64 n1), (.int .i64 n2)]) w = f44 p1 n1 n2 w K := by kernel_rfl
    rw [← e] at h; exact h)

-- (*besom/heap.Heap).Walk$1
noncomputable def f45_l0_B : Code := sub [1, 0, 0] (bodyOf Try.f45)
@[reducible] def f45_l0_o0 : List (Nat × Sh) := []
@[reducible] def f45_l0_or : List (Nat × Sh) := []
@[reducible] def f45_l0_A : Ann := ⟨[(0, .one (.raw)), (1, .one (.ptr)), (3, .one (.int .i64))], [(some 0, f45_l0_o0), (none, f45_l0_or)]⟩
def f45_ann : Nat → Option Ann := fun r => cond (Nat.beq r 1) (some f45_l0_A) (none)
def f45_l0 (v3 : Value) (p2 : Option Addr) (n2 : Int) (w : World) (Kn : Tup f45_l0_A.ins → World → Prop) (K0 : Tup f45_l0_o0 → World → Prop) (Kr : Tup f45_l0_or → World → Prop) : Prop := NN p2 fun a2 => LP w a2 fun p3 => NN p3 fun a3 => LI w (a3.add 1) fun n3 => bif (decide (n2 < n3)) then (NN p2 fun a4 => LP w a4 fun p4 => NN p4 fun a5 => LS w a5 fun s1p s1l s1c => 0 ≤ n2 ∧ n2 < ((s1l : Nat) : Int) ∧ NN s1p fun a6 => LI w (Addr.at_ a6 n2 1) fun n4 => Ret Pg 46 [(.int .i64 n4)] w fun r1 w1 => ∃ (n5 : Int) (n6 : Int) (n7 : Int), ∃ (n8 : Int), r1 = (.tuple ⟨[(.agg ⟨[(.int .i64 n5), (.int .i64 n6), (.int .i64 n7)]⟩), (.int .i64 n8)]⟩) ∧ NewW [(.int .i64 0), (.int .i64 0), (.int .i64 0)] 64 w1 fun a7 w2 => St w2 a7 (.int .i64 n5) fun w3 => St w3 (a7.add 1) (.int .i64 n6) fun w4 => St w4 (a7.add 2) (.int .i64 n7) fun w5 => ∃ (n9 : Int) (n10 : Int) (n11 : Int), (CellsAt w5 a7 0 [(.int .i64 n9), (.int .i64 n10), (.int .i64 n11)] ∧ (3 = 3 ∧ CvW Pg true v3 [(.int .i64 n2), (.agg ⟨[(.int .i64 n9), (.int .i64 n10), (.int .i64 n11)]⟩)] w5 fun r2 w6 => ∃ (b1 : Bool), r2 = (.bool b1) ∧ bif (!b1) then (Kr () w6) else (LI w6 (a7.add 1) fun n12 => Kn ⟨v3, p2, (IntKind.wrap .i64 (n2 + (IntKind.wrap .i64 (1 + n12)))), ()⟩ w6)))) else (K0 () w)
theorem f45_l0_eq (v3 : Value) (p2 : Option Addr) (n2 : Int) (w : World) (Kn : Tup f45_l0_A.ins → World → Prop) (K0 : Tup f45_l0_o0 → World → Prop) (Kr : Tup f45_l0_or → World → Prop) : WP Pg 33 f45_ann f45_l0_B (bodyQ f45_l0_A (K0, Kr, ()) Kn) (mkEnv f45_l0_A.ins ⟨v3, p2, n2, ()⟩) w = f45_l0 v3 p2 n2 w Kn K0 Kr := by kernel_rfl

def f45 (v1 : Value) (a1 : Addr) (w : World) (K : Value → World → Prop) : Prop := LoopP Pg 33 f45_l0_B f45_l0_A ⟨v1, (some a1), 0, ()⟩ w (fun (y1 : Tup f45_l0_o0) (w7 : World) => K (.tuple ⟨[]⟩) w7, fun (y2 : Tup f45_l0_or) (w8 : World) => K (.tuple ⟨[]⟩) w8, ())
theorem f45_ret {v1 : Value} {a1 : Addr} {w : World} {K : Value → World → Prop} (h : f45 v1 a1 w K) : Ret Pg 45 [v1, (.pointer (some a1))] w K :=
  ret_of_WP (ann := f45_ann) (c := bodyOf Try.f45) follows Try.func45 rfl (by kernel_rfl) (by
    have e : WP Pg 33 f45_ann (bodyOf Try.f45) (retQ Pg Try.f45.results.toList K) (initEnv 0 [v1, (.pointer (some a1))]) w = f45 v1 a1 w K := by kernel_rfl
    rw [← e] at h; exact h)

-- besom/heap.Unpack
def f46_ann : Nat → Option Ann := fun _ => none
def f46 (n1 : Int) (w : World) (K : Value → World → Prop) : Prop := NewW [(.int .i64 0), (.int .i64 0), (.int .i64 0)] 64 w fun a1 w1 => bif (decide (n1 < 0)) then (St w1 a1 (.int .i64 0) fun w2 => St w2 (a1.add 1) (.int .i64 0) fun w3 => St w3 (a1.add 2) (.int .i64 0) fun w4 => ∃ (n2 : Int) (n3 : Int) (n4 : Int), (CellsAt w4 a1 0 [(.int .i64 n2), (.int .i64 n3), (.int .i64 n4)] ∧ (3 = 3 ∧ K (.tuple ⟨[(.agg ⟨[(.int .i64 n2), (.int .i64 n3), (.int .i64 n4)]⟩), (.int .i64 2)]⟩) w4))) else (NewW [(.int .i64 0), (.int .i64 0), (.int .i64 0)] 64 w1 fun a2 w5 => St w5 a2 (.int .i64 (Int.tmod n1 16)) fun w6 => St w6 (a2.add 1) (.int .i64 (IntKind.wrap .i64 (Int.tdiv (IntKind.wrap .i64 (Int.tdiv n1 16)) 4096))) fun w7 => St w7 (a2.add 2) (.int .i64 (Int.tmod (IntKind.wrap .i64 (Int.tdiv n1 16)) 4096)) fun w8 => ∃ (n5 : Int) (n6 : Int) (n7 : Int), (CellsAt w8 a2 0 [(.int .i64 n5), (.int .i64 n6), (.int .i64 n7)] ∧ (3 = 3 ∧ Ret Pg 49 [(.agg ⟨[(.int .i64 n5), (.int .i64 n6), (.int .i64 n7)]⟩)] w8 fun r1 w9 => ∃ (b1 : Bool), r1 = (.bool b1) ∧ bif (!b1) then (St w9 a1 (.int .i64 0) fun w10 => St w10 (a1.add 1) (.int .i64 0) fun w11 => St w11 (a1.add 2) (.int .i64 0) fun w12 => ∃ (n8 : Int) (n9 : Int) (n10 : Int), (CellsAt w12 a1 0 [(.int .i64 n8), (.int .i64 n9), (.int .i64 n10)] ∧ (3 = 3 ∧ K (.tuple ⟨[(.agg ⟨[(.int .i64 n8), (.int .i64 n9), (.int .i64 n10)]⟩), (.int .i64 2)]⟩) w12))) else (∃ (n11 : Int) (n12 : Int) (n13 : Int), (CellsAt w9 a2 0 [(.int .i64 n11), (.int .i64 n12), (.int .i64 n13)] ∧ (3 = 3 ∧ St w9 a1 (.int .i64 n11) fun w13 => St w13 (a1.add 1) (.int .i64 n12) fun w14 => St w14 (a1.add 2) (.int .i64 n13) fun w15 => ∃ (n14 : Int) (n15 : Int) (n16 : Int), (CellsAt w15 a1 0 [(.int .i64 n14), (.int .i64 n15), (.int .i64 n16)] ∧ (3 = 3 ∧ K (.tuple ⟨[(.agg ⟨[(.int .i64 n14), (.int .i64 n15), (.int .i64 n16)]⟩), (.int .i64 0)]⟩) w15))))))))
theorem f46_ret {n1 : Int} {w : World} {K : Value → World → Prop} (h : f46 n1 w K) : Ret Pg 46 [(.int .i64 n1)] w K :=
  ret_of_WP (ann := f46_ann) (c := bodyOf Try.f46) follows Try.func46 rfl (by kernel_rfl) (by
    have e : WP Pg 22 f46_ann (bodyOf Try.f46) (retQ Pg Try.f46.results.toList K) (initEnv 0 [(.int .i64 n1)]) w = f46 n1 w K := by kernel_rfl
    rw [← e] at h; exact h)

-- math.Abs
def f47_ann : Nat → Option Ann := fun _ => none
def f47 (f1 : Nat) (w : World) (K : Value → World → Prop) : Prop := ExtW Pg 48 [(.float .f64 f1)] fun r1 => ∃ (n1 : Int), r1 = (.int .u64 n1) ∧ ExtW Pg 50 [(.int .u64 (bitI .andNot .u64 n1 9223372036854775808))] fun r2 => ∃ (f2 : Nat), r2 = (.float .f64 f2) ∧ K (.float .f64 f2) w
theorem f47_ret {f1 : Nat} {w : World} {K : Value → World → Prop} (h : f47 f1 w K) : Ret Pg 47 [(.float .f64 f1)] w K :=
  ret_of_WP (ann := f47_ann) (c := bodyOf Try.f47) follows Try.func47 rfl (by kernel_rfl) (by
    have e : WP Pg 7 f47_ann (bodyOf Try.f47) (retQ Pg Try.f47.results.toList K) (initEnv 0 [(.float .f64 f1)]) w = f47 f1 w K := by kernel_rfl
    rw [← e] at h; exact h)

-- besom/heap.good
def f49_ann : Nat → Option Ann := fun _ => none
def f49 (n1 : Int) (n2 : Int) (n3 : Int) (w : World) (K : Value → World → Prop) : Prop := NewW [(.int .i64 n1), (.int .i64 n2), (.int .i64 n3)] 64 w fun a1 w1 => LI w1 a1 fun n4 => bif (decide (n4 ≥ 0)) then (LI w1 a1 fun n5 => bif (decide (n5 ≤ 15)) then (LI w1 (a1.add 1) fun n6 => bif (decide (n6 ≥ 0)) then (LI w1 (a1.add 1) fun n7 => bif (decide (n7 ≤ 4095)) then (LI w1 (a1.add 2) fun n8 => bif (decide (n8 ≥ 0)) then (LI w1 (a1.add 2) fun n9 => LI w1 (a1.add 1) fun n10 => bif (decide (n9 ≤ n10)) then (LI w1 a1 fun n11 => bif (n11 != 15) then (K (.bool true) w1) else (LI w1 (a1.add 2) fun n12 => K (.bool (n12 == 0)) w1)) else (K (.bool false) w1)) else (K (.bool false) w1)) else (K (.bool false) w1)) else (K (.bool false) w1)) else (K (.bool false) w1)) else (K (.bool false) w1)
theorem f49_ret {n1 : Int} {n2 : Int} {n3 : Int} {w : World} {K : Value → World → Prop} (h : f49 n1 n2 n3 w K) : Ret Pg 49 [(.agg ⟨[(.int .i64 n1), (.int .i64 n2), (.int .i64 n3)]⟩)] w K :=
  ret_of_WP (ann := f49_ann) (c := bodyOf Try.f49) follows Try.func49 rfl (by kernel_rfl) (by
    have e : WP Pg 43 f49_ann (bodyOf Try.f49) (retQ Pg Try.f49.results.toList K) (initEnv 0 [(.agg ⟨[(.int .i64 n1), (.int .i64 n2), (.int .i64 n3)]⟩)]) w = f49 n1 n2 n3 w K := by kernel_rfl
    rw [← e] at h; exact h)


end Go.Proofs.Ytokpbanandikpaa

set_option maxRecDepth 100000
set_option linter.unusedVariables false
set_option linter.unusedSimpArgs false
namespace Go.Proofs.Ytokpbanandikpaa
open Go Go.V Go.Proofs
/-! ### heads -/
structure Hd where
  k : Int
  l : Int
  p : Int
  deriving DecidableEq, Inhabited
def hdc (h : Hd) : List Value := [.int .i64 h.k, .int .i64 h.l, .int .i64 h.p]
def hdv (h : Hd) : Value := .agg ⟨[.int .i64 h.k, .int .i64 h.l, .int .i64 h.p]⟩
def goodH (h : Hd) : Bool := decide (0 ≤ h.k ∧ h.k ≤ 15 ∧ 0 ≤ h.l ∧ h.l ≤ 4095 ∧ 0 ≤ h.p ∧ h.p ≤ h.l ∧ (h.k = 15 → h.p = 0))
def hd0 : Hd := ⟨0, 0, 0⟩
def rawH (n : Int) : Hd := ⟨Int.tmod n 16, IntKind.wrap .i64 (Int.tdiv (IntKind.wrap .i64 (Int.tdiv n 16)) 4096), Int.tmod (IntKind.wrap .i64 (Int.tdiv n 16)) 4096⟩
def unpackH (n : Int) : Hd × Int := if n < 0 then (hd0, 2) else if goodH (rawH n) then (rawH n, 0) else (hd0, 2)
def packH (h : Hd) : Int := h.k + 16 * (h.p + 4096 * h.l)

section
variable {w : World} {K : Value → World → Prop}

theorem good_spec {n1 n2 n3 : Int} (hK : ∀ w', Old w w' → K (.bool (goodH ⟨n1, n2, n3⟩)) w') : Ret Pg 49 [(.agg ⟨[(.int .i64 n1), (.int .i64 n2), (.int .i64 n3)]⟩)] w K := by
  refine f49_ret ?_
  have hO := Owns.start (w := w)
  unfold f49
  refine new_i hO fun _ _ hO => ?_
  replace hK := hK _ hO.old
  repeat' (first | (refine li_i hO (k := 0) (j := 0) rfl rfl rfl ?_) | (first | refine bif_d (fun h => ?_) (fun h => ?_) | refine bif_ne (fun h => ?_) (fun h => ?_)))
  all_goals (refine val_i hK (congrArg Value.bool ?_); rw [Bool.eq_iff_iff]; simp [goodH]; try omega)

theorem unpack_spec {n : Int} (hK : ∀ w', Old w w' → K (.tuple ⟨[hdv (unpackH n).1, .int .i64 (unpackH n).2]⟩) w') : Ret Pg 46 [.int .i64 n] w K := by
  refine f46_ret ?_
  have hO := Owns.start (w := w)
  unfold f46
  unfold unpackH at hK
  refine new_i hO fun _ _ hO => ?_
  refine bif_d (fun h => ?_) (fun h => ?_)
  · rw [if_pos h] at hK
    (refine st_i hO (k := 0) (j := 0) rfl rfl rfl trivial fun _ hO => ?_)
    (refine st_i hO (k := 0) (j := 0) rfl rfl rfl trivial fun _ hO => ?_)
    (refine st_i hO (k := 0) (j := 0) rfl rfl rfl trivial fun _ hO => ?_)
    (refine ⟨_, _, _, (by (refine ca_i hO (k := 0) (j := 0) rfl rfl)), rfl, ?_⟩)
    exact hK _ hO.old
  · rw [if_neg h] at hK
    refine new_i hO fun _ _ hO => ?_
    (refine st_i hO (k := 0) (j := 0) rfl rfl rfl trivial fun _ hO => ?_)
    (refine st_i hO (k := 0) (j := 0) rfl rfl rfl trivial fun _ hO => ?_)
    (refine st_i hO (k := 0) (j := 0) rfl rfl rfl trivial fun _ hO => ?_)
    (refine ⟨_, _, _, (by (refine ca_i hO (k := 0) (j := 0) rfl rfl)), rfl, ?_⟩)
    (refine good_spec fun _ ho => ?_; replace hO := hO.after ho)
    refine ⟨_, rfl, ?_⟩
    refine bif_nb (fun h => ?_) (fun h => ?_)
    · rw [if_neg (by rw [show rawH n = ⟨_, _, _⟩ from rfl, h]; simp)] at hK
      (refine st_i hO (k := 1) (j := 0) rfl rfl rfl trivial fun _ hO => ?_)
      (refine st_i hO (k := 1) (j := 0) rfl rfl rfl trivial fun _ hO => ?_)
      (refine st_i hO (k := 1) (j := 0) rfl rfl rfl trivial fun _ hO => ?_)
      (refine ⟨_, _, _, (by (refine ca_i hO (k := 1) (j := 0) rfl rfl)), rfl, ?_⟩)
      exact hK _ hO.old
    · rw [if_pos (by rw [show rawH n = ⟨_, _, _⟩ from rfl, h])] at hK
      (refine ⟨_, _, _, (by (refine ca_i hO (k := 0) (j := 0) rfl rfl)), rfl, ?_⟩)
      (refine st_i hO (k := 1) (j := 0) rfl rfl rfl trivial fun _ hO => ?_)
      (refine st_i hO (k := 1) (j := 0) rfl rfl rfl trivial fun _ hO => ?_)
      (refine st_i hO (k := 1) (j := 0) rfl rfl rfl trivial fun _ hO => ?_)
      (refine ⟨_, _, _, (by (refine ca_i hO (k := 1) (j := 0) rfl rfl)), rfl, ?_⟩)
      exact hK _ hO.old

theorem pack_spec {n1 n2 n3 : Int} (hK : ∀ w', Old w w' → K (.tuple ⟨[.int .i64 (if goodH ⟨n1, n2, n3⟩ then packH ⟨n1, n2, n3⟩ else 0), .int .i64 (if goodH ⟨n1, n2, n3⟩ then 0 else 1)]⟩) w') : Ret Pg 35 [(.agg ⟨[(.int .i64 n1), (.int .i64 n2), (.int .i64 n3)]⟩)] w K := by
  refine f35_ret ?_
  have hO := Owns.start (w := w)
  unfold f35
  refine new_i hO fun _ _ hO => ?_
  (refine ⟨_, _, _, (by (refine ca_i hO (k := 0) (j := 0) rfl rfl)), rfl, ?_⟩)
  (refine good_spec fun _ ho => ?_; replace hO := hO.after ho)
  refine ⟨_, rfl, ?_⟩
  refine bif_nb (fun h => ?_) (fun h => ?_)
  · rw [h] at hK
    exact hK _ hO.old
  · rw [h] at hK
    (refine li_i hO (k := 0) (j := 0) rfl rfl rfl ?_)
    (refine li_i hO (k := 0) (j := 0) rfl rfl rfl ?_)
    (refine li_i hO (k := 0) (j := 0) rfl rfl rfl ?_)
    simp only [goodH, decide_eq_true_eq] at h
    refine val_i (hK _ hO.old) ?_
    have e1 : IntKind.wrap .i64 (4096 * n2) = 4096 * n2 := wrap64 (by omega) (by omega)
    have e2 : IntKind.wrap .i64 (n3 + 4096 * n2) = n3 + 4096 * n2 := wrap64 (by omega) (by omega)
    have e3 : IntKind.wrap .i64 (16 * (n3 + 4096 * n2)) = 16 * (n3 + 4096 * n2) := wrap64 (by omega) (by omega)
    have e4 : IntKind.wrap .i64 (n1 + 16 * (n3 + 4096 * n2)) = n1 + 16 * (n3 + 4096 * n2) := wrap64 (by omega) (by omega)
    rw [e1, e2, e3, e4]
    rfl
end

end Go.Proofs.Ytokpbanandikpaa

set_option maxRecDepth 100000
set_option linter.unusedVariables false
set_option linter.unusedSimpArgs false
namespace Go.Proofs.Ytokpbanandikpaa
open Go Go.V Go.Proofs
/-! ### a heap -/
structure PH where
  words : List Int
  top : Nat
  starts : List Bool
structure HId where
  b : Nat
  wb : Nat
  sb : Nat
def hpE (i : HId) (H : PH) : List Ent := [cl i.b 94 [.slice (some ⟨i.wb, 0, none⟩) H.words.length H.words.length, .int .i64 H.top, .slice (some ⟨i.sb, 0, none⟩) H.words.length H.words.length], cl i.wb 3 (H.words.map (.int .i64)), cl i.sb 4 (H.starts.map .bool)]
def hpP (i : HId) : Value := .pointer (some ⟨i.b, 0, none⟩)
structure PH.ok (H : PH) : Prop where
  len : H.starts.length = H.words.length
  top : H.top ≤ H.words.length
  big : H.words.length ≤ 65536
  pos : 1 ≤ H.words.length
def PH.begins (H : PH) (n : Int) : Prop := 0 ≤ n ∧ n < H.top ∧ H.starts[n.toNat]? = some true
instance (H : PH) (n : Int) : Decidable (H.begins n) := by unfold PH.begins; infer_instance
def PH.word (H : PH) (n : Int) : Int := (H.words[n.toNat]?).getD 0
def PH.head (H : PH) (n : Int) : Hd × Int := if H.begins n then unpackH (H.word n) else (hd0, 3)
def PH.field (H : PH) (n f : Int) : Hd × Int := if (H.head n).2 ≠ 0 then (hd0, (H.head n).2) else if f < 0 ∨ (H.head n).1.l ≤ f then (hd0, 4) else ((H.head n).1, 0)
def PH.read (H : PH) (n f : Int) : Int × Int := if (H.field n f).2 ≠ 0 then (0, (H.field n f).2) else (H.word (n + 1 + f), 0)
def PH.leads (H : PH) (x : Int) : Bool := decide (x = 0 ∨ ((H.head (x - 1)).2 = 0 ∧ (H.head (x - 1)).1.k ≠ 15))

theorem goodH_iff {h : Hd} : goodH h = true ↔ 0 ≤ h.k ∧ h.k ≤ 15 ∧ 0 ≤ h.l ∧ h.l ≤ 4095 ∧ 0 ≤ h.p ∧ h.p ≤ h.l ∧ (h.k = 15 → h.p = 0) := by unfold goodH; exact decide_eq_true_iff
theorem unpackH_good {n : Int} (h : (unpackH n).2 = 0) : goodH (unpackH n).1 = true := by
  unfold unpackH at *
  split at h
  · cases h
  · split at h
    · rename_i h1 h2; rw [if_neg h1, if_pos h2]; exact h2
    · cases h
theorem PH.head_good {H : PH} {n : Int} (h : (H.head n).2 = 0) : H.begins n ∧ goodH (H.head n).1 = true := by
  unfold PH.head at *
  split at h
  · rename_i h1
    refine ⟨h1, ?_⟩
    rw [if_pos h1]
    exact unpackH_good h
  · cases h

section
variable {w : World} {K : Value → World → Prop} {i : HId} {H : PH}

theorem head_spec {n : Int} (hok : H.ok) (hE : Has w (hpE i H)) (hK : ∀ w', Old w w' → K (.tuple ⟨[hdv (H.head n).1, .int .i64 (H.head n).2]⟩) w') : Ret Pg 43 [hpP i, .int .i64 n] w K := by
  refine f43_ret ?_
  have hO := Owns.start (w := w)
  unfold f43
  unfold PH.head at hK
  have hl := hok.len
  have ht := hok.top
  refine new_i hO fun _ _ hO => ?_
  refine bif_d (fun h => ?_) (fun h => ?_)
  · rw [if_neg (by unfold PH.begins; omega)] at hK
    (refine st_i hO (k := 0) (j := 0) rfl rfl rfl trivial fun _ hO => ?_)
    (refine st_i hO (k := 0) (j := 0) rfl rfl rfl trivial fun _ hO => ?_)
    (refine st_i hO (k := 0) (j := 0) rfl rfl rfl trivial fun _ hO => ?_)
    (refine ⟨_, _, _, (by (refine ca_i hO (k := 0) (j := 0) rfl rfl)), rfl, ?_⟩)
    exact hK _ hO.old
  · refine nn_i ?_
    (refine lir_i hO hE (j := 0) rfl rfl rfl ?_)
    refine bif_d (fun h => ?_) (fun h => ?_)
    · rw [if_neg (by unfold PH.begins; omega)] at hK
      (refine st_i hO (k := 0) (j := 0) rfl rfl rfl trivial fun _ hO => ?_)
      (refine st_i hO (k := 0) (j := 0) rfl rfl rfl trivial fun _ hO => ?_)
      (refine st_i hO (k := 0) (j := 0) rfl rfl rfl trivial fun _ hO => ?_)
      (refine ⟨_, _, _, (by (refine ca_i hO (k := 0) (j := 0) rfl rfl)), rfl, ?_⟩)
      exact hK _ hO.old
    · rename_i h1 h2
      refine nn_i ?_
      (refine lsr_i hO hE (j := 0) rfl rfl rfl ?_)
      refine ⟨by omega, by omega, ?_⟩
      refine nn_i ?_
      obtain ⟨s, hs⟩ : ∃ s, H.starts[n.toNat]? = some s := ⟨_, List.getElem?_eq_getElem (by omega)⟩
      obtain ⟨x, hx⟩ : ∃ x, H.words[n.toNat]? = some x := ⟨_, List.getElem?_eq_getElem (by omega)⟩
      refine elbr_i (x := s) hO hE (j := 2) rfl (by rw [List.getElem?_map, hs]; rfl) ?_
      refine bif_nb (fun h => ?_) (fun h => ?_)
      · subst h
        rw [if_neg (by unfold PH.begins; rw [hs]; simp)] at hK
        (refine st_i hO (k := 0) (j := 0) rfl rfl rfl trivial fun _ hO => ?_)
        (refine st_i hO (k := 0) (j := 0) rfl rfl rfl trivial fun _ hO => ?_)
        (refine st_i hO (k := 0) (j := 0) rfl rfl rfl trivial fun _ hO => ?_)
        (refine ⟨_, _, _, (by (refine ca_i hO (k := 0) (j := 0) rfl rfl)), rfl, ?_⟩)
        exact hK _ hO.old
      · subst h
        rw [if_pos (by unfold PH.begins; exact ⟨by omega, by omega, hs⟩)] at hK
        unfold PH.word at hK
        rw [hx] at hK
        unfold f43_j1
        refine nn_i ?_
        (refine lsr_i hO hE (j := 0) rfl rfl rfl ?_)
        refine ⟨by omega, by omega, ?_⟩
        refine nn_i ?_
        refine elir_i (x := x) hO hE (j := 1) rfl (by rw [List.getElem?_map, hx]; rfl) ?_
        (refine unpack_spec fun _ ho => ?_; replace hO := hO.after ho)
        refine ⟨_, _, _, _, rfl, ?_⟩
        (refine st_i hO (k := 0) (j := 0) rfl rfl rfl trivial fun _ hO => ?_)
        (refine st_i hO (k := 0) (j := 0) rfl rfl rfl trivial fun _ hO => ?_)
        (refine st_i hO (k := 0) (j := 0) rfl rfl rfl trivial fun _ hO => ?_)
        (refine ⟨_, _, _, (by (refine ca_i hO (k := 0) (j := 0) rfl rfl)), rfl, ?_⟩)
        exact hK _ hO.old

theorem field_spec {n f : Int} (hok : H.ok) (hE : Has w (hpE i H)) (hK : ∀ w', Old w w' → K (.tuple ⟨[hdv (H.field n f).1, .int .i64 (H.field n f).2]⟩) w') : Ret Pg 39 [hpP i, .int .i64 n, .int .i64 f] w K := by
  refine f39_ret ?_
  have hO := Owns.start (w := w)
  unfold f39
  unfold PH.field at hK
  refine new_i hO fun _ _ hO => ?_
  (refine (head_spec hok (hE.old hO.old)) fun _ ho => ?_; replace hO := hO.after ho)
  refine ⟨_, _, _, _, rfl, ?_⟩
  refine new_i hO fun _ _ hO => ?_
  (refine st_i hO (k := 0) (j := 0) rfl rfl rfl trivial fun _ hO => ?_)
  (refine st_i hO (k := 0) (j := 0) rfl rfl rfl trivial fun _ hO => ?_)
  (refine st_i hO (k := 0) (j := 0) rfl rfl rfl trivial fun _ hO => ?_)
  refine bif_ne (fun h => ?_) (fun h => ?_)
  · rw [if_pos h] at hK
    (refine st_i hO (k := 1) (j := 0) rfl rfl rfl trivial fun _ hO => ?_)
    (refine st_i hO (k := 1) (j := 0) rfl rfl rfl trivial fun _ hO => ?_)
    (refine st_i hO (k := 1) (j := 0) rfl rfl rfl trivial fun _ hO => ?_)
    (refine ⟨_, _, _, (by (refine ca_i hO (k := 1) (j := 0) rfl rfl)), rfl, ?_⟩)
    exact hK _ hO.old
  · rename_i h0
    rw [if_neg (by simpa using h)] at hK
    refine bif_d (fun h => ?_) (fun h => ?_)
    · rw [if_pos (by omega)] at hK
      (refine st_i hO (k := 1) (j := 0) rfl rfl rfl trivial fun _ hO => ?_)
      (refine st_i hO (k := 1) (j := 0) rfl rfl rfl trivial fun _ hO => ?_)
      (refine st_i hO (k := 1) (j := 0) rfl rfl rfl trivial fun _ hO => ?_)
      (refine ⟨_, _, _, (by (refine ca_i hO (k := 1) (j := 0) rfl rfl)), rfl, ?_⟩)
      exact hK _ hO.old
    · rename_i h1
      (refine li_i hO (k := 0) (j := 0) rfl rfl rfl ?_)
      refine bif_d (fun h => ?_) (fun h => ?_)
      · rw [if_pos (by omega)] at hK
        (refine st_i hO (k := 1) (j := 0) rfl rfl rfl trivial fun _ hO => ?_)
        (refine st_i hO (k := 1) (j := 0) rfl rfl rfl trivial fun _ hO => ?_)
        (refine st_i hO (k := 1) (j := 0) rfl rfl rfl trivial fun _ hO => ?_)
        (refine ⟨_, _, _, (by (refine ca_i hO (k := 1) (j := 0) rfl rfl)), rfl, ?_⟩)
        exact hK _ hO.old
      · rw [if_neg (by omega)] at hK
        (refine ⟨_, _, _, (by (refine ca_i hO (k := 0) (j := 0) rfl rfl)), rfl, ?_⟩)
        (refine st_i hO (k := 1) (j := 0) rfl rfl rfl trivial fun _ hO => ?_)
        (refine st_i hO (k := 1) (j := 0) rfl rfl rfl trivial fun _ hO => ?_)
        (refine st_i hO (k := 1) (j := 0) rfl rfl rfl trivial fun _ hO => ?_)
        (refine ⟨_, _, _, (by (refine ca_i hO (k := 1) (j := 0) rfl rfl)), rfl, ?_⟩)
        exact hK _ hO.old

theorem read_spec {n f : Int} (hok : H.ok) (hfit : ∀ k, (H.head k).2 = 0 → k + (H.head k).1.l < H.words.length) (hE : Has w (hpE i H)) (hK : ∀ w', Old w w' → K (.tuple ⟨[.int .i64 (H.read n f).1, .int .i64 (H.read n f).2]⟩) w') : Ret Pg 44 [hpP i, .int .i64 n, .int .i64 f] w K := by
  refine f44_ret ?_
  have hO := Owns.start (w := w)
  unfold f44
  unfold PH.read at hK
  (refine (field_spec hok (hE.old hO.old)) fun _ ho => ?_; replace hO := hO.after ho)
  refine ⟨_, _, _, _, rfl, ?_⟩
  refine new_i hO fun _ _ hO => ?_
  (refine st_i hO (k := 0) (j := 0) rfl rfl rfl trivial fun _ hO => ?_)
  (refine st_i hO (k := 0) (j := 0) rfl rfl rfl trivial fun _ hO => ?_)
  (refine st_i hO (k := 0) (j := 0) rfl rfl rfl trivial fun _ hO => ?_)
  refine bif_ne (fun h => ?_) (fun h => ?_)
  · rw [if_pos h] at hK
    exact hK _ hO.old
  · rw [if_neg (by simpa using h)] at hK
    have hf := h
    unfold PH.field at hf
    split at hf
    · exact absurd hf ‹_›
    · rename_i h0
      split at hf
      · cases hf
      · rename_i h1
        have h0 : (H.head n).2 = 0 := by simpa using h0
        have hb := (PH.head_good h0).1.1
        have hl := hfit n h0
        have hbig := hok.big
        have e1 : IntKind.wrap .i64 (n + 1) = n + 1 := wrap64 (by omega) (by omega)
        have e2 : IntKind.wrap .i64 (n + 1 + f) = n + 1 + f := wrap64 (by omega) (by omega)
        rw [e1, e2]
        refine nn_i ?_
        (refine lsr_i hO hE (j := 0) rfl rfl rfl ?_)
        refine ⟨by omega, by omega, ?_⟩
        refine nn_i ?_
        obtain ⟨x, hx⟩ : ∃ x, H.words[(n + 1 + f).toNat]? = some x := ⟨_, List.getElem?_eq_getElem (by omega)⟩
        unfold PH.word at hK
        rw [hx] at hK
        refine elir_i (x := x) hO hE (j := 1) rfl (by rw [List.getElem?_map, hx]; rfl) ?_
        exact hK _ hO.old

theorem leads_spec {x : Int} (hx1 : -9223372036854775808 < x) (hx2 : x ≤ 9223372036854775807) (hok : H.ok) (hE : Has w (hpE i H)) (hK : ∀ w', Old w w' → K (.bool (H.leads x)) w') : Ret Pg 40 [hpP i, .int .i64 x] w K := by
  refine f40_ret ?_
  have hO := Owns.start (w := w)
  unfold f40
  refine bif_d (fun h0 => ?_) (fun h0 => ?_)
  · refine val_i (hK _ hO.old) ?_
    simp [PH.leads, h0]
  · skip
    have e1 : IntKind.wrap .i64 (x - 1) = x - 1 := wrap64 (by omega) (by omega)
    rw [e1]
    (refine (head_spec hok (hE.old hO.old)) fun _ ho => ?_; replace hO := hO.after ho)
    refine ⟨_, _, _, _, rfl, ?_⟩
    refine new_i hO fun _ _ hO => ?_
    (refine st_i hO (k := 0) (j := 0) rfl rfl rfl trivial fun _ hO => ?_)
    (refine st_i hO (k := 0) (j := 0) rfl rfl rfl trivial fun _ hO => ?_)
    (refine st_i hO (k := 0) (j := 0) rfl rfl rfl trivial fun _ hO => ?_)
    refine bif_d (fun h => ?_) (fun h => ?_)
    · (refine li_i hO (k := 0) (j := 0) rfl rfl rfl ?_)
      refine val_i (hK _ hO.old) ?_
      rw [Value.bool.injEq, Bool.eq_iff_iff]
      simp only [PH.leads, decide_eq_true_eq, bne_iff_ne]
      exact ⟨fun hh => hh.elim (fun e => absurd e h0) (·.2), fun hh => .inr ⟨h, hh⟩⟩
    · refine val_i (hK _ hO.old) ?_
      rw [Value.bool.injEq, Bool.eq_iff_iff]
      simp only [PH.leads, decide_eq_true_eq]
      exact ⟨fun hh => hh.elim (fun e => absurd e h0) (fun e => absurd e.1 h), fun hh => by cases hh⟩
end

end Go.Proofs.Ytokpbanandikpaa

set_option maxRecDepth 100000
set_option linter.unusedVariables false
set_option linter.unusedSimpArgs false
namespace Go.Proofs.Ytokpbanandikpaa
open Go Go.V Go.Proofs
/-! ### a heap, changed -/
def PH.layW (H : PH) (n : Nat) (x : Hd) : List Int := (H.words.set n (packH x)).take (n + 1) ++ List.replicate x.l.toNat 0 ++ (H.words.set n (packH x)).drop (n + 1 + x.l.toNat)
def PH.lay (H : PH) (n : Nat) (x : Hd) : PH := ⟨H.layW n x, H.top, H.starts.set n true⟩
def PH.place (H : PH) (x : Hd) : PH × Int × Int := if goodH x then (if (H.words.length : Int) - H.top ≤ x.l then (H, 0, 6) else (⟨H.layW H.top x, H.top + 1 + x.l.toNat, H.starts.set H.top true⟩, H.top, 0)) else (H, 0, 1)
def PH.write (H : PH) (n f x : Int) : PH × Int := if (H.field n f).2 ≠ 0 then (H, (H.field n f).2) else if (H.field n f).1.k = 15 then (H, 4) else if f < (H.field n f).1.p ∧ H.leads x = false then (H, 5) else (⟨H.words.set (n + 1 + f).toNat x, H.top, H.starts⟩, 0)

theorem length_layW {H : PH} {n : Nat} {x : Hd} (h1 : n + 1 + x.l.toNat ≤ H.words.length) : (H.layW n x).length = H.words.length := by
  simp [PH.layW]
  omega
theorem lay_ok {H : PH} (hok : H.ok) {n : Nat} {x : Hd} (h1 : n + 1 + x.l.toNat ≤ H.words.length) : (H.lay n x).ok :=
  ⟨by simp [PH.lay, length_layW h1, hok.len], by simp [PH.lay, length_layW h1, hok.top], by simp [PH.lay, length_layW h1, hok.big], by simp [PH.lay, length_layW h1, hok.pos]⟩

section
variable {w0 w : World} {Ls : List (List Ent)} {K : Value → World → Prop} {i : HId} {H : PH}

theorem size_spec (hO : Owns w0 w (hpE i H :: Ls)) (hK : K (.int .i64 H.words.length) w) : Ret Pg 27 [hpP i] w K := by
  refine f27_ret ?_
  unfold f27
  refine nn_i ?_
  (refine ls_i hO (k := 0) (j := 0) rfl rfl rfl ?_)
  exact hK

theorem lay_spec {n : Nat} {x : Hd} (hok : H.ok) (hg : goodH x = true) (hn : n + 1 + x.l.toNat ≤ H.words.length) (hO : Owns w0 w (hpE i H :: Ls)) (hK : ∀ w', Owns w0 w' (hpE i (H.lay n x) :: Ls) → K (.tuple ⟨[]⟩) w') : Ret Pg 36 [hpP i, .int .i64 n, hdv x] w K := by
  refine f36_ret ?_
  unfold f36
  have hbig := hok.big
  have hl := hok.len
  have hg' := goodH_iff.1 hg
  refine new_i hO fun _ _ hO => ?_
  replace hO := hO.drew
  refine nn_i ?_
  (refine ls_i hO (k := 1) (j := 0) rfl rfl rfl ?_)
  (refine ⟨_, _, _, (by (refine ca_i hO (k := 0) (j := 0) rfl rfl)), rfl, ?_⟩)
  (refine pack_spec fun _ ho => ?_; replace hO := hO.after ho)
  rw [if_pos (show goodH ⟨x.k, x.l, x.p⟩ = true from hg), if_pos (show goodH ⟨x.k, x.l, x.p⟩ = true from hg)]
  refine ⟨_, _, rfl, ho, by omega, by omega, ?_⟩
  refine nn_i ?_
  refine est_i hO (k := 1) (j := 1) rfl (by simp; omega) trivial fun _ hO => ?_
  refine nn_i ?_
  (refine ls_i hO (k := 1) (j := 0) rfl rfl rfl ?_)
  refine ⟨by omega, by omega, ?_⟩
  refine nn_i ?_
  refine est_i hO (k := 1) (j := 2) rfl (by simp; omega) trivial fun _ hO => ?_
  replace hO := hO.drew
  refine nn_i ?_
  (refine ls_i hO (k := 1) (j := 0) rfl rfl rfl ?_)
  (refine li_i hO (k := 0) (j := 0) rfl rfl rfl ?_)
  have e1 : IntKind.wrap .i64 ((n : Int) + 1) = n + 1 := wrap64 (by omega) (by omega)
  have e2 : IntKind.wrap .i64 ((n : Int) + 1 + x.l) = n + 1 + x.l := wrap64 (by omega) (by omega)
  rw [e1, e2]
  refine ⟨by omega, by omega, by omega, by omega, ?_⟩
  refine clw_i (z := .int .i64 0) (i := n + 1) hO (k := 1) (j := 1) rfl rfl rfl rfl trivial rfl ?_ ?_ fun _ hO => ?_
  · intro hpos
    rw [if_neg (by omega)]
    simp [add_mk]
  · simp
    omega
  · refine hK _ ((hO.dropn 1 rfl).to ?_)
    have e3 : ((n : Int) + 1 + x.l).toNat - (n + 1) = x.l.toNat := by omega
    simp only [set2, hpE, PH.lay, length_layW hn, Int.toNat_natCast, show ((n : Int) + 1).toNat = n + 1 by omega, e3, List.drop, List.set]
    simp [PH.layW, List.map_set, List.map_take, List.map_drop]

theorem place_spec {x : Hd} (hok : H.ok) (hO : Owns w0 w (hpE i H :: Ls)) (hK : ∀ w', Owns w0 w' (hpE i (H.place x).1 :: Ls) → K (.tuple ⟨[.int .i64 (H.place x).2.1, .int .i64 (H.place x).2.2]⟩) w') : Ret Pg 18 [hpP i, hdv x] w K := by
  refine f18_ret ?_
  unfold f18
  unfold PH.place at hK
  have hbig := hok.big
  have hl := hok.len
  have ht := hok.top
  refine new_i hO fun _ _ hO => ?_
  (refine ⟨_, _, _, (by (refine ca_i hO (k := 0) (j := 0) rfl rfl)), rfl, ?_⟩)
  (refine pack_spec fun _ ho => ?_; replace hO := hO.after ho)
  by_cases hg : goodH x = true
  · rw [if_pos (show goodH ⟨x.k, x.l, x.p⟩ = true from hg), if_pos (show goodH ⟨x.k, x.l, x.p⟩ = true from hg)]
    rw [if_pos hg] at hK
    have hg' := goodH_iff.1 hg
    refine ⟨_, _, rfl, ?_⟩
    rw [show ((0 : Int) != 0) = false from rfl, cond_false]
    replace hO := hO.drew
    (refine li_i hO (k := 0) (j := 0) rfl rfl rfl ?_)
    refine nn_i ?_
    (refine ls_i hO (k := 1) (j := 0) rfl rfl rfl ?_)
    refine nn_i ?_
    (refine li_i hO (k := 1) (j := 0) rfl rfl rfl ?_)
    have e1 : IntKind.wrap .i64 (((H.words.length : Nat) : Int) - H.top) = H.words.length - H.top := wrap64 (by omega) (by omega)
    rw [e1]
    refine bif_d (fun h => ?_) (fun h => ?_)
    · rw [if_pos h] at hK
      (exact hK _ (hO.dropn 1 rfl))
    · rw [if_neg h] at hK
      refine nn_i ?_
      (refine li_i hO (k := 1) (j := 0) rfl rfl rfl ?_)
      (refine ⟨_, _, _, (by (refine ca_i hO (k := 0) (j := 0) rfl rfl)), rfl, ?_⟩)
      refine lay_spec hok hg (n := H.top) (by omega) (hO.pick 1) fun _ hO => ?_
      replace hO := hO.pick 1
      refine ⟨rfl, ?_⟩
      replace hO := hO.drew
      refine nn_i ?_
      (refine li_i hO (k := 1) (j := 0) rfl rfl rfl ?_)
      (refine li_i hO (k := 0) (j := 0) rfl rfl rfl ?_)
      refine nn_i ?_
      (refine st_i hO (k := 1) (j := 0) rfl rfl rfl trivial fun _ hO => ?_)
      refine val_i (hK _ ((hO.dropn 1 rfl).to ?_)) ?_
      · have e2 : IntKind.wrap .i64 (1 + x.l) = 1 + x.l := wrap64 (by omega) (by omega)
        have e3 : IntKind.wrap .i64 ((H.top : Int) + (1 + x.l)) = H.top + (1 + x.l) := wrap64 (by omega) (by omega)
        have e4 : ((H.top + 1 + x.l.toNat : Nat) : Int) = H.top + (1 + x.l) := by omega
        simp only [pick1, set2, hpE, PH.lay, e2, e3, e4, List.drop, List.set]
      · rfl
  · rw [if_neg (show ¬ goodH ⟨x.k, x.l, x.p⟩ = true from hg), if_neg (show ¬ goodH ⟨x.k, x.l, x.p⟩ = true from hg)]
    rw [if_neg hg] at hK
    refine ⟨_, _, rfl, ?_⟩
    rw [show ((1 : Int) != 0) = true from rfl, cond_true]
    (exact hK _ (hO.dropn 1 rfl))

theorem write_spec {n f x : Int} (hok : H.ok) (hfit : ∀ k, (H.head k).2 = 0 → k + (H.head k).1.l < H.words.length) (hx1 : -9223372036854775808 < x) (hx2 : x ≤ 9223372036854775807) (hO : Owns w0 w (hpE i H :: Ls)) (hK : ∀ w', Owns w0 w' (hpE i (H.write n f x).1 :: Ls) → K (.int .i64 (H.write n f x).2) w') : Ret Pg 20 [hpP i, .int .i64 n, .int .i64 f, .int .i64 x] w K := by
  refine f20_ret ?_
  unfold f20
  unfold PH.write at hK
  have hbig := hok.big
  (refine (field_spec hok (hO.has 0 rfl)) fun _ ho => ?_; replace hO := hO.after ho)
  refine ⟨_, _, _, _, rfl, ?_⟩
  refine new_i hO fun _ _ hO => ?_
  (refine st_i hO (k := 0) (j := 0) rfl rfl rfl trivial fun _ hO => ?_)
  (refine st_i hO (k := 0) (j := 0) rfl rfl rfl trivial fun _ hO => ?_)
  (refine st_i hO (k := 0) (j := 0) rfl rfl rfl trivial fun _ hO => ?_)
  refine bif_ne (fun h0 => ?_) (fun h0 => ?_)
  · rw [if_pos h0] at hK
    (exact hK _ (hO.dropn 1 rfl))
  · rw [if_neg (by simpa using h0)] at hK
    have hf := h0
    unfold PH.field at hf
    split at hf
    · exact absurd hf ‹_›
    · rename_i h00
      split at hf
      · cases hf
      · rename_i h1
        have hf0 : H.field n f = ((H.head n).1, 0) := by unfold PH.field; rw [if_neg h00, if_neg h1]
        have h00 : (H.head n).2 = 0 := by simpa using h00
        have hb := (PH.head_good h00).1.1
        have hl := hfit n h00
        have e1 : IntKind.wrap .i64 (n + 1) = n + 1 := wrap64 (by omega) (by omega)
        have e2 : IntKind.wrap .i64 (n + 1 + f) = n + 1 + f := wrap64 (by omega) (by omega)
        have fin : ∀ w', Owns w0 w' (hpE i H :: Ls) → K (.int .i64 0) w' = K (.int .i64 0) w' := fun _ _ => rfl
        (refine li_i hO (k := 0) (j := 0) rfl rfl rfl ?_)
        refine bif_d (fun h2 => ?_) (fun h2 => ?_)
        · rw [if_pos h2] at hK
          (exact hK _ (hO.dropn 1 rfl))
        · rw [if_neg h2] at hK
          have join : ∀ w1, Owns w0 w1 (hpE i H :: Ls) → ¬ (f < (H.field n f).1.p ∧ H.leads x = false) → f20_j1 (some ⟨i.b, 0, none⟩) n f x w1 K := by
            intro w1 hO hn
            rw [if_neg hn] at hK
            unfold f20_j1
            rw [e1, e2]
            refine nn_i ?_
            (refine ls_i hO (k := 0) (j := 0) rfl rfl rfl ?_)
            refine ⟨by omega, by omega, ?_⟩
            refine nn_i ?_
            refine est_i hO (k := 0) (j := 1) rfl (by simp; omega) trivial fun _ hO => ?_
            refine hK _ (hO.to ?_)
            simp [set2, hpE, List.map_set]
          (refine li_i hO (k := 0) (j := 0) rfl rfl rfl ?_)
          refine bif_d (fun h3 => ?_) (fun h3 => ?_)
          · (refine (leads_spec hx1 hx2 hok (hO.has 1 rfl)) fun _ ho => ?_; replace hO := hO.after ho)
            refine ⟨_, rfl, ?_⟩
            refine bif_nb (fun h4 => ?_) (fun h4 => ?_)
            · rw [if_pos ⟨h3, h4⟩] at hK
              (exact hK _ (hO.dropn 1 rfl))
            · exact join _ (hO.dropn 1 rfl) (fun hh => by rw [h4] at hh; cases hh.2)
          · exact join _ (hO.dropn 1 rfl) (fun hh => h3 hh.1)
end

end Go.Proofs.Ytokpbanandikpaa

set_option maxRecDepth 100000
set_option linter.unusedVariables false
set_option linter.unusedSimpArgs false
namespace Go.Proofs.Ytokpbanandikpaa
open Go Go.V Go.Proofs
/-! ### a heap, new; its objects, one by one -/
def PH.new (n : Nat) : PH := ⟨List.replicate n 0, 0, List.replicate n false⟩
theorem PH.new_ok {n : Nat} (h1 : 1 ≤ n) (h2 : n ≤ 65536) : (PH.new n).ok := ⟨by simp [PH.new], by simp [PH.new], by simpa [PH.new] using h2, by simpa [PH.new] using h1⟩
def walkV (b : Nat) : Value := .func (.func 45) ⟨[]⟩ ⟨[.pointer (some ⟨b, 0, none⟩)]⟩

section
variable {w0 w : World} {Ls : List (List Ent)} {K : Value → World → Prop} {i : HId} {H : PH}

theorem new_bad {n : Int} (hn : n < 1 ∨ 65536 < n) (hK : K (.tuple ⟨[.pointer none, .int .i64 1]⟩) w) : Ret Pg 17 [.int .i64 n] w K := by
  refine f17_ret ?_
  unfold f17
  refine bif_d (fun h => ?_) (fun h => ?_)
  · exact hK
  · refine bif_d (fun h => ?_) (fun h => ?_)
    · exact hK
    · omega
theorem new_spec {n : Int} (h1 : 1 ≤ n) (h2 : n ≤ 65536) (hO : Owns w0 w Ls) (hK : ∀ i w', Owns w0 w' (hpE i (PH.new n.toNat) :: Ls) → K (.tuple ⟨[hpP i, .int .i64 0]⟩) w') : Ret Pg 17 [.int .i64 n] w K := by
  refine f17_ret ?_
  unfold f17
  refine bif_d (fun h => ?_) (fun h => ?_)
  · omega
  · refine bif_d (fun h => ?_) (fun h => ?_)
    · omega
    · have e1 : ∀ i, hpE i (PH.new n.toNat) = [cl i.b 94 [.slice (some ⟨i.wb, 0, none⟩) n.toNat n.toNat, .int .i64 0, .slice (some ⟨i.sb, 0, none⟩) n.toNat n.toNat], cl i.wb 3 (reps n.toNat [.int .i64 0]), cl i.sb 4 (reps n.toNat [.bool false])] := fun i => by simp [hpE, PH.new, reps]
      refine ⟨⟨by omega, by omega, by omega, by omega, ?_⟩, ⟨by omega, by omega, by omega, by omega, ?_⟩⟩
      · refine new_i hO.drew fun wb _ hO => ?_
        refine ⟨by omega, by omega, by omega, by omega, ?_⟩
        refine new_i hO fun sb _ hO => ?_
        refine new_i hO fun b _ hO => ?_
        refine hK ⟨b, wb, sb⟩ _ (hO.perm ?_)
        rw [List.flatten_cons, e1]
        exact .cons _ (.swap _ _ _)
      · refine new_i hO.drew fun sb _ hO => ?_
        refine ⟨by omega, by omega, by omega, by omega, ?_⟩
        refine new_i hO fun wb _ hO => ?_
        refine new_i hO fun b _ hO => ?_
        refine hK ⟨b, wb, sb⟩ _ (hO.perm ?_)
        rw [List.flatten_cons, e1]
        exact .refl _

theorem walk_spec (hO : Owns w0 w Ls) (hK : ∀ b w', Owns w0 w' ([cl b 28 [hpP i]] :: Ls) → K (walkV b) w') : Ret Pg 28 [hpP i] w K := by
  refine f28_ret ?_
  unfold f28
  refine new_i hO fun b _ hO => ?_
  exact hK _ _ hO

/-- Where a heap's objects begin: from n on, all stand whole. -/
def PH.run (H : PH) : Nat → Int → Prop
  | 0, n => H.top ≤ n
  | f + 1, n => H.top ≤ n ∨ (n < H.top ∧ 0 ≤ (unpackH (H.word n)).1.l ∧ (unpackH (H.word n)).1.l ≤ 65536 ∧ H.run f (n + (1 + (unpackH (H.word n)).1.l)))

end

end Go.Proofs.Ytokpbanandikpaa

set_option maxRecDepth 100000
set_option linter.unusedVariables false
set_option linter.unusedSimpArgs false
namespace Go.Proofs.Ytokpbanandikpaa
open Go Go.V Go.Proofs
/-! ### the document's heap: objects as a list -/
def IntsE (E : List Ent) (p : Option Addr) (xs : List Int) : Prop := ∀ i x, xs[i]? = some x → ∃ b o cs T, p = some ⟨b, o, none⟩ ∧ cl b T cs ∈ E ∧ cs[o + i]? = some (.int .i64 x)
structure ROb where
  at_ : Int
  h : Hd
  ws : List Int
def robc (ob : ROb) (wp : Option Addr) (wc : Nat) : List Value := [.int .i64 ob.at_, .int .i64 ob.h.k, .int .i64 ob.h.l, .int .i64 ob.h.p, .slice wp ob.ws.length wc]
/-- These cells hold these objects. -/
def ObsE (E : List Ent) : List ROb → List Value → Prop
  | [], _ => True
  | ob :: r, cs => ∃ wp wc rest, cs = robc ob wp wc ++ rest ∧ IntsE E wp ob.ws ∧ ObsE E r rest
def RefE (E : List Ent) (p : Option Addr) (l : Nat) (os : List ROb) : Prop := l = os.length ∧ (0 < l → ∃ b cs T, p = some ⟨b, 0, none⟩ ∧ cl b T cs ∈ E ∧ ObsE E os cs)
def lenOk (os : List ROb) : Prop := (∀ ob ∈ os, 0 ≤ ob.h.l ∧ ob.h.l ≤ 4095) ∧ os.length ≤ 100000
def topR : List ROb → Int
  | [] => 0
  | ob :: r => 1 + ob.h.l + topR r
def findR (at_ : Int) : List ROb → Int → Int
  | [], _ => -1
  | ob :: r, i => if ob.at_ = at_ then i else findR at_ r (i + 1)
def leadsR (os : List ROb) (x : Int) : Bool := if x ≤ 0 then x == 0 else if 0 ≤ findR (x - 1) os 0 then (((os[(findR (x - 1) os 0).toNat]?).map (·.h.k)).getD 0 != 15) else false

theorem IntsE.mono {E E' : List Ent} {p : Option Addr} {xs : List Int} (h : IntsE E p xs) (hE : ∀ x ∈ E, x ∈ E') : IntsE E' p xs :=
  fun i x hx => let ⟨b, o, cs, T, h1, h2, h3⟩ := h i x hx; ⟨b, o, cs, T, h1, hE _ h2, h3⟩
theorem ObsE.mono {E E' : List Ent} (hE : ∀ x ∈ E, x ∈ E') : ∀ {os : List ROb} {cs : List Value}, ObsE E os cs → ObsE E' os cs
  | [], _, _ => trivial
  | _ :: _, _, ⟨wp, wc, rest, h1, h2, h3⟩ => ⟨wp, wc, rest, h1, h2.mono hE, h3.mono hE⟩
theorem RefE.mono {E E' : List Ent} {p : Option Addr} {l : Nat} {os : List ROb} (h : RefE E p l os) (hE : ∀ x ∈ E, x ∈ E') : RefE E' p l os :=
  ⟨h.1, fun hl => let ⟨b, cs, T, h1, h2, h3⟩ := h.2 hl; ⟨b, cs, T, h1, hE _ h2, h3.mono hE⟩⟩
theorem ObsE.get {E : List Ent} : ∀ {os : List ROb} {cs : List Value}, ObsE E os cs → ∀ {j : Nat} {ob : ROb}, os[j]? = some ob →
    ∃ wp wc, IntsE E wp ob.ws ∧ cs[j * 5]? = some (.int .i64 ob.at_) ∧ cs[j * 5 + 1]? = some (.int .i64 ob.h.k) ∧ cs[j * 5 + 2]? = some (.int .i64 ob.h.l) ∧ cs[j * 5 + 3]? = some (.int .i64 ob.h.p) ∧ cs[j * 5 + 4]? = some (.slice wp ob.ws.length wc)
  | [], _, _, j, ob, hj => by cases hj
  | o :: r, cs, ⟨wp, wc, rest, h1, h2, h3⟩, j, ob, hj => by
    subst h1
    cases j with
    | zero =>
      have : o = ob := by simpa using hj
      subst this
      exact ⟨wp, wc, h2, rfl, rfl, rfl, rfl, rfl⟩
    | succ j =>
      obtain ⟨wp', wc', a1, a2, a3, a4, a5, a6⟩ := ObsE.get h3 (j := j) (ob := ob) (by simpa using hj)
      have e : ∀ k, (robc o wp wc ++ rest)[(j + 1) * 5 + k]? = rest[j * 5 + k]? := fun k => by
        rw [List.getElem?_append_right (by simp [robc]; omega)]
        congr 1
        simp [robc]
        omega
      exact ⟨wp', wc', a1, by rw [← a2]; exact e 0, by rw [← a3]; exact e 1, by rw [← a4]; exact e 2, by rw [← a5]; exact e 3, by rw [← a6]; exact e 4⟩
theorem lenOk.tail {ob : ROb} {r : List ROb} (h : lenOk (ob :: r)) : lenOk r := ⟨fun x hx => h.1 x (by simp [hx]), by have := h.2; simp at this; omega⟩
theorem topR_bound : ∀ {os : List ROb}, lenOk os → 0 ≤ topR os ∧ topR os ≤ 4096 * os.length
  | [], _ => ⟨Int.le_refl 0, by simp [topR]⟩
  | ob :: r, h => by
    have h1 := h.1 ob (by simp)
    have h2 := topR_bound h.tail
    simp only [topR, List.length_cons]
    omega
theorem topR_append : ∀ (os os' : List ROb), topR (os ++ os') = topR os + topR os'
  | [], _ => by simp [topR]
  | ob :: r, os' => by simp only [List.cons_append, topR, topR_append r os']; omega
theorem topR_take {os : List ROb} {j : Nat} {ob : ROb} (h : os[j]? = some ob) : topR (os.take (j + 1)) = topR (os.take j) + 1 + ob.h.l := by
  obtain ⟨hl, he⟩ := List.getElem?_eq_some_iff.1 h
  rw [List.take_succ_eq_append_getElem hl, topR_append, he]
  simp [topR]
  omega
theorem lenOk.take {os : List ROb} (h : lenOk os) (j : Nat) : lenOk (os.take j) := ⟨fun x hx => h.1 x (List.mem_of_mem_take hx), by have := h.2; simp; omega⟩

section
variable {w : World} {K : Value → World → Prop} {E : List Ent} {p : Option Addr} {l c : Nat} {os : List ROb}

theorem rgood_spec {n1 n2 n3 : Int} (hK : ∀ w', Old w w' → K (.bool (goodH ⟨n1, n2, n3⟩)) w') : Ret Pg 37 [(.agg ⟨[(.int .i64 n1), (.int .i64 n2), (.int .i64 n3)]⟩)] w K := by
  refine f37_ret ?_
  have hO := Owns.start (w := w)
  unfold f37
  refine new_i hO fun _ _ hO => ?_
  replace hK := hK _ hO.old
  repeat' (first | (refine li_i hO (k := 0) (j := 0) rfl rfl rfl ?_) | (first | refine bif_d (fun h => ?_) (fun h => ?_) | refine bif_ne (fun h => ?_) (fun h => ?_)))
  all_goals (refine val_i hK (congrArg Value.bool ?_); rw [Bool.eq_iff_iff]; simp [goodH]; try omega)

theorem rtop_spec {n : Int} (hl : lenOk os) (hE : Has w E) (hR : RefE E p l os) (hK : ∀ w', Old w w' → K (.int .i64 (topR os)) w') : Ret Pg 38 [(.agg ⟨[(.int .i64 n), (.slice p l c)]⟩)] w K := by
  refine f38_ret ?_
  have hO := Owns.start (w := w)
  unfold f38
  refine new_i hO fun bx w1 hO => ?_
  (refine ls_i hO (k := 0) (j := 0) rfl rfl rfl ?_)
  have hlen := hl.2
  let Inv : Option Addr → Int → Int → Int → World → Prop := fun q s m i w' => q = some ⟨bx, 0, none⟩ ∧ 0 ≤ i ∧ i ≤ l ∧ m = l ∧ s = topR (os.take i.toNat) ∧ w' = w1
  refine LoopP_intro (ann := f38_ann) follows (fun x w => Inv x.1 x.2.1 x.2.2.1 x.2.2.2.1 w) (fun x _ => (l - x.2.2.2.1 : Int).toNat) ⟨rfl, Int.le_refl 0, Int.natCast_nonneg _, rfl, rfl, rfl⟩ (fun x w h => (f38_l0_eq _ _ _ _ _ _ _).mpr ?_)
  suffices S : ∀ (q : Option Addr) (s m i : Int), Inv q s m i w → f38_l0 q s m i w (fun x' w' => Inv x'.1 x'.2.1 x'.2.2.1 x'.2.2.2.1 w' ∧ (l - x'.2.2.2.1 : Int).toNat < (l - i : Int).toNat) _ from S _ _ _ _ h
  clear h x
  rintro _ _ _ i ⟨rfl, h0, hi, rfl, rfl, rfl⟩
  unfold f38_l0
  have hlo := hR.1
  refine bif_d (fun h => ?_) (fun h => ?_)
  · obtain ⟨ob, hob⟩ : ∃ ob, os[i.toNat]? = some ob := ⟨_, List.getElem?_eq_getElem (by omega)⟩
    obtain ⟨b, cs, T, rfl, hb, hc⟩ := hR.2 (by omega)
    obtain ⟨wp, wc, h1, c0, c1, c2, c3, c4⟩ := hc.get hob
    have hB := (hE.old hO.old) _ hb
    refine nn_i ?_
    (refine ls_i hO (k := 0) (j := 0) rfl rfl rfl ?_)
    refine ⟨by omega, by omega, ?_⟩
    refine nn_i ?_
    refine LI_i (n := ob.h.l) (by rw [at_mk, add_mk, add_mk, Blk.cell hB, ← c2]; congr 1; omega) ?_
    have hb1 := hl.1 ob (List.mem_of_getElem? hob)
    have hb2 := topR_bound (hl.take i.toNat)
    have hb3 : (os.take i.toNat).length ≤ 100000 := by simp; omega
    have e1 : IntKind.wrap .i64 (topR (os.take i.toNat) + 1) = topR (os.take i.toNat) + 1 := wrap64 (by omega) (by omega)
    have e2 : IntKind.wrap .i64 (topR (os.take i.toNat) + 1 + ob.h.l) = topR (os.take i.toNat) + 1 + ob.h.l := wrap64 (by omega) (by omega)
    have e3 : IntKind.wrap .i64 (i + 1) = i + 1 := wrap64 (by omega) (by omega)
    show Inv _ (IntKind.wrap .i64 (IntKind.wrap .i64 (topR (os.take i.toNat) + 1) + ob.h.l)) _ (IntKind.wrap .i64 (i + 1)) _ ∧ (l - IntKind.wrap .i64 (i + 1) : Int).toNat < (l - i : Int).toNat
    rw [e1, e2, e3]
    refine ⟨⟨rfl, by omega, by omega, rfl, ?_, rfl⟩, by omega⟩
    rw [show (i + 1).toNat = i.toNat + 1 by omega, topR_take hob]
  · refine val_i (hK _ hO.old) ?_
    have e : os.take i.toNat = os := List.take_of_length_le (by omega)
    show _ = Value.int .i64 (topR (os.take i.toNat))
    rw [e]

theorem findR_bound : ∀ {os : List ROb} {a i : Int}, 0 ≤ i → findR a os i = -1 ∨ (i ≤ findR a os i ∧ findR a os i < i + os.length)
  | [], _, _, _ => .inl rfl
  | ob :: r, a, i, h => by
    unfold findR
    split
    · right; simp; omega
    · rcases findR_bound (os := r) (a := a) (i := i + 1) (by omega) with h1 | h1
      · exact .inl h1
      · right; simp only [List.length_cons]; omega

theorem rfind_spec {n a : Int} (hlen : os.length ≤ 100000) (hE : Has w E) (hR : RefE E p l os) (hK : ∀ w', Old w w' → K (.int .i64 (findR a os 0)) w') : Ret Pg 41 [(.agg ⟨[(.int .i64 n), (.slice p l c)]⟩), .int .i64 a] w K := by
  refine f41_ret ?_
  have hO := Owns.start (w := w)
  unfold f41
  refine new_i hO fun bx w1 hO => ?_
  (refine ls_i hO (k := 0) (j := 0) rfl rfl rfl ?_)
  let Inv : Int → Option Addr → Int → Int → World → Prop := fun a' q m i w' => a' = a ∧ q = some ⟨bx, 0, none⟩ ∧ 0 ≤ i ∧ i ≤ l ∧ m = l ∧ findR a (os.drop i.toNat) i = findR a os 0 ∧ w' = w1
  refine LoopP_intro (ann := f41_ann) follows (fun x w => Inv x.1 x.2.1 x.2.2.1 x.2.2.2.1 w) (fun x _ => (l - x.2.2.2.1 : Int).toNat) ⟨rfl, rfl, Int.le_refl 0, Int.natCast_nonneg _, rfl, rfl, rfl⟩ (fun x w h => (f41_l0_eq _ _ _ _ _ _ _ _).mpr ?_)
  suffices S : ∀ (a' : Int) (q : Option Addr) (m i : Int), Inv a' q m i w → f41_l0 a' q m i w (fun x' w' => Inv x'.1 x'.2.1 x'.2.2.1 x'.2.2.2.1 w' ∧ (l - x'.2.2.2.1 : Int).toNat < (l - i : Int).toNat) _ _ from S _ _ _ _ h
  clear h x
  rintro _ _ _ i ⟨rfl, rfl, h0, hi, rfl, hf, rfl⟩
  unfold f41_l0
  have hlo := hR.1
  refine bif_d (fun h => ?_) (fun h => ?_)
  · obtain ⟨ob, hob⟩ : ∃ ob, os[i.toNat]? = some ob := ⟨_, List.getElem?_eq_getElem (by omega)⟩
    obtain ⟨b, cs, T, rfl, hb, hc⟩ := hR.2 (by omega)
    obtain ⟨wp, wc, h1, c0, c1, c2, c3, c4⟩ := hc.get hob
    have hB := (hE.old hO.old) _ hb
    refine nn_i ?_
    (refine ls_i hO (k := 0) (j := 0) rfl rfl rfl ?_)
    refine ⟨by omega, by omega, ?_⟩
    refine nn_i ?_
    refine LI_i (n := ob.at_) (by rw [at_mk, Blk.cell hB, ← c0]; congr 1; omega) ?_
    have hd : os.drop i.toNat = ob :: os.drop (i.toNat + 1) := by
      obtain ⟨hl, he⟩ := List.getElem?_eq_some_iff.1 hob
      rw [List.drop_eq_getElem_cons hl, he]
    rw [hd] at hf
    rw [show ∀ q, findR q (ob :: os.drop (i.toNat + 1)) i = if ob.at_ = q then i else findR q (os.drop (i.toNat + 1)) (i + 1) from fun _ => rfl] at hf
    refine bif_d (fun he => ?_) (fun he => ?_)
    · rw [if_pos he] at hf
      refine val_i (hK _ hO.old) ?_
      rw [← hf]
    · rw [if_neg he] at hf
      have e3 : IntKind.wrap .i64 (i + 1) = i + 1 := wrap64 (by omega) (by omega)
      show Inv _ _ _ (IntKind.wrap .i64 (i + 1)) _ ∧ (l - IntKind.wrap .i64 (i + 1) : Int).toNat < (l - i : Int).toNat
      rw [e3]
      refine ⟨⟨rfl, rfl, by omega, by omega, rfl, ?_, rfl⟩, by omega⟩
      rw [show (i + 1).toNat = i.toNat + 1 by omega]
      exact hf
  · have e : os.drop i.toNat = [] := List.drop_of_length_le (by omega)
    rw [e] at hf
    refine val_i (hK _ hO.old) ?_
    rw [← hf]
    rfl

theorem rleads_spec {n x : Int} (hx1 : -9223372036854775808 < x) (hx2 : x ≤ 9223372036854775807) (hlen : os.length ≤ 100000) (hE : Has w E) (hR : RefE E p l os) (hK : ∀ w', Old w w' → K (.bool (leadsR os x)) w') : Ret Pg 42 [(.agg ⟨[(.int .i64 n), (.slice p l c)]⟩), .int .i64 x] w K := by
  refine f42_ret ?_
  have hO := Owns.start (w := w)
  unfold f42
  unfold leadsR at hK
  refine new_i hO fun _ _ hO => ?_
  refine bif_d (fun h1 => ?_) (fun h1 => ?_)
  · rw [if_pos h1] at hK
    exact hK _ hO.old
  · rw [if_neg h1] at hK
    refine ⟨_, _, _, _, (by exact ca_i hO (k := 0) (j := 0) rfl rfl), rfl, ?_⟩
    rw [show IntKind.wrap .i64 (x - 1) = x - 1 from wrap64 (by omega) (by omega)]
    (refine (rfind_spec hlen (hE.old hO.old) hR) fun _ ho => ?_; replace hO := hO.after ho)
    refine ⟨_, rfl, ?_⟩
    refine bif_d (fun h2 => ?_) (fun h2 => ?_)
    · rw [if_pos h2] at hK
      have hb := findR_bound (os := os) (a := x - 1) (i := 0) (Int.le_refl 0)
      have hlo := hR.1
      obtain ⟨ob, hob⟩ : ∃ ob, os[(findR (x - 1) os 0).toNat]? = some ob := ⟨_, List.getElem?_eq_getElem (by omega)⟩
      rw [hob] at hK
      obtain ⟨b, cs, T, rfl, hb', hc⟩ := hR.2 (by omega)
      obtain ⟨wp, wc, _, c0, c1, c2, c3, c4⟩ := hc.get hob
      have hB := (hE.old hO.old) _ hb'
      (refine ls_i hO (k := 0) (j := 0) rfl rfl rfl ?_)
      refine ⟨by omega, by omega, ?_⟩
      refine nn_i ?_
      refine LI_i (n := ob.h.k) (by rw [at_mk, add_mk, Blk.cell hB, ← c1]; congr 1; omega) ?_
      exact hK _ hO.old
    · rw [if_neg h2] at hK
      exact hK _ hO.old
end

end Go.Proofs.Ytokpbanandikpaa

set_option maxRecDepth 100000
set_option linter.unusedVariables false
set_option linter.unusedSimpArgs false
namespace Go.Proofs.Ytokpbanandikpaa
open Go Go.V Go.Proofs
/-! ### append, at the types of this program -/
section
variable {w0 w : World} {Ls : List (List Ent)} {r : Rw} {K : Option Addr → Nat → Nat → World → Prop} {x : Option Addr} {m c : Nat} {news : List Value}
theorem apInt (hO : Owns w0 w (r.ent 3 :: Ls)) (hr : r.ok 1) (hl : news.length = m) (hx : x = none → m = 0) (hnews : ∀ a, x = some a → ∀ j u, news[j]? = some u → w.cell? (a.add j) = some u) (h1 : ∀ u ∈ news, u.oneCell' = true) (hb : r.n + m ≤ 1000000000)
    (hK : ∀ (r' : Rw) (w' : World), r'.ok 1 → r'.xs = r.xs ++ news → r'.n = r.n + m → Owns w0 w' (r'.ent 3 :: Ls) → (r.sp = [] → Old w w') → K r'.at_ r'.n r'.c w') : ApW Pg 29 29 (.slice r.at_ r.n r.c) (.slice x m c) w K :=
  ap_i (e := 3) rfl rfl rfl rfl hO hr (by rw [hl]; exact (Nat.mul_one m).symm) hx hnews h1 (by simp only [maxLen]; omega) (by show (r.n + m) * 8 ≤ _; omega) hK
theorem apObj (hO : Owns w0 w (r.ent 99 :: Ls)) (hr : r.ok 5) (hl : news.length = m * 5) (hx : x = none → m = 0) (hnews : ∀ a, x = some a → ∀ j u, news[j]? = some u → w.cell? (a.add j) = some u) (h1 : ∀ u ∈ news, u.oneCell' = true) (hb : r.n + m ≤ 1000000000)
    (hK : ∀ (r' : Rw) (w' : World), r'.ok 5 → r'.xs = r.xs ++ news → r'.n = r.n + m → Owns w0 w' (r'.ent 99 :: Ls) → (r.sp = [] → Old w w') → K r'.at_ r'.n r'.c w') : ApW Pg 30 30 (.slice r.at_ r.n r.c) (.slice x m c) w K :=
  ap_i (e := 99) rfl rfl rfl rfl hO hr hl hx hnews h1 (by simp only [maxLen]; omega) (by show (r.n + m) * 56 ≤ _; omega) hK
end

end Go.Proofs.Ytokpbanandikpaa

set_option maxRecDepth 100000
set_option linter.unusedVariables false
set_option linter.unusedSimpArgs false
namespace Go.Proofs.Ytokpbanandikpaa
open Go Go.V Go.Proofs
/-! ### the document's heap, changed -/
def placeR (size : Int) (os : List ROb) (x : Hd) : List ROb × Int × Int := if goodH x = false then (os, 0, 1) else if size < topR os + 1 + x.l then (os, 0, 6) else (os ++ [⟨topR os, x, List.replicate x.l.toNat 0⟩], topR os, 0)

theorem Has.rowOf {w : World} {E : List Ent} {b : Nat} {T : TypeId} {cs out rest : List Value} {p : Option Addr} {a : Addr} {j : Nat} {u : Value} (hE : Has w E) (h : ∀ a, p = some a → a = ⟨b, 0, none⟩ ∧ cl b T (out ++ rest) ∈ E) (ha : p = some a) (hu : out[j]? = some u) : w.cell? (a.add j) = some u := by
  obtain ⟨rfl, hm⟩ := h a ha
  have hB : Blk w b T (out ++ rest) := hE _ hm
  rw [add_mk, Nat.zero_add, hB.cell, List.getElem?_append_left (List.getElem?_eq_some_iff.1 hu).1]
  exact hu
theorem ObsE.split {E : List Ent} : ∀ {os : List ROb} {cs : List Value}, ObsE E os cs → ∃ out rest, cs = out ++ rest ∧ out.length = os.length * 5 ∧ (∀ u ∈ out, u.oneCell' = true) ∧ ObsE E os out ∧ ∀ (os' : List ROb) cs', ObsE E os' cs' → ObsE E (os ++ os') (out ++ cs')
  | [], cs, _ => ⟨[], cs, rfl, rfl, fun _ h => (by cases h), trivial, fun _ _ h => h⟩
  | ob :: r, cs, ⟨wp, wc, rest, h1, h2, h3⟩ => by
    obtain ⟨out, rest', e, hl, ho, h4, h5⟩ := ObsE.split h3
    refine ⟨robc ob wp wc ++ out, rest', by rw [h1, e, List.append_assoc], by simp [robc, hl]; omega, ?_, ⟨wp, wc, out, rfl, h2, h4⟩, fun os' cs' h => ⟨wp, wc, out ++ cs', by simp, h2, h5 os' cs' h⟩⟩
    intro u hu
    rcases List.mem_append.1 hu with hu | hu
    · simp only [robc, List.mem_cons, List.not_mem_nil, or_false] at hu
      rcases hu with rfl | rfl | rfl | rfl | rfl <;> rfl
    · exact ho u hu
theorem ObsE.of_nil {E : List Ent} {os : List ROb} (h : os.length = 0) : ObsE E os [] := by
  have : os = [] := List.eq_nil_of_length_eq_zero h
  subst this
  trivial
theorem IntsE.whole {E : List Ent} {b : Nat} {T : TypeId} {xs : List Int} (h : cl b T (xs.map (.int .i64)) ∈ E) : IntsE E (some ⟨b, 0, none⟩) xs :=
  fun i x hx => ⟨b, 0, _, T, rfl, h, by rw [Nat.zero_add, List.getElem?_map, hx]; rfl⟩
theorem ObsE.rest {E : List Ent} : ∀ {os : List ROb} {cs : List Value} (_ : ObsE E os cs) (tl : List Value), ObsE E os (cs ++ tl)
  | [], _, _, _ => trivial
  | _ :: _, _, ⟨wp, wc, rest, h1, h2, h3⟩, tl => ⟨wp, wc, rest ++ tl, by rw [h1, List.append_assoc], h2, h3.rest tl⟩

section
variable {w0 w : World} {Ls : List (List Ent)} {K : Value → World → Prop} {E : List Ent} {p : Option Addr} {l c : Nat} {os : List ROb}

theorem rplace_spec {n : Int} {x : Hd} (hl : lenOk os) (hlen : os.length < 100000) (hO : Owns w0 w (E :: Ls)) (hR : RefE E p l os)
    (hK : ∀ E' p' l' c' w', Owns w0 w' (E' :: Ls) → RefE E' p' l' (placeR n os x).1 → K (.tuple ⟨[.agg ⟨[.int .i64 n, .slice p' l' c']⟩, .int .i64 (placeR n os x).2.1, .int .i64 (placeR n os x).2.2]⟩) w') : Ret Pg 19 [(.agg ⟨[(.int .i64 n), (.slice p l c)]⟩), hdv x] w K := by
  refine f19_ret ?_
  unfold f19
  have htb := topR_bound hl
  have hlo := hR.1
  refine new_i hO fun _ _ hO => ?_
  refine new_i hO fun _ _ hO => ?_
  refine new_i hO fun _ _ hO => ?_
  (refine ⟨_, _, _, (by (refine ca_i hO (k := 1) (j := 0) rfl rfl)), rfl, ?_⟩)
  (refine rgood_spec fun _ ho => ?_; replace hO := hO.after ho)
  refine ⟨_, rfl, ?_⟩
  unfold placeR at hK
  refine bif_nb (fun hg => ?_) (fun hg => ?_)
  · rw [if_pos hg] at hK
    (refine ⟨_, _, _, _, (by (refine ca_i hO (k := 2) (j := 0) rfl rfl)), rfl, ?_⟩)
    (refine st_i hO (k := 0) (j := 0) rfl rfl rfl trivial fun _ hO => ?_)
    (refine st_i hO (k := 0) (j := 0) rfl rfl rfl trivial fun _ hO => ?_)
    (refine ⟨_, _, _, _, (by (refine ca_i hO (k := 0) (j := 0) rfl rfl)), rfl, ?_⟩)
    exact hK _ _ _ _ _ (hO.dropn 3 rfl) hR
  · rw [if_neg (by rw [hg]; simp)] at hK
    have hg' := goodH_iff.1 hg
    dsimp only at hg'
    (refine ⟨_, _, _, _, (by (refine ca_i hO (k := 2) (j := 0) rfl rfl)), rfl, ?_⟩)
    (refine (rtop_spec hl (hO.has 3 rfl) hR) fun _ ho => ?_; replace hO := hO.after ho)
    refine ⟨_, rfl, ?_⟩
    (refine li_i hO (k := 1) (j := 0) rfl rfl rfl ?_)
    (refine li_i hO (k := 2) (j := 0) rfl rfl rfl ?_)
    have e1 : IntKind.wrap .i64 (topR os + 1) = topR os + 1 := wrap64 (by omega) (by omega)
    have e2 : IntKind.wrap .i64 (topR os + 1 + x.l) = topR os + 1 + x.l := wrap64 (by omega) (by omega)
    rw [e1, e2]
    refine bif_d (fun hf => ?_) (fun hf => ?_)
    · rw [if_pos (by omega)] at hK
      (refine ⟨_, _, _, _, (by (refine ca_i hO (k := 2) (j := 0) rfl rfl)), rfl, ?_⟩)
      (refine st_i hO (k := 0) (j := 0) rfl rfl rfl trivial fun _ hO => ?_)
      (refine st_i hO (k := 0) (j := 0) rfl rfl rfl trivial fun _ hO => ?_)
      (refine ⟨_, _, _, _, (by (refine ca_i hO (k := 0) (j := 0) rfl rfl)), rfl, ?_⟩)
      exact hK _ _ _ _ _ (hO.dropn 3 rfl) hR
    · rw [if_neg (by omega)] at hK
      replace hO := hO.drew
      (refine ls_i hO (k := 2) (j := 0) rfl rfl rfl ?_)
      (refine ⟨_, _, _, (by (refine ca_i hO (k := 1) (j := 0) rfl rfl)), rfl, ?_⟩)
      (refine li_i hO (k := 1) (j := 0) rfl rfl rfl ?_)
      have hsrc : ∃ out : List Value, (∀ w', Has w' E → ∀ a, p = some a → ∀ j u, out[j]? = some u → w'.cell? (a.add j) = some u) ∧ out.length = os.length * 5 ∧ (∀ u ∈ out, u.oneCell' = true) ∧ (∀ E' (os' : List ROb) cs', (∀ y ∈ E, y ∈ E') → ObsE E' os' cs' → ObsE E' (os ++ os') (out ++ cs')) := by
        by_cases h0 : l = 0
        · have : os = [] := List.eq_nil_of_length_eq_zero (by omega)
          subst this
          exact ⟨[], fun _ _ _ _ _ _ h => (by simp at h), rfl, fun _ h => (by cases h), fun _ _ _ _ h => h⟩
        · obtain ⟨b, cs, T, hp, hm, ho⟩ := hR.2 (by omega)
          obtain ⟨out, rest, e, h1, h2, h3, _⟩ := ho.split
          refine ⟨out, fun w' hE a ha j u hu => ?_, h1, h2, fun E' os' cs' hE ho' => ?_⟩
          · rw [hp] at ha
            cases ha
            have hB : Blk w' b T cs := hE _ hm
            rw [add_mk, Nat.zero_add, hB.cell, e, List.getElem?_append_left (List.getElem?_eq_some_iff.1 hu).1]
            exact hu
          · obtain ⟨out', rest', e', h1', h2', h3', h4'⟩ := (h3.mono hE).split
            have : rest' = [] := by
              have := congrArg List.length e'
              rw [List.length_append, h1, h1'] at this
              exact List.eq_nil_of_length_eq_zero (by omega)
            subst this
            rw [List.append_nil] at e'
            rw [e']
            exact h4' os' cs' ho'
      obtain ⟨out, hnw, hol, ho1, hoj⟩ := hsrc
      have hol : out.length = l * 5 := by rw [hol, hlo]
      have hox : p = none → l = 0 := fun hp => by
        rcases Nat.eq_zero_or_pos l with h | h
        · exact h
        · obtain ⟨b, cs, T, hp', _⟩ := hR.2 h
          rw [hp] at hp'; cases hp'
      have fin : ∀ (r1 r2 : Rw) (bC : Nat) (w' : World) {x1 x2 x3 x4 : List Ent}, r2.ok 5 → r2.xs = r1.xs ++ [.int .i64 (topR os), .int .i64 x.k, .int .i64 x.l, .int .i64 x.p, .slice (some ⟨bC, 0, none⟩) x.l.toNat x.l.toNat] → r1.xs = [] ++ out → r1.n = 0 + l → r2.n = r1.n + 1 → Owns w0 w' (r2.ent 99 :: [cl bC 3 (reps x.l.toNat [.int .i64 0])] :: E :: x1 :: x2 :: x3 :: x4 :: Ls) →
          K (.tuple ⟨[.agg ⟨[.int .i64 n, .slice r2.at_ r2.n r2.c]⟩, .int .i64 (topR os), .int .i64 0]⟩) w' := by
        intro r1 r2 bC w' x1 x2 x3 x4 h2 hx2 hx1 hn1 hn2 hO
        have hO := hO.merge.merge.skip.skip.skip.skip
        refine hK _ r2.at_ r2.n r2.c w' hO ⟨by rw [hn2, hn1, hlo]; simp, fun _ => ?_⟩
        cases hp : r2.p with
        | none => have := h2.nil hp; have := h2.le; omega
        | some b =>
          refine ⟨b, r2.xs ++ r2.sp, 99, by simp [Rw.at_, hp], by simp [Rw.ent, hp], ?_⟩
          rw [hx2, hx1, List.nil_append]
          rw [List.append_assoc out]
          refine hoj (r2.ent 99 ++ [cl bC 3 (reps x.l.toNat [.int .i64 0])] ++ E) [⟨topR os, x, List.replicate x.l.toNat 0⟩] _ (fun y hy => by simp [hy]) (show ∃ _ _ _, _ ∧ _ ∧ _ from ⟨some ⟨bC, 0, none⟩, x.l.toNat, r2.sp, ?_, ?_, trivial⟩)
          · simp [robc]
          · have e : reps x.l.toNat [.int .i64 0] = (List.replicate x.l.toNat (0 : Int)).map (.int .i64) := by simp [reps]
            rw [e]
            exact IntsE.whole (T := 3) (List.mem_append_left _ (List.mem_append_right _ (List.mem_singleton.2 rfl)))
      refine ⟨?_, ?_⟩
      · refine newo_i hO fun bA _ hO => ?_
        refine ⟨?_, ?_⟩
        · refine apObj (r := ⟨some bA, 0, 0, [], []⟩) (news := out) (hO.pick 0) ⟨rfl, rfl, Nat.le_refl _, Nat.zero_le _, fun h => by cases h⟩ hol hox (hnw _ (hO.has 4 rfl)) ho1 (by simpa using (by omega)) ?_
          intro r1 _ hr1 hx1 hn1 hO hold
          refine ⟨hold rfl, ?_⟩
          refine ⟨by omega, by omega, by omega, by omega, ?_⟩
          refine newo_i hO fun bC _ hO => ?_
          refine newo_i hO fun bD _ hO => ?_
          refine apObj (r := r1) (m := 1) (news := [.int .i64 (topR os), .int .i64 x.k, .int .i64 x.l, .int .i64 x.p, .slice (some ⟨bC, 0, none⟩) x.l.toNat x.l.toNat]) (hO.pick 2) hr1 rfl (fun h => by cases h) (fun a ha j u hu => by cases ha; rw [add_mk, Nat.zero_add, (hO.row 0 0 rfl).cell]; exact hu) (by simp [Value.oneCell']) (by rw [hn1]; simpa using (by omega)) ?_
          intro r2 _ hr2 hx2 hn2 hO _
          (refine st_i hO (k := 5) (j := 0) rfl rfl rfl trivial fun _ hO => ?_)
          (refine ⟨_, _, _, _, (by (refine ca_i hO (k := 5) (j := 0) rfl rfl)), rfl, ?_⟩)
          (refine st_i hO (k := 3) (j := 0) rfl rfl rfl trivial fun _ hO => ?_)
          (refine st_i hO (k := 3) (j := 0) rfl rfl rfl trivial fun _ hO => ?_)
          (refine ⟨_, _, _, _, (by (refine ca_i hO (k := 3) (j := 0) rfl rfl)), rfl, ?_⟩)
          replace hO := hO.pick 6
          replace hO := hO.pick 3
          replace hO := hO.pick 2
          exact fin r1 r2 bC _ hr2 hx2 hx1 hn1 hn2 hO
        · refine ⟨by omega, by omega, by omega, by omega, ?_⟩
          refine newo_i hO fun bC _ hO => ?_
          refine ⟨?_, ?_⟩
          · refine apObj (r := ⟨some bA, 0, 0, [], []⟩) (news := out) (hO.pick 1) ⟨rfl, rfl, Nat.le_refl _, Nat.zero_le _, fun h => by cases h⟩ hol hox (hnw _ (hO.has 5 rfl)) ho1 (by simpa using (by omega)) ?_
            intro r1 _ hr1 hx1 hn1 hO hold
            refine ⟨hold rfl, ?_⟩
            refine newo_i hO fun bD _ hO => ?_
            refine apObj (r := r1) (m := 1) (news := [.int .i64 (topR os), .int .i64 x.k, .int .i64 x.l, .int .i64 x.p, .slice (some ⟨bC, 0, none⟩) x.l.toNat x.l.toNat]) (hO.pick 1) hr1 rfl (fun h => by cases h) (fun a ha j u hu => by cases ha; rw [add_mk, Nat.zero_add, (hO.row 0 0 rfl).cell]; exact hu) (by simp [Value.oneCell']) (by rw [hn1]; simpa using (by omega)) ?_
            intro r2 _ hr2 hx2 hn2 hO _
            (refine st_i hO (k := 5) (j := 0) rfl rfl rfl trivial fun _ hO => ?_)
            (refine ⟨_, _, _, _, (by (refine ca_i hO (k := 5) (j := 0) rfl rfl)), rfl, ?_⟩)
            (refine st_i hO (k := 3) (j := 0) rfl rfl rfl trivial fun _ hO => ?_)
            (refine st_i hO (k := 3) (j := 0) rfl rfl rfl trivial fun _ hO => ?_)
            (refine ⟨_, _, _, _, (by (refine ca_i hO (k := 3) (j := 0) rfl rfl)), rfl, ?_⟩)
            replace hO := hO.pick 6
            replace hO := hO.pick 3
            replace hO := hO.pick 2
            exact fin r1 r2 bC _ hr2 hx2 hx1 hn1 hn2 hO
          · refine newo_i hO fun bD _ hO => ?_
            refine apObj (r := ⟨some bA, 0, 0, [], []⟩) (news := out) (hO.pick 2) ⟨rfl, rfl, Nat.le_refl _, Nat.zero_le _, fun h => by cases h⟩ hol hox (hnw _ (hO.has 6 rfl)) ho1 (by simpa using (by omega)) ?_
            intro r1 _ hr1 hx1 hn1 hO hold
            refine ⟨hold rfl, ?_⟩
            refine apObj (r := r1) (m := 1) (news := [.int .i64 (topR os), .int .i64 x.k, .int .i64 x.l, .int .i64 x.p, .slice (some ⟨bC, 0, none⟩) x.l.toNat x.l.toNat]) (hO.pick 0) hr1 rfl (fun h => by cases h) (fun a ha j u hu => by cases ha; rw [add_mk, Nat.zero_add, (hO.row 1 0 rfl).cell]; exact hu) (by simp [Value.oneCell']) (by rw [hn1]; simpa using (by omega)) ?_
            intro r2 _ hr2 hx2 hn2 hO _
            (refine st_i hO (k := 5) (j := 0) rfl rfl rfl trivial fun _ hO => ?_)
            (refine ⟨_, _, _, _, (by (refine ca_i hO (k := 5) (j := 0) rfl rfl)), rfl, ?_⟩)
            (refine st_i hO (k := 3) (j := 0) rfl rfl rfl trivial fun _ hO => ?_)
            (refine st_i hO (k := 3) (j := 0) rfl rfl rfl trivial fun _ hO => ?_)
            (refine ⟨_, _, _, _, (by (refine ca_i hO (k := 3) (j := 0) rfl rfl)), rfl, ?_⟩)
            replace hO := hO.pick 6
            replace hO := hO.pick 3
            replace hO := hO.pick 2
            exact fin r1 r2 bC _ hr2 hx2 hx1 hn1 hn2 hO
      · refine ⟨by omega, by omega, by omega, by omega, ?_⟩
        refine newo_i hO fun bC _ hO => ?_
        refine ⟨?_, ?_⟩
        · refine newo_i hO fun bA _ hO => ?_
          refine ⟨?_, ?_⟩
          · refine apObj (r := ⟨some bA, 0, 0, [], []⟩) (news := out) (hO.pick 0) ⟨rfl, rfl, Nat.le_refl _, Nat.zero_le _, fun h => by cases h⟩ hol hox (hnw _ (hO.has 5 rfl)) ho1 (by simpa using (by omega)) ?_
            intro r1 _ hr1 hx1 hn1 hO hold
            refine ⟨hold rfl, ?_⟩
            refine newo_i hO fun bD _ hO => ?_
            refine apObj (r := r1) (m := 1) (news := [.int .i64 (topR os), .int .i64 x.k, .int .i64 x.l, .int .i64 x.p, .slice (some ⟨bC, 0, none⟩) x.l.toNat x.l.toNat]) (hO.pick 1) hr1 rfl (fun h => by cases h) (fun a ha j u hu => by cases ha; rw [add_mk, Nat.zero_add, (hO.row 0 0 rfl).cell]; exact hu) (by simp [Value.oneCell']) (by rw [hn1]; simpa using (by omega)) ?_
            intro r2 _ hr2 hx2 hn2 hO _
            (refine st_i hO (k := 5) (j := 0) rfl rfl rfl trivial fun _ hO => ?_)
            (refine ⟨_, _, _, _, (by (refine ca_i hO (k := 5) (j := 0) rfl rfl)), rfl, ?_⟩)
            (refine st_i hO (k := 3) (j := 0) rfl rfl rfl trivial fun _ hO => ?_)
            (refine st_i hO (k := 3) (j := 0) rfl rfl rfl trivial fun _ hO => ?_)
            (refine ⟨_, _, _, _, (by (refine ca_i hO (k := 3) (j := 0) rfl rfl)), rfl, ?_⟩)
            replace hO := hO.pick 6
            replace hO := hO.pick 3
            replace hO := hO.pick 2
            exact fin r1 r2 bC _ hr2 hx2 hx1 hn1 hn2 hO
          · refine newo_i hO fun bD _ hO => ?_
            refine apObj (r := ⟨some bA, 0, 0, [], []⟩) (news := out) (hO.pick 1) ⟨rfl, rfl, Nat.le_refl _, Nat.zero_le _, fun h => by cases h⟩ hol hox (hnw _ (hO.has 6 rfl)) ho1 (by simpa using (by omega)) ?_
            intro r1 _ hr1 hx1 hn1 hO hold
            refine ⟨hold rfl, ?_⟩
            refine apObj (r := r1) (m := 1) (news := [.int .i64 (topR os), .int .i64 x.k, .int .i64 x.l, .int .i64 x.p, .slice (some ⟨bC, 0, none⟩) x.l.toNat x.l.toNat]) (hO.pick 0) hr1 rfl (fun h => by cases h) (fun a ha j u hu => by cases ha; rw [add_mk, Nat.zero_add, (hO.row 1 0 rfl).cell]; exact hu) (by simp [Value.oneCell']) (by rw [hn1]; simpa using (by omega)) ?_
            intro r2 _ hr2 hx2 hn2 hO _
            (refine st_i hO (k := 5) (j := 0) rfl rfl rfl trivial fun _ hO => ?_)
            (refine ⟨_, _, _, _, (by (refine ca_i hO (k := 5) (j := 0) rfl rfl)), rfl, ?_⟩)
            (refine st_i hO (k := 3) (j := 0) rfl rfl rfl trivial fun _ hO => ?_)
            (refine st_i hO (k := 3) (j := 0) rfl rfl rfl trivial fun _ hO => ?_)
            (refine ⟨_, _, _, _, (by (refine ca_i hO (k := 3) (j := 0) rfl rfl)), rfl, ?_⟩)
            replace hO := hO.pick 6
            replace hO := hO.pick 3
            replace hO := hO.pick 2
            exact fin r1 r2 bC _ hr2 hx2 hx1 hn1 hn2 hO
        · refine newo_i hO fun bD _ hO => ?_
          refine newo_i hO fun bA _ hO => ?_
          refine apObj (r := ⟨some bA, 0, 0, [], []⟩) (news := out) (hO.pick 0) ⟨rfl, rfl, Nat.le_refl _, Nat.zero_le _, fun h => by cases h⟩ hol hox (hnw _ (hO.has 6 rfl)) ho1 (by simpa using (by omega)) ?_
          intro r1 _ hr1 hx1 hn1 hO hold
          refine ⟨hold rfl, ?_⟩
          refine apObj (r := r1) (m := 1) (news := [.int .i64 (topR os), .int .i64 x.k, .int .i64 x.l, .int .i64 x.p, .slice (some ⟨bC, 0, none⟩) x.l.toNat x.l.toNat]) (hO.pick 0) hr1 rfl (fun h => by cases h) (fun a ha j u hu => by cases ha; rw [add_mk, Nat.zero_add, (hO.row 1 0 rfl).cell]; exact hu) (by simp [Value.oneCell']) (by rw [hn1]; simpa using (by omega)) ?_
          intro r2 _ hr2 hx2 hn2 hO _
          (refine st_i hO (k := 5) (j := 0) rfl rfl rfl trivial fun _ hO => ?_)
          (refine ⟨_, _, _, _, (by (refine ca_i hO (k := 5) (j := 0) rfl rfl)), rfl, ?_⟩)
          (refine st_i hO (k := 3) (j := 0) rfl rfl rfl trivial fun _ hO => ?_)
          (refine st_i hO (k := 3) (j := 0) rfl rfl rfl trivial fun _ hO => ?_)
          (refine ⟨_, _, _, _, (by (refine ca_i hO (k := 3) (j := 0) rfl rfl)), rfl, ?_⟩)
          replace hO := hO.pick 6
          replace hO := hO.pick 3
          replace hO := hO.pick 2
          exact fin r1 r2 bC _ hr2 hx2 hx1 hn1 hn2 hO
end

end Go.Proofs.Ytokpbanandikpaa

set_option maxRecDepth 100000
set_option linter.unusedVariables false
set_option linter.unusedSimpArgs false
namespace Go.Proofs.Ytokpbanandikpaa
open Go Go.V Go.Proofs
/-! ### the document's heap, written -/
def writeR (os : List ROb) (a f x : Int) : List ROb × Int :=
  if findR a os 0 < 0 then (os, 3) else match os[(findR a os 0).toNat]? with
  | none => (os, 3)
  | some ob => if f < 0 ∨ ob.h.l ≤ f ∨ ob.h.k = 15 then (os, 4) else if f < ob.h.p ∧ leadsR os x = false then (os, 5) else (os.set (findR a os 0).toNat ⟨ob.at_, ob.h, ob.ws.set f.toNat x⟩, 0)
def wsOk (os : List ROb) : Prop := ∀ ob ∈ os, (ob.ws.length : Int) = ob.h.l

theorem ObsE.set {E : List Ent} {ws : List Int} {wp : Option Addr} {wc : Nat} (hi : IntsE E wp ws) : ∀ {os : List ROb} {cs : List Value} {j : Nat} {ob : ROb}, ObsE E os cs → os[j]? = some ob → ObsE E (os.set j ⟨ob.at_, ob.h, ws⟩) (cs.set (j * 5 + 4) (.slice wp ws.length wc))
  | [], _, _, _, _, h => by cases h
  | o :: r, cs, j, ob, ⟨p, c, rest, h1, h2, h3⟩, h => by
    subst h1
    cases j with
    | zero =>
      have : o = ob := by simpa using h
      subst this
      exact ⟨wp, wc, rest, by simp [robc], hi, h3⟩
    | succ j =>
      refine ⟨p, c, rest.set (j * 5 + 4) (.slice wp ws.length wc), ?_, h2, ObsE.set hi h3 (by simpa using h)⟩
      rw [List.set_append_right _ _ (by simp [robc]; omega)]
      congr 2
      simp [robc]
      omega
theorem IntsE.cell {w : World} {E : List Ent} {p : Option Addr} {xs : List Int} (h : IntsE E p xs) (hE : Has w E) {a : Addr} (ha : p = some a) {j : Nat} {u : Value} (hu : (xs.map (Value.int .i64))[j]? = some u) : w.cell? (a.add j) = some u := by
  rw [List.getElem?_map] at hu
  cases hx : xs[j]? with
  | none => rw [hx] at hu; cases hu
  | some x =>
    rw [hx] at hu
    cases hu
    obtain ⟨b, o, cs, T, h1, h2, h3⟩ := h j x hx
    rw [ha] at h1
    cases h1
    have hB : Blk w b T cs := hE _ h2
    rw [add_mk, hB.cell, h3]
theorem IntsE.none_ {E : List Ent} {xs : List Int} (h : IntsE E none xs) : xs.length = 0 := by
  cases xs with
  | nil => rfl
  | cons x r => obtain ⟨b, o, cs, T, h1, _⟩ := h 0 x rfl; cases h1

section
variable {w0 w : World} {Ls : List (List Ent)} {K : Value → World → Prop} {E : List Ent} {p : Option Addr} {l c : Nat} {os : List ROb}

theorem rwrite_spec {n a f x : Int} (hx1 : -9223372036854775808 < x) (hx2 : x ≤ 9223372036854775807) (hl : lenOk os) (hws : wsOk os) (hO : Owns w0 w (E :: Ls)) (hR : RefE E p l os)
    (hK : ∀ E' p' l' c' w', Owns w0 w' (E' :: Ls) → RefE E' p' l' (writeR os a f x).1 → K (.tuple ⟨[.agg ⟨[.int .i64 n, .slice p' l' c']⟩, .int .i64 (writeR os a f x).2]⟩) w') : Ret Pg 22 [(.agg ⟨[(.int .i64 n), (.slice p l c)]⟩), .int .i64 a, .int .i64 f, .int .i64 x] w K := by
  refine f22_ret ?_
  unfold f22
  have hlo := hR.1
  unfold writeR at hK
  refine new_i hO fun _ _ hO => ?_
  refine new_i hO fun _ _ hO => ?_
  (refine ⟨_, _, _, _, (by (refine ca_i hO (k := 1) (j := 0) rfl rfl)), rfl, ?_⟩)
  (refine (rfind_spec hl.2 (hO.has 2 rfl) hR) fun _ ho => ?_; replace hO := hO.after ho)
  refine ⟨_, rfl, ?_⟩
  refine bif_d (fun hf => ?_) (fun hf => ?_)
  · rw [if_pos hf] at hK
    (refine ⟨_, _, _, _, (by (refine ca_i hO (k := 1) (j := 0) rfl rfl)), rfl, ?_⟩)
    (refine st_i hO (k := 0) (j := 0) rfl rfl rfl trivial fun _ hO => ?_)
    (refine st_i hO (k := 0) (j := 0) rfl rfl rfl trivial fun _ hO => ?_)
    (refine ⟨_, _, _, _, (by (refine ca_i hO (k := 0) (j := 0) rfl rfl)), rfl, ?_⟩)
    exact hK _ _ _ _ _ (hO.dropn 2 rfl) hR
  · rw [if_neg hf] at hK
    have hfb := findR_bound (os := os) (a := a) (i := 0) (Int.le_refl 0)
    obtain ⟨ob, hob⟩ : ∃ ob, os[(findR a os 0).toNat]? = some ob := ⟨_, List.getElem?_eq_getElem (by omega)⟩
    simp only [hob] at hK
    obtain ⟨b, cs, T, rfl, hb, hc⟩ := hR.2 (by omega)
    obtain ⟨wp, wc, hwi, c0, c1, c2, c3, c4⟩ := hc.get hob
    have hll := hl.1 ob (List.mem_of_getElem? hob)
    have hwl := hws ob (List.mem_of_getElem? hob)
    (refine ls_i hO (k := 1) (j := 0) rfl rfl rfl ?_)
    refine ⟨by omega, by omega, ?_⟩
    refine nn_i ?_
    have hB := hO.has 2 rfl _ hb
    refine ⟨ob.at_, ob.h.k, ob.h.l, ob.h.p, wp, ob.ws.length, wc, ?_, rfl, ?_⟩
    · rw [at_mk]
      refine cells_of_blk hB fun j v hv => ?_
      rw [Nat.zero_add, Nat.zero_add]
      match j, hv with
      | 0, hv => cases hv; exact c0
      | 1, hv => cases hv; exact c1
      | 2, hv => cases hv; exact c2
      | 3, hv => cases hv; exact c3
      | 4, hv => cases hv; exact c4
      | _ + 5, hv => cases hv
    · refine new_i hO fun _ _ hO => ?_
      (refine st_i hO (k := 0) (j := 0) rfl rfl rfl trivial fun _ hO => ?_)
      (refine st_i hO (k := 0) (j := 0) rfl rfl rfl trivial fun _ hO => ?_)
      (refine st_i hO (k := 0) (j := 0) rfl rfl rfl trivial fun _ hO => ?_)
      (refine st_i hO (k := 0) (j := 0) rfl rfl rfl trivial fun _ hO => ?_)
      (refine st_i hO (k := 0) (j := 0) rfl rfl rfl trivial fun _ hO => ?_)
      have fail : ∀ (e : Int) (w' : World) {x1 x2 x3 : List Ent}, Owns w0 w' (x1 :: x2 :: x3 :: E :: Ls) → Owns w0 w' (E :: Ls) := fun _ _ _ _ _ h => h.drop.drop.drop
      refine bif_d (fun h1 => ?_) (fun h1 => ?_)
      · rw [if_pos (by omega)] at hK
        (refine ⟨_, _, _, _, (by (refine ca_i hO (k := 2) (j := 0) rfl rfl)), rfl, ?_⟩)
        (refine st_i hO (k := 1) (j := 0) rfl rfl rfl trivial fun _ hO => ?_)
        (refine st_i hO (k := 1) (j := 0) rfl rfl rfl trivial fun _ hO => ?_)
        (refine ⟨_, _, _, _, (by (refine ca_i hO (k := 1) (j := 0) rfl rfl)), rfl, ?_⟩)
        exact hK _ _ _ _ _ (hO.dropn 3 rfl) hR
      · (refine li_i hO (k := 0) (j := 0) rfl rfl rfl ?_)
        refine bif_d (fun h2 => ?_) (fun h2 => ?_)
        · rw [if_pos (by omega)] at hK
          (refine ⟨_, _, _, _, (by (refine ca_i hO (k := 2) (j := 0) rfl rfl)), rfl, ?_⟩)
          (refine st_i hO (k := 1) (j := 0) rfl rfl rfl trivial fun _ hO => ?_)
          (refine st_i hO (k := 1) (j := 0) rfl rfl rfl trivial fun _ hO => ?_)
          (refine ⟨_, _, _, _, (by (refine ca_i hO (k := 1) (j := 0) rfl rfl)), rfl, ?_⟩)
          exact hK _ _ _ _ _ (hO.dropn 3 rfl) hR
        · (refine li_i hO (k := 0) (j := 0) rfl rfl rfl ?_)
          refine bif_d (fun h3 => ?_) (fun h3 => ?_)
          · rw [if_pos (by omega)] at hK
            (refine ⟨_, _, _, _, (by (refine ca_i hO (k := 2) (j := 0) rfl rfl)), rfl, ?_⟩)
            (refine st_i hO (k := 1) (j := 0) rfl rfl rfl trivial fun _ hO => ?_)
            (refine st_i hO (k := 1) (j := 0) rfl rfl rfl trivial fun _ hO => ?_)
            (refine ⟨_, _, _, _, (by (refine ca_i hO (k := 1) (j := 0) rfl rfl)), rfl, ?_⟩)
            exact hK _ _ _ _ _ (hO.dropn 3 rfl) hR
          · rw [if_neg (by omega)] at hK
            -- the write itself
            have join : ∀ (b1 b2 b4 : Nat) (w' : World), ¬ (f < ob.h.p ∧ leadsR os x = false) → Owns w0 w' ([cl b4 99 (robc ob wp wc)] :: [cl b2 32 [.int .i64 0, .slice none 0 0]] :: [cl b1 32 [.int .i64 n, .slice (some ⟨b, 0, none⟩) l c]] :: E :: Ls) →
                f22_j2 f x ⟨b1, 0, none⟩ ⟨b2, 0, none⟩ (findR a os 0) ⟨b4, 0, none⟩ w' K := by
              intro b1 b2 b4 w' hn hO
              rw [if_neg hn] at hK
              unfold f22_j2
              refine new_i hO fun bA _ hO => ?_
              (refine ls_i hO (k := 3) (j := 0) rfl rfl rfl ?_)
              obtain ⟨out, rest, ecs, hol, ho1, hoE, hoj⟩ := hc.split
              refine apObj (r := ⟨some bA, 0, 0, [], []⟩) (news := out) hO ⟨rfl, rfl, Nat.le_refl _, Nat.zero_le _, fun h => by cases h⟩ (by rw [hol, hlo]) (fun h => by cases h) (fun a ha j u hu => ?_) ho1 (by have := hl.2; show 0 + l ≤ _; omega) ?_
              · cases ha
                have hB : Blk _ b T cs := hO.has 4 rfl _ hb
                rw [add_mk, Nat.zero_add, hB.cell, ecs, List.getElem?_append_left (List.getElem?_eq_some_iff.1 hu).1]
                exact hu
              · intro r1 _ hr1 hx1' hn1 hO _
                refine new_i hO fun bB _ hO => ?_
                (refine ls_i hO (k := 2) (j := 0) rfl rfl rfl ?_)
                refine apInt (r := ⟨some bB, 0, 0, [], []⟩) (news := ob.ws.map (.int .i64)) hO ⟨rfl, rfl, Nat.le_refl _, Nat.zero_le _, fun h => by cases h⟩ (by simp) (fun h => by subst h; exact hwi.none_) (fun a ha j u hu => hwi.cell (hO.has 5 rfl) ha hu) (by intro u hu; obtain ⟨y, _, rfl⟩ := List.mem_map.1 hu; rfl) (by show 0 + ob.ws.length ≤ _; omega) ?_
                intro r2 _ hr2 hx2' hn2 hO _
                have hn1' : r1.n = l := by rw [hn1]; exact Nat.zero_add l
                have hn2' : r2.n = ob.ws.length := by rw [hn2]; exact Nat.zero_add _
                obtain ⟨g1, hg1⟩ : ∃ g, r1.p = some g := by
                  cases hp : r1.p with
                  | none => have := hr1.nil hp; have := hr1.le; omega
                  | some g => exact ⟨g, rfl⟩
                obtain ⟨g2, hg2⟩ : ∃ g, r2.p = some g := by
                  cases hp : r2.p with
                  | none => have := hr2.nil hp; have := hr2.le; omega
                  | some g => exact ⟨g, rfl⟩
                have e1 : r1.ent 99 = [cl g1 99 (out ++ r1.sp)] := by simp [Rw.ent, hg1, hx1']
                have e2 : r2.ent 3 = [cl g2 3 (ob.ws.map (.int .i64) ++ r2.sp)] := by simp [Rw.ent, hg2, hx2']
                have a1 : r1.at_ = some ⟨g1, 0, none⟩ := by simp [Rw.at_, hg1]
                have a2 : r2.at_ = some ⟨g2, 0, none⟩ := by simp [Rw.at_, hg2]
                rw [e1, e2] at hO
                rw [a1, a2]
                have hidx : (findR a os 0).toNat * 5 + 4 < (out ++ r1.sp).length := by rw [List.length_append, hol]; omega
                refine ⟨by omega, by omega, ?_⟩
                refine nn_i ?_
                refine st_i hO (k := 1) (j := 0) rfl (by rw [at_mk, add_mk]) (Nat.ble_eq_true_of_le (by rw [Nat.zero_add]; exact hidx)) trivial fun _ hO => ?_
                refine ⟨by omega, by omega, ?_⟩
                refine nn_i ?_
                refine ls_i (p := some ⟨g2, 0, none⟩) (l := r2.n) (c := r2.c) hO (k := 1) (j := 0) rfl (by rw [at_mk, add_mk]) (List.getElem?_set_self (by rw [Nat.zero_add]; exact hidx)) ?_
                refine ⟨by omega, by omega, ?_⟩
                refine nn_i ?_
                refine est_i hO (k := 0) (j := 0) rfl (by simp; omega) trivial fun _ hO => ?_
                (refine st_i hO (k := 4) (j := 0) rfl rfl rfl trivial fun _ hO => ?_)
                (refine ⟨_, _, _, _, (by (refine ca_i hO (k := 4) (j := 0) rfl rfl)), rfl, ?_⟩)
                (refine st_i hO (k := 3) (j := 0) rfl rfl rfl trivial fun _ hO => ?_)
                (refine st_i hO (k := 3) (j := 0) rfl rfl rfl trivial fun _ hO => ?_)
                (refine ⟨_, _, _, _, (by (refine ca_i hO (k := 3) (j := 0) rfl rfl)), rfl, ?_⟩)
                have hO' := (((hO.pick 5).pick 2).pick 2).to (Ls' := [cl g2 3 ((ob.ws.map (Value.int .i64) ++ r2.sp).set f.toNat (.int .i64 x))] :: [cl g1 99 ((out ++ r1.sp).set (0 + (findR a os 0).toNat * 5 + 4) (.slice (some ⟨g2, 0, none⟩) r2.n r2.c))] :: E :: _ :: _ :: _ :: Ls) rfl
                have hsub : ∀ (u v : List Ent), ∀ y ∈ E, y ∈ u ++ v ++ E := fun u v y hy => List.mem_append_right _ hy
                refine hK _ (some ⟨g1, 0, none⟩) r1.n r1.c _ hO'.merge.merge.skip.skip.skip ⟨by rw [hn1', hlo]; simp, fun _ => ⟨g1, _, _, rfl, List.mem_append_left _ (List.mem_append_right _ (List.mem_singleton.2 rfl)), ?_⟩⟩
                have hi : IntsE ([cl g2 3 ((ob.ws.map (Value.int .i64) ++ r2.sp).set f.toNat (.int .i64 x))] ++ [cl g1 99 ((out ++ r1.sp).set (0 + (findR a os 0).toNat * 5 + 4) (.slice (some ⟨g2, 0, none⟩) r2.n r2.c))] ++ E) (some ⟨g2, 0, none⟩) (ob.ws.set f.toNat x) := by
                  intro q y hy
                  refine ⟨g2, 0, _, _, rfl, List.mem_append_left _ (List.mem_append_left _ (List.mem_singleton.2 rfl)), ?_⟩
                  rw [Nat.zero_add, List.set_append_left _ _ (by simp; omega), ← List.map_set, List.getElem?_append_left (by simpa using (List.getElem?_eq_some_iff.1 hy).1), List.getElem?_map, hy]
                  rfl
                have hfin := ObsE.set (wc := r2.c) hi ((hoE.mono (hsub _ _)).rest r1.sp) hob
                rw [List.length_set, ← hn2'] at hfin
                simpa only [Nat.zero_add] using hfin
            unfold f22_j1
            (refine li_i hO (k := 0) (j := 0) rfl rfl rfl ?_)
            refine bif_d (fun h4 => ?_) (fun h4 => ?_)
            · (refine ⟨_, _, _, _, (by (refine ca_i hO (k := 2) (j := 0) rfl rfl)), rfl, ?_⟩)
              (refine (rleads_spec hx1 hx2 hl.2 (hO.has 3 rfl) hR) fun _ ho => ?_; replace hO := hO.after ho)
              refine ⟨_, rfl, ?_⟩
              refine bif_nb (fun h5 => ?_) (fun h5 => ?_)
              · rw [if_pos ⟨h4, h5⟩] at hK
                (refine ⟨_, _, _, _, (by (refine ca_i hO (k := 2) (j := 0) rfl rfl)), rfl, ?_⟩)
                (refine st_i hO (k := 1) (j := 0) rfl rfl rfl trivial fun _ hO => ?_)
                (refine st_i hO (k := 1) (j := 0) rfl rfl rfl trivial fun _ hO => ?_)
                (refine ⟨_, _, _, _, (by (refine ca_i hO (k := 1) (j := 0) rfl rfl)), rfl, ?_⟩)
                exact hK _ _ _ _ _ (hO.dropn 3 rfl) hR
              · exact join _ _ _ _ (fun hh => by rw [h5] at hh; cases hh.2) hO
            · exact join _ _ _ _ (fun hh => h4 hh.1) hO
end

end Go.Proofs.Ytokpbanandikpaa

/- Part 2 of the proof: FA, D1, D2, D3, D4, D5, D6, D7, D8, D9, D10, D11, D18, D19, D20. -/
import Derived.Test.YtokpbanandikpaaDoorSt1
import Derived.Test.YtokpbanandikpaaDoorProg
import Derived.Lib.Split
import Derived.Lib.CountLaws
import Derived.Lib.AtoiAllCases
import Derived.Lib.ItoaLen
import Derived.Laws.Strings
import Derived.Laws.BytesArg
import Derived.Below
import Derived.Lib.AtoiErrMem
import Derived.Deep.Draws
import Derived.Test.YtokpbanandikpaaDoorShelf
import Derived.Lib.IndexMore
set_option linter.unusedVariables false
set_option linter.unusedSimpArgs false
set_option linter.all false

set_option maxRecDepth 100000
set_option linter.unusedVariables false
namespace Go.Proofs.YtokpbanandikpaaDoor
open Go Go.V Go.Proofs
noncomputable abbrev Pg : Program := Tryd.prog
theorem follows : Pg.follows .mixedOrders = true := by kernel_rfl
def sB (l : List UInt8) : ByteArray := ⟨⟨l⟩⟩
-- besom/besomlaw17.ScriptParses
def f3_ann : Nat → Option Ann := fun _ => none
def f3_j2 (t3 : ByteArray) (a3 : Addr) (n17 : Int) (n18 : Int) (a4 : Addr) (w : World) (K : Value → World → Prop) : Prop := bif (n17 == 0) then (LI w a3 fun n19 => bif (n19 == n18) then (∃ (n20 : Int) (n21 : Int) (n22 : Int) (n23 : Int), (CellsAt w (a3.add 1) 0 [(.int .i64 n20), (.int .i64 n21), (.int .i64 n22), (.int .i64 n23)] ∧ (4 = 4 ∧ ∃ (n24 : Int) (n25 : Int) (n26 : Int) (n27 : Int), (CellsAt w a4 0 [(.int .i64 n24), (.int .i64 n25), (.int .i64 n26), (.int .i64 n27)] ∧ (4 = 4 ∧ EqW Pg 23 (.agg ⟨[(.int .i64 n20), (.int .i64 n21), (.int .i64 n22), (.int .i64 n23)]⟩) (.agg ⟨[(.int .i64 n24), (.int .i64 n25), (.int .i64 n26), (.int .i64 n27)]⟩) fun b6 => bif b6 then (∃ (n28 : Int) (n29 : Int) (n30 : Int) (n31 : Int) (n32 : Int), (CellsAt w a3 0 [(.int .i64 n28), (.int .i64 n29), (.int .i64 n30), (.int .i64 n31), (.int .i64 n32)] ∧ (5 = 5 ∧ Ret Pg 11 [(.agg ⟨[(.int .i64 n28), (.int .i64 n29), (.int .i64 n30), (.int .i64 n31), (.int .i64 n32)]⟩)] w fun r6 w17 => ∃ (b7 : Bool), r6 = (.bool b7) ∧ bif b7 then (∃ (n33 : Int) (n34 : Int) (n35 : Int) (n36 : Int) (n37 : Int), (CellsAt w17 a3 0 [(.int .i64 n33), (.int .i64 n34), (.int .i64 n35), (.int .i64 n36), (.int .i64 n37)] ∧ (5 = 5 ∧ Ret Pg 12 [(.agg ⟨[(.int .i64 n33), (.int .i64 n34), (.int .i64 n35), (.int .i64 n36), (.int .i64 n37)]⟩)] w17 fun r7 w18 => ∃ (t4 : ByteArray), r7 = (.string t4) ∧ K (.bool (ByteArray.toList t4 == ByteArray.toList t3)) w18))) else (K (.bool false) w17)))) else (K (.bool false) w)))))) else (K (.bool false) w)) else (K (.bool false) w)

def f3_j1 (t2 : ByteArray) (w : World) (K : Value → World → Prop) : Prop := Ret Pg 9 [(.string t2)] w fun r4 w4 => ∃ (n1 : Int) (n2 : Int) (n3 : Int) (n4 : Int) (n5 : Int), ∃ (n6 : Int), r4 = (.tuple ⟨[(.agg ⟨[(.int .i64 n1), (.int .i64 n2), (.int .i64 n3), (.int .i64 n4), (.int .i64 n5)]⟩), (.int .i64 n6)]⟩) ∧ NewW [(.int .i64 0), (.int .i64 0), (.int .i64 0), (.int .i64 0), (.int .i64 0)] 25 w4 fun a1 w5 => St w5 a1 (.int .i64 n1) fun w6 => St w6 (a1.add 1) (.int .i64 n2) fun w7 => St w7 (a1.add 2) (.int .i64 n3) fun w8 => St w8 (a1.add 3) (.int .i64 n4) fun w9 => St w9 (a1.add 4) (.int .i64 n5) fun w10 => Ret Pg 10 [(.string t2)] w10 fun r5 w11 => ∃ (n7 : Int), ∃ (n8 : Int) (n9 : Int) (n10 : Int) (n11 : Int), ∃ (b4 : Bool), r5 = (.tuple ⟨[(.int .i64 n7), (.agg ⟨[(.int .i64 n8), (.int .i64 n9), (.int .i64 n10), (.int .i64 n11)]⟩), (.bool b4)]⟩) ∧ NewW [(.int .i64 0), (.int .i64 0), (.int .i64 0), (.int .i64 0)] 23 w11 fun a2 w12 => St w12 a2 (.int .i64 n8) fun w13 => St w13 (a2.add 1) (.int .i64 n9) fun w14 => St w14 (a2.add 2) (.int .i64 n10) fun w15 => St w15 (a2.add 3) (.int .i64 n11) fun w16 => bif (!b4) then (bif (n6 == 10) then (∃ (n12 : Int) (n13 : Int) (n14 : Int) (n15 : Int) (n16 : Int), (CellsAt w16 a1 0 [(.int .i64 n12), (.int .i64 n13), (.int .i64 n14), (.int .i64 n15), (.int .i64 n16)] ∧ (5 = 5 ∧ EqW Pg 25 (.agg ⟨[(.int .i64 n12), (.int .i64 n13), (.int .i64 n14), (.int .i64 n15), (.int .i64 n16)]⟩) (.agg ⟨[(.int .i64 0), (.int .i64 0), (.int .i64 0), (.int .i64 0), (.int .i64 0)]⟩) fun b5 => K (.bool b5) w16))) else (K (.bool false) w16)) else (f3_j2 t2 a1 n6 n7 a2 w16 K)

def f3 (t1 : ByteArray) (w : World) (K : Value → World → Prop) : Prop := Ret Pg 8 [] w fun r1 w1 => ∃ (b1 : Bool), r1 = (.bool b1) ∧ bif (!b1) then (Ret Pg 8 [] w1 fun r2 w2 => ∃ (b2 : Bool), r2 = (.bool b2) ∧ K (.bool b2) w2) else (bif (decide (((ByteArray.size t1 : Nat) : Int) > 200)) then (Ret Pg 8 [] w1 fun r3 w3 => ∃ (b3 : Bool), r3 = (.bool b3) ∧ K (.bool b3) w3) else (f3_j1 t1 w1 K))
theorem f3_ret {t1 : ByteArray} {w : World} {K : Value → World → Prop} (h : f3 t1 w K) : Ret Pg 3 [(.string t1)] w K :=
  ret_of_WP (ann := f3_ann) (c := bodyOf Tryd.f3) follows Tryd.func3 rfl (by kernel_rfl) (by
    have e : WP Pg 60 f3_ann (bodyOf Tryd.f3) (retQ Pg Tryd.f3.results.toList K) (initEnv 0 [(.string t1)]) w = f3 t1 w K := by kernel_rfl
    rw [← e] at h; exact h)

-- besom/besomlaw17.ScriptTexts
noncomputable def f4_l0_B : Code := sub [1, 1, 1, 1, 0, 1, 0, 0] (bodyOf Tryd.f4)
@[reducible] def f4_l0_o0 : List (Nat × Sh) := [(1, .one (.ptr)), (3, .one (.int .i64)), (4, .one (.bool))]
@[reducible] def f4_l0_A : Ann := ⟨[(1, .one (.ptr)), (3, .one (.int .i64)), (4, .one (.bool)), (5, .one (.int .i64))], [(some 0, f4_l0_o0)]⟩
def f4_ann : Nat → Option Ann := fun r => cond (Nat.beq r 6) (some f4_l0_A) (none)
def f4_l0 (p2 : Option Addr) (n10 : Int) (b3 : Bool) (n11 : Int) (w : World) (Kn : Tup f4_l0_A.ins → World → Prop) (K0 : Tup f4_l0_o0 → World → Prop) : Prop := bif (decide (n11 < 4)) then (bif b3 then (NN p2 fun a2 => 0 ≤ n11 ∧ n11 < ((4 : Nat) : Int) ∧ LI w (Addr.at_ (a2.add 1) n11 1) fun n12 => Kn ⟨p2, n10, (n12 == 0), (IntKind.wrap .i64 (n11 + 1)), ()⟩ w) else (Kn ⟨p2, n10, false, (IntKind.wrap .i64 (n11 + 1)), ()⟩ w)) else (K0 ⟨p2, n10, b3, ()⟩ w)
theorem f4_l0_eq (p2 : Option Addr) (n10 : Int) (b3 : Bool) (n11 : Int) (w : World) (Kn : Tup f4_l0_A.ins → World → Prop) (K0 : Tup f4_l0_o0 → World → Prop) : WP Pg 68 f4_ann f4_l0_B (bodyQ f4_l0_A (K0, ()) Kn) (mkEnv f4_l0_A.ins ⟨p2, n10, b3, n11, ()⟩) w = f4_l0 p2 n10 b3 n11 w Kn K0 := by kernel_rfl

def f4_j2 (p4 : Option Addr) (b6 : Bool) (w : World) (K : Value → World → Prop) : Prop := bif (!b6) then (NN p4 fun a5 => ∃ (n21 : Int) (n22 : Int) (n23 : Int) (n24 : Int) (n25 : Int), (CellsAt w a5 0 [(.int .i64 n21), (.int .i64 n22), (.int .i64 n23), (.int .i64 n24), (.int .i64 n25)] ∧ (5 = 5 ∧ Ret Pg 12 [(.agg ⟨[(.int .i64 n21), (.int .i64 n22), (.int .i64 n23), (.int .i64 n24), (.int .i64 n25)]⟩)] w fun r5 w7 => ∃ (t1 : ByteArray), r5 = (.string t1) ∧ K (.bool (ByteArray.toList t1 == ByteArray.toList (sB []))) w7))) else (NN p4 fun a6 => ∃ (n26 : Int) (n27 : Int) (n28 : Int) (n29 : Int) (n30 : Int), (CellsAt w a6 0 [(.int .i64 n26), (.int .i64 n27), (.int .i64 n28), (.int .i64 n29), (.int .i64 n30)] ∧ (5 = 5 ∧ Ret Pg 12 [(.agg ⟨[(.int .i64 n26), (.int .i64 n27), (.int .i64 n28), (.int .i64 n29), (.int .i64 n30)]⟩)] w fun r6 w8 => ∃ (t2 : ByteArray), r6 = (.string t2) ∧ Ret Pg 9 [(.string t2)] w8 fun r7 w9 => ∃ (n31 : Int) (n32 : Int) (n33 : Int) (n34 : Int) (n35 : Int), ∃ (n36 : Int), r7 = (.tuple ⟨[(.agg ⟨[(.int .i64 n31), (.int .i64 n32), (.int .i64 n33), (.int .i64 n34), (.int .i64 n35)]⟩), (.int .i64 n36)]⟩) ∧ NewW [(.int .i64 0), (.int .i64 0), (.int .i64 0), (.int .i64 0), (.int .i64 0)] 25 w9 fun a7 w10 => St w10 a7 (.int .i64 n31) fun w11 => St w11 (a7.add 1) (.int .i64 n32) fun w12 => St w12 (a7.add 2) (.int .i64 n33) fun w13 => St w13 (a7.add 3) (.int .i64 n34) fun w14 => St w14 (a7.add 4) (.int .i64 n35) fun w15 => NN p4 fun a8 => ∃ (n37 : Int) (n38 : Int) (n39 : Int) (n40 : Int) (n41 : Int), (CellsAt w15.drew a8 0 [(.int .i64 n37), (.int .i64 n38), (.int .i64 n39), (.int .i64 n40), (.int .i64 n41)] ∧ (5 = 5 ∧ NN p4 fun a9 => LI w15.drew a9 fun n42 => NN p4 fun a10 => ∃ (n43 : Int) (n44 : Int) (n45 : Int) (n46 : Int), (CellsAt w15.drew (a10.add 1) 0 [(.int .i64 n43), (.int .i64 n44), (.int .i64 n45), (.int .i64 n46)] ∧ (4 = 4 ∧ Ret Pg 12 [(.agg ⟨[(.int .i64 n37), (.int .i64 n38), (.int .i64 n39), (.int .i64 n40), (.int .i64 n41)]⟩)] w15.drew fun r8 w16 => ∃ (t3 : ByteArray), r8 = (.string t3) ∧ Old w15.drew w16 ∧ Ret Pg 15 [(.int .i64 n42), (.agg ⟨[(.int .i64 n43), (.int .i64 n44), (.int .i64 n45), (.int .i64 n46)]⟩)] w16 fun r9 w17 => ∃ (t4 : ByteArray), r9 = (.string t4) ∧ Old w16 w17 ∧ bif (ByteArray.toList t3 == ByteArray.toList t4) then (bif (n36 == 0) then (∃ (n47 : Int) (n48 : Int) (n49 : Int) (n50 : Int) (n51 : Int), (CellsAt w15.drew a7 0 [(.int .i64 n47), (.int .i64 n48), (.int .i64 n49), (.int .i64 n50), (.int .i64 n51)] ∧ (5 = 5 ∧ NN p4 fun a11 => ∃ (n52 : Int) (n53 : Int) (n54 : Int) (n55 : Int) (n56 : Int), (CellsAt w15.drew a11 0 [(.int .i64 n52), (.int .i64 n53), (.int .i64 n54), (.int .i64 n55), (.int .i64 n56)] ∧ (5 = 5 ∧ EqW Pg 25 (.agg ⟨[(.int .i64 n47), (.int .i64 n48), (.int .i64 n49), (.int .i64 n50), (.int .i64 n51)]⟩) (.agg ⟨[(.int .i64 n52), (.int .i64 n53), (.int .i64 n54), (.int .i64 n55), (.int .i64 n56)]⟩) fun b7 => K (.bool b7) w17))))) else (K (.bool false) w17)) else (K (.bool false) w17))))))))

def f4_j1 (p3 : Option Addr) (n13 : Int) (b4 : Bool) (w : World) (K : Value → World → Prop) : Prop := NN p3 fun a3 => ∃ (n14 : Int) (n15 : Int) (n16 : Int) (n17 : Int) (n18 : Int), (CellsAt w a3 0 [(.int .i64 n14), (.int .i64 n15), (.int .i64 n16), (.int .i64 n17), (.int .i64 n18)] ∧ (5 = 5 ∧ Ret Pg 11 [(.agg ⟨[(.int .i64 n14), (.int .i64 n15), (.int .i64 n16), (.int .i64 n17), (.int .i64 n18)]⟩)] w fun r3 w5 => ∃ (b5 : Bool), r3 = (.bool b5) ∧ bif (!(b5 == b4)) then (K (.bool false) w5) else (NN p3 fun a4 => LI w5 a4 fun n19 => Ret Pg 14 [(.int .i64 n19)] w5 fun r4 w6 => ∃ (n20 : Int), r4 = (.int .i64 n20) ∧ bif (n20 != n13) then (K (.bool false) w6) else (f4_j2 p3 b4 w6 K))))

def f4 (n1 : Int) (n2 : Int) (n3 : Int) (n4 : Int) (n5 : Int) (w : World) (K : Value → World → Prop) : Prop := NewW [(.int .i64 n1), (.int .i64 n2), (.int .i64 n3), (.int .i64 n4), (.int .i64 n5)] 25 w fun a1 w1 => Ret Pg 8 [] w1 fun r1 w2 => ∃ (b1 : Bool), r1 = (.bool b1) ∧ bif (!b1) then (K (.bool false) w2) else (LI w2 a1 fun n6 => Ret Pg 13 [(.int .i64 n6)] w2 fun r2 w3 => ∃ (n7 : Int), r2 = (.int .i64 n7) ∧ LoopP Pg 68 f4_l0_B f4_l0_A ⟨(some a1), n7, (decide (n7 ≥ 0)), (if 0 > n7 then 0 else n7), ()⟩ w3 (fun (y1 : Tup f4_l0_o0) (w4 : World) => f4_j1 y1.1 y1.2.1 y1.2.2.1 w4 K, ()))
theorem f4_ret {n1 : Int} {n2 : Int} {n3 : Int} {n4 : Int} {n5 : Int} {w : World} {K : Value → World → Prop} (h : f4 n1 n2 n3 n4 n5 w K) : Ret Pg 4 [(.agg ⟨[(.int .i64 n1), (.int .i64 n2), (.int .i64 n3), (.int .i64 n4), (.int .i64 n5)]⟩)] w K :=
  ret_of_WP (ann := f4_ann) (c := bodyOf Tryd.f4) follows Tryd.func4 rfl (by kernel_rfl) (by
    have e : WP Pg 68 f4_ann (bodyOf Tryd.f4) (retQ Pg Tryd.f4.results.toList K) (initEnv 0 [(.agg ⟨[(.int .i64 n1), (.int .i64 n2), (.int .i64 n3), (.int .i64 n4), (.int .i64 n5)]⟩)]) w = f4 n1 n2 n3 n4 n5 w K := by kernel_rfl
    rw [← e] at h; exact h)

-- besom/besomlaw17.ScriptOthers
noncomputable def f5_l0_B : Code := sub [1, 1, 1, 0, 1, 0, 0] (bodyOf Tryd.f5)
@[reducible] def f5_l0_o0 : List (Nat × Sh) := [(2, .one (.ptr)), (3, .one (.ptr)), (5, .one (.int .i64))]
@[reducible] def f5_l0_A : Ann := ⟨[(2, .one (.ptr)), (3, .one (.ptr)), (5, .one (.int .i64)), (22, .one (.int .i64)), (23, .one (.int .i64))], [(some 0, f5_l0_o0)]⟩
def f5_ann : Nat → Option Ann := fun r => cond (Nat.beq r 5) (some f5_l0_A) (none)
def f5_l0 (p3 : Option Addr) (p4 : Option Addr) (n29 : Int) (n30 : Int) (n31 : Int) (w : World) (Kn : Tup f5_l0_A.ins → World → Prop) (K0 : Tup f5_l0_o0 → World → Prop) : Prop := bif (decide (n31 < n30)) then (NN p3 fun a5 => ∃ (n32 : Int) (n33 : Int) (n34 : Int) (n35 : Int) (n36 : Int), (CellsAt w a5 0 [(.int .i64 n32), (.int .i64 n33), (.int .i64 n34), (.int .i64 n35), (.int .i64 n36)] ∧ (5 = 5 ∧ Ret Pg 12 [(.agg ⟨[(.int .i64 n32), (.int .i64 n33), (.int .i64 n34), (.int .i64 n35), (.int .i64 n36)]⟩)] w fun r8 w10 => ∃ (t2 : ByteArray), r8 = (.string t2) ∧ ∃ u1 : UInt8, (0 ≤ n31 ∧ t2[Int.toNat n31]? = some u1) ∧ bif (((u1.toNat : Nat) : Int) == 32) then (Kn ⟨p3, p4, (IntKind.wrap .i64 (n29 + 1)), n30, (IntKind.wrap .i64 (n31 + 1)), ()⟩ w10) else (Kn ⟨p3, p4, n29, n30, (IntKind.wrap .i64 (n31 + 1)), ()⟩ w10)))) else (K0 ⟨p3, p4, n29, ()⟩ w)
theorem f5_l0_eq (p3 : Option Addr) (p4 : Option Addr) (n29 : Int) (n30 : Int) (n31 : Int) (w : World) (Kn : Tup f5_l0_A.ins → World → Prop) (K0 : Tup f5_l0_o0 → World → Prop) : WP Pg 50 f5_ann f5_l0_B (bodyQ f5_l0_A (K0, ()) Kn) (mkEnv f5_l0_A.ins ⟨p3, p4, n29, n30, n31, ()⟩) w = f5_l0 p3 p4 n29 n30 n31 w Kn K0 := by kernel_rfl

def f5_j2 (p5 : Option Addr) (p6 : Option Addr) (n37 : Int) (w : World) (K : Value → World → Prop) : Prop := NN p5 fun a6 => ∃ (n38 : Int) (n39 : Int) (n40 : Int) (n41 : Int) (n42 : Int), (CellsAt w.drew a6 0 [(.int .i64 n38), (.int .i64 n39), (.int .i64 n40), (.int .i64 n41), (.int .i64 n42)] ∧ (5 = 5 ∧ NN p6 fun a7 => ∃ (n43 : Int) (n44 : Int) (n45 : Int) (n46 : Int) (n47 : Int), (CellsAt w.drew a7 0 [(.int .i64 n43), (.int .i64 n44), (.int .i64 n45), (.int .i64 n46), (.int .i64 n47)] ∧ (5 = 5 ∧ NN p5 fun a8 => ∃ (n48 : Int) (n49 : Int) (n50 : Int) (n51 : Int) (n52 : Int), (CellsAt w.drew a8 0 [(.int .i64 n48), (.int .i64 n49), (.int .i64 n50), (.int .i64 n51), (.int .i64 n52)] ∧ (5 = 5 ∧ NN p6 fun a9 => ∃ (n53 : Int) (n54 : Int) (n55 : Int) (n56 : Int) (n57 : Int), (CellsAt w.drew a9 0 [(.int .i64 n53), (.int .i64 n54), (.int .i64 n55), (.int .i64 n56), (.int .i64 n57)] ∧ (5 = 5 ∧ EqW Pg 25 (.agg ⟨[(.int .i64 n48), (.int .i64 n49), (.int .i64 n50), (.int .i64 n51), (.int .i64 n52)]⟩) (.agg ⟨[(.int .i64 n53), (.int .i64 n54), (.int .i64 n55), (.int .i64 n56), (.int .i64 n57)]⟩) fun b7 => Ret Pg 12 [(.agg ⟨[(.int .i64 n38), (.int .i64 n39), (.int .i64 n40), (.int .i64 n41), (.int .i64 n42)]⟩)] w.drew fun r9 w12 => ∃ (t3 : ByteArray), r9 = (.string t3) ∧ Old w.drew w12 ∧ Ret Pg 12 [(.agg ⟨[(.int .i64 n43), (.int .i64 n44), (.int .i64 n45), (.int .i64 n46), (.int .i64 n47)]⟩)] w12 fun r10 w13 => ∃ (t4 : ByteArray), r10 = (.string t4) ∧ Old w12 w13 ∧ bif ((ByteArray.toList t3 == ByteArray.toList t4) == b7) then (NN p5 fun a10 => LI w.drew a10 fun n58 => Ret Pg 14 [(.int .i64 n58)] w13 fun r11 w14 => ∃ (n59 : Int), r11 = (.int .i64 n59) ∧ K (.bool (n37 == n59)) w14) else (K (.bool false) w13)))))))))

def f5_j1 (a3 : Addr) (a4 : Addr) (w : World) (K : Value → World → Prop) : Prop := ∃ (n21 : Int) (n22 : Int) (n23 : Int) (n24 : Int) (n25 : Int), (CellsAt w a3 0 [(.int .i64 n21), (.int .i64 n22), (.int .i64 n23), (.int .i64 n24), (.int .i64 n25)] ∧ (5 = 5 ∧ Ret Pg 12 [(.agg ⟨[(.int .i64 n21), (.int .i64 n22), (.int .i64 n23), (.int .i64 n24), (.int .i64 n25)]⟩)] w fun r7 w9 => ∃ (t1 : ByteArray), r7 = (.string t1) ∧ LoopP Pg 50 f5_l0_B f5_l0_A ⟨(some a3), (some a4), 0, ((ByteArray.size t1 : Nat) : Int), 0, ()⟩ w9 (fun (y1 : Tup f5_l0_o0) (w11 : World) => f5_j2 y1.1 y1.2.1 y1.2.2.1 w11 K, ())))

def f5 (n1 : Int) (n2 : Int) (n3 : Int) (n4 : Int) (n5 : Int) (n6 : Int) (n7 : Int) (n8 : Int) (n9 : Int) (n10 : Int) (w : World) (K : Value → World → Prop) : Prop := NewW [(.int .i64 n1), (.int .i64 n2), (.int .i64 n3), (.int .i64 n4), (.int .i64 n5)] 25 w fun a1 w1 => NewW [(.int .i64 n6), (.int .i64 n7), (.int .i64 n8), (.int .i64 n9), (.int .i64 n10)] 25 w1 fun a2 w2 => Ret Pg 8 [] w2 fun r1 w3 => ∃ (b1 : Bool), r1 = (.bool b1) ∧ bif (!b1) then (Ret Pg 8 [] w3 fun r2 w4 => ∃ (b2 : Bool), r2 = (.bool b2) ∧ K (.bool b2) w4) else (∃ (n11 : Int) (n12 : Int) (n13 : Int) (n14 : Int) (n15 : Int), (CellsAt w3 a1 0 [(.int .i64 n11), (.int .i64 n12), (.int .i64 n13), (.int .i64 n14), (.int .i64 n15)] ∧ (5 = 5 ∧ Ret Pg 11 [(.agg ⟨[(.int .i64 n11), (.int .i64 n12), (.int .i64 n13), (.int .i64 n14), (.int .i64 n15)]⟩)] w3 fun r3 w5 => ∃ (b3 : Bool), r3 = (.bool b3) ∧ bif (!b3) then (Ret Pg 8 [] w5 fun r4 w6 => ∃ (b4 : Bool), r4 = (.bool b4) ∧ K (.bool b4) w6) else (∃ (n16 : Int) (n17 : Int) (n18 : Int) (n19 : Int) (n20 : Int), (CellsAt w5 a2 0 [(.int .i64 n16), (.int .i64 n17), (.int .i64 n18), (.int .i64 n19), (.int .i64 n20)] ∧ (5 = 5 ∧ Ret Pg 11 [(.agg ⟨[(.int .i64 n16), (.int .i64 n17), (.int .i64 n18), (.int .i64 n19), (.int .i64 n20)]⟩)] w5 fun r5 w7 => ∃ (b5 : Bool), r5 = (.bool b5) ∧ bif (!b5) then (Ret Pg 8 [] w7 fun r6 w8 => ∃ (b6 : Bool), r6 = (.bool b6) ∧ K (.bool b6) w8) else (f5_j1 a1 a2 w7 K)))))))
theorem f5_ret {n1 : Int} {n2 : Int} {n3 : Int} {n4 : Int} {n5 : Int} {n6 : Int} {n7 : Int} {n8 : Int} {n9 : Int} {n10 : Int} {w : World} {K : Value → World → Prop} (h : f5 n1 n2 n3 n4 n5 n6 n7 n8 n9 n10 w K) : Ret Pg 5 [(.agg ⟨[(.int .i64 n1), (.int .i64 n2), (.int .i64 n3), (.int .i64 n4), (.int .i64 n5)]⟩), (.agg ⟨[(.int .i64 n6), (.int .i64 n7), (.int .i64 n8), (.int .i64 n9), (.int .i64 n10)]⟩)] w K :=
  ret_of_WP (ann := f5_ann) (c := bodyOf Tryd.f5) follows Tryd.func5 rfl (by kernel_rfl) (by
    have e : WP Pg 50 f5_ann (bodyOf Tryd.f5) (retQ Pg Tryd.f5.results.toList K) (initEnv 0 [(.agg ⟨[(.int .i64 n1), (.int .i64 n2), (.int .i64 n3), (.int .i64 n4), (.int .i64 n5)]⟩), (.agg ⟨[(.int .i64 n6), (.int .i64 n7), (.int .i64 n8), (.int .i64 n9), (.int .i64 n10)]⟩)]) w = f5 n1 n2 n3 n4 n5 n6 n7 n8 n9 n10 w K := by kernel_rfl
    rw [← e] at h; exact h)

-- besom/besomlaw17.ScriptAlls
noncomputable def f6_l0_B : Code := sub [1, 1, 1, 1, 1, 0, 1, 0, 0] (bodyOf Tryd.f6)
@[reducible] def f6_l0_o0 : List (Nat × Sh) := [(0, .one (.str)), (3, .one (.sl)), (4, .one (.int .i64)), (5, .one (.int .i64)), (6, .one (.sl)), (7, .one (.int .i64)), (8, .one (.int .i64))]
@[reducible] def f6_l0_or : List (Nat × Sh) := [(2, .one (.bool))]
@[reducible] def f6_l0_A : Ann := ⟨[(0, .one (.str)), (3, .one (.sl)), (4, .one (.int .i64)), (5, .one (.int .i64)), (6, .one (.sl)), (7, .one (.int .i64)), (8, .one (.int .i64)), (29, .one (.int .i64)), (30, .one (.int .i64))], [(some 0, f6_l0_o0), (none, f6_l0_or)]⟩
noncomputable def f6_l1_B : Code := sub [1, 1, 1, 1, 1, 1, 1, 1, 0, 1, 0, 0] (bodyOf Tryd.f6)
@[reducible] def f6_l1_o2 : List (Nat × Sh) := []
@[reducible] def f6_l1_or : List (Nat × Sh) := [(2, .one (.bool))]
@[reducible] def f6_l1_A : Ann := ⟨[(3, .one (.sl)), (6, .one (.sl)), (101, .one (.int .i64)), (102, .one (.int .i64))], [(some 2, f6_l1_o2), (none, f6_l1_or)]⟩
def f6_ann : Nat → Option Ann := fun r => cond (Nat.beq r 7) (some f6_l0_A) (cond (Nat.beq r 22) (some f6_l1_A) (none))
def f6_l1 (s17 : Sl) (s18 : Sl) (n39 : Int) (n40 : Int) (w : World) (Kn : Tup f6_l1_A.ins → World → Prop) (K2 : Tup f6_l1_o2 → World → Prop) (Kr : Tup f6_l1_or → World → Prop) : Prop := bif (decide (n40 < n39)) then (0 ≤ n40 ∧ n40 < ((s17.len : Nat) : Int) ∧ NN s17.at_ fun a4 => ∃ (n41 : Int) (n42 : Int) (n43 : Int) (n44 : Int) (n45 : Int), (CellsAt w.drew (Addr.at_ a4 n40 5) 0 [(.int .i64 n41), (.int .i64 n42), (.int .i64 n43), (.int .i64 n44), (.int .i64 n45)] ∧ (5 = 5 ∧ 0 ≤ n40 ∧ n40 < ((s18.len : Nat) : Int) ∧ NN s18.at_ fun a5 => ∃ (n46 : Int) (n47 : Int) (n48 : Int) (n49 : Int) (n50 : Int), (CellsAt w.drew (Addr.at_ a5 n40 5) 0 [(.int .i64 n46), (.int .i64 n47), (.int .i64 n48), (.int .i64 n49), (.int .i64 n50)] ∧ (5 = 5 ∧ EqW Pg 25 (.agg ⟨[(.int .i64 n41), (.int .i64 n42), (.int .i64 n43), (.int .i64 n44), (.int .i64 n45)]⟩) (.agg ⟨[(.int .i64 n46), (.int .i64 n47), (.int .i64 n48), (.int .i64 n49), (.int .i64 n50)]⟩) fun b5 => bif (!b5) then (Kr ⟨false, ()⟩ w.drew) else (Kn ⟨⟨s17.at_, s17.len, s17.cap⟩, ⟨s18.at_, s18.len, s18.cap⟩, n39, (IntKind.wrap .i64 (n40 + 1)), ()⟩ w.drew)))))) else (K2 () w)
theorem f6_l1_eq (s17 : Sl) (s18 : Sl) (n39 : Int) (n40 : Int) (w : World) (Kn : Tup f6_l1_A.ins → World → Prop) (K2 : Tup f6_l1_o2 → World → Prop) (Kr : Tup f6_l1_or → World → Prop) : WP Pg 115 f6_ann f6_l1_B (bodyQ f6_l1_A (K2, Kr, ()) Kn) (mkEnv f6_l1_A.ins ⟨s17, s18, n39, n40, ()⟩) w = f6_l1 s17 s18 n39 n40 w Kn K2 Kr := by kernel_rfl

def f6_j2 (t5 : ByteArray) (s6p : Option Addr) (s6l : Nat) (s6c : Nat) (n20 : Int) (n21 : Int) (s7p : Option Addr) (s7l : Nat) (s7c : Nat) (n22 : Int) (n23 : Int) (n24 : Int) (a2 : Addr) (n25 : Int) (n26 : Int) (w : World) (Kn : Tup f6_l0_A.ins → World → Prop) (K0 : Tup f6_l0_o0 → World → Prop) (Kr : Tup f6_l0_or → World → Prop) : Prop := ∃ (n27 : Int) (n28 : Int) (n29 : Int) (n30 : Int), (CellsAt w a2 0 [(.int .i64 n27), (.int .i64 n28), (.int .i64 n29), (.int .i64 n30)] ∧ (4 = 4 ∧ NewW [(.int .i64 n24), (.int .i64 n27), (.int .i64 n28), (.int .i64 n29), (.int .i64 n30)] 25 w fun a3 w11 => ApW Pg 37 37 (.slice s7p s7l s7c) (.slice (some a3) 1 1) w11 fun s8p s8l s8c w12 => Kn ⟨t5, ⟨s6p, s6l, s6c⟩, n20, n21, ⟨s8p, s8l, s8c⟩, (IntKind.wrap .i64 (n23 + 1)), (IntKind.wrap .i64 (n22 + 1)), n25, (IntKind.wrap .i64 (n26 + 1)), ()⟩ w12))

def f6_l0 (t4 : ByteArray) (s4 : Sl) (n9 : Int) (n10 : Int) (s5 : Sl) (n11 : Int) (n12 : Int) (n13 : Int) (n14 : Int) (w : World) (Kn : Tup f6_l0_A.ins → World → Prop) (K0 : Tup f6_l0_o0 → World → Prop) (Kr : Tup f6_l0_or → World → Prop) : Prop := bif (decide (n14 < n13)) then (∃ u1 : UInt8, (0 ≤ n14 ∧ t4[Int.toNat n14]? = some u1) ∧ bif (((u1.toNat : Nat) : Int) != 10) then (Kn ⟨t4, ⟨s4.at_, s4.len, s4.cap⟩, n9, n10, ⟨s5.at_, s5.len, s5.cap⟩, n11, n12, n13, (IntKind.wrap .i64 (n14 + 1)), ()⟩ w) else (0 ≤ n11 ∧ n11 ≤ n14 ∧ n14 ≤ ((ByteArray.size t4 : Nat) : Int) ∧ Ret Pg 10 [(.string (ByteArray.extract t4 (Int.toNat n11) (Int.toNat n14)))] w fun r5 w5 => ∃ (n15 : Int), ∃ (n16 : Int) (n17 : Int) (n18 : Int) (n19 : Int), ∃ (b4 : Bool), r5 = (.tuple ⟨[(.int .i64 n15), (.agg ⟨[(.int .i64 n16), (.int .i64 n17), (.int .i64 n18), (.int .i64 n19)]⟩), (.bool b4)]⟩) ∧ NewW [(.int .i64 0), (.int .i64 0), (.int .i64 0), (.int .i64 0)] 23 w5 fun a1 w6 => St w6 a1 (.int .i64 n16) fun w7 => St w7 (a1.add 1) (.int .i64 n17) fun w8 => St w8 (a1.add 2) (.int .i64 n18) fun w9 => St w9 (a1.add 3) (.int .i64 n19) fun w10 => bif (!b4) then (bif (n10 == 10) then (bif (n9 == n12) then (Kr ⟨(((s4.len : Nat) : Int) == 0), ()⟩ w10) else (Kr ⟨false, ()⟩ w10)) else (Kr ⟨false, ()⟩ w10)) else (f6_j2 t4 s4.at_ s4.len s4.cap n9 n10 s5.at_ s5.len s5.cap n12 n14 n15 a1 n13 n14 w10 Kn K0 Kr))) else (K0 ⟨t4, ⟨s4.at_, s4.len, s4.cap⟩, n9, n10, ⟨s5.at_, s5.len, s5.cap⟩, n11, n12, ()⟩ w)
theorem f6_l0_eq (t4 : ByteArray) (s4 : Sl) (n9 : Int) (n10 : Int) (s5 : Sl) (n11 : Int) (n12 : Int) (n13 : Int) (n14 : Int) (w : World) (Kn : Tup f6_l0_A.ins → World → Prop) (K0 : Tup f6_l0_o0 → World → Prop) (Kr : Tup f6_l0_or → World → Prop) : WP Pg 115 f6_ann f6_l0_B (bodyQ f6_l0_A (K0, Kr, ()) Kn) (mkEnv f6_l0_A.ins ⟨t4, s4, n9, n10, s5, n11, n12, n13, n14, ()⟩) w = f6_l0 t4 s4 n9 n10 s5 n11 n12 n13 n14 w Kn K0 Kr := by kernel_rfl

def f6_j5 (s13p : Option Addr) (s13l : Nat) (s13c : Nat) (s14p : Option Addr) (s14l : Nat) (s14c : Nat) (w : World) (K : Value → World → Prop) : Prop := LoopP Pg 115 f6_l1_B f6_l1_A ⟨⟨s13p, s13l, s13c⟩, ⟨s14p, s14l, s14c⟩, ((s13l : Nat) : Int), 0, ()⟩ w (fun (y2 : Tup f6_l1_o2) (w14 : World) => K (.bool true) w14, fun (y3 : Tup f6_l1_or) (w15 : World) => K (.bool y3.1) w15, ())

def f6_j4 (s11p : Option Addr) (s11l : Nat) (s11c : Nat) (n35 : Int) (n36 : Int) (s12p : Option Addr) (s12l : Nat) (s12c : Nat) (w : World) (K : Value → World → Prop) : Prop := bif (n36 != 0) then (K (.bool false) w) else (bif (n35 != 0) then (K (.bool false) w) else (bif (((s11l : Nat) : Int) != ((s12l : Nat) : Int)) then (K (.bool false) w) else (f6_j5 s11p s11l s11c s12p s12l s12c w K)))

def f6_j3 (t6 : ByteArray) (s9p : Option Addr) (s9l : Nat) (s9c : Nat) (n31 : Int) (n32 : Int) (s10p : Option Addr) (s10l : Nat) (s10c : Nat) (n33 : Int) (n34 : Int) (w : World) (K : Value → World → Prop) : Prop := bif (decide (n33 < ((ByteArray.size t6 : Nat) : Int))) then (bif (n32 == 10) then (bif (n31 == n34) then (K (.bool (((s9l : Nat) : Int) == 0)) w) else (K (.bool false) w)) else (K (.bool false) w)) else (f6_j4 s9p s9l s9c n31 n32 s10p s10l s10c w K)

def f6_j1 (t2 : ByteArray) (w : World) (K : Value → World → Prop) : Prop := Ret Pg 16 [(.string t2)] w fun r4 w4 => ∃ (s1p : Option Addr) (s1l : Nat) (s1c : Nat), ∃ (n1 : Int), ∃ (n2 : Int), r4 = (.tuple ⟨[(.slice s1p s1l s1c), (.int .i64 n1), (.int .i64 n2)]⟩) ∧ LoopP Pg 115 f6_l0_B f6_l0_A ⟨t2, ⟨s1p, s1l, s1c⟩, n1, n2, ⟨none, 0, 0⟩, 0, 1, ((ByteArray.size t2 : Nat) : Int), 0, ()⟩ w4 (fun (y1 : Tup f6_l0_o0) (w13 : World) => f6_j3 y1.1 y1.2.1.at_ y1.2.1.len y1.2.1.cap y1.2.2.1 y1.2.2.2.1 y1.2.2.2.2.1.at_ y1.2.2.2.2.1.len y1.2.2.2.2.1.cap y1.2.2.2.2.2.1 y1.2.2.2.2.2.2.1 w13 K, fun (y4 : Tup f6_l0_or) (w16 : World) => K (.bool y4.1) w16, ())

def f6 (t1 : ByteArray) (w : World) (K : Value → World → Prop) : Prop := Ret Pg 8 [] w fun r1 w1 => ∃ (b1 : Bool), r1 = (.bool b1) ∧ bif (!b1) then (Ret Pg 8 [] w1 fun r2 w2 => ∃ (b2 : Bool), r2 = (.bool b2) ∧ K (.bool b2) w2) else (bif (decide (((ByteArray.size t1 : Nat) : Int) > 600)) then (Ret Pg 8 [] w1 fun r3 w3 => ∃ (b3 : Bool), r3 = (.bool b3) ∧ K (.bool b3) w3) else (f6_j1 t1 w1 K))
theorem f6_ret {t1 : ByteArray} {w : World} {K : Value → World → Prop} (h : f6 t1 w K) : Ret Pg 6 [(.string t1)] w K :=
  ret_of_WP (ann := f6_ann) (c := bodyOf Tryd.f6) follows Tryd.func6 rfl (by kernel_rfl) (by
    have e : WP Pg 115 f6_ann (bodyOf Tryd.f6) (retQ Pg Tryd.f6.results.toList K) (initEnv 0 [(.string t1)]) w = f6 t1 w K := by kernel_rfl
    rw [← e] at h; exact h)

-- besom/besomlaw17.ScriptJoins
noncomputable def f7_l0_B : Code := sub [1, 1, 1, 1, 1, 1, 1, 0, 1, 0, 0] (bodyOf Tryd.f7)
@[reducible] def f7_l0_o1 : List (Nat × Sh) := []
@[reducible] def f7_l0_or : List (Nat × Sh) := [(4, .one (.bool))]
@[reducible] def f7_l0_A : Ann := ⟨[(11, .one (.sl)), (110, .one (.sl)), (111, .one (.int .i64)), (112, .one (.int .i64))], [(some 1, f7_l0_o1), (none, f7_l0_or)]⟩
def f7_ann : Nat → Option Ann := fun r => cond (Nat.beq r 13) (some f7_l0_A) (none)
def f7_l0 (s14 : Sl) (s15 : Sl) (n10 : Int) (n11 : Int) (w : World) (Kn : Tup f7_l0_A.ins → World → Prop) (K1 : Tup f7_l0_o1 → World → Prop) (Kr : Tup f7_l0_or → World → Prop) : Prop := bif (decide (n11 < n10)) then (0 ≤ n11 ∧ n11 < ((s15.len : Nat) : Int) ∧ NN s15.at_ fun a2 => ∃ (n12 : Int) (n13 : Int) (n14 : Int) (n15 : Int) (n16 : Int), (CellsAt w (Addr.at_ a2 n11 5) 0 [(.int .i64 n12), (.int .i64 n13), (.int .i64 n14), (.int .i64 n15), (.int .i64 n16)] ∧ (5 = 5 ∧ NewW [(.int .i64 0), (.int .i64 0), (.int .i64 0), (.int .i64 0), (.int .i64 0)] 25 w fun a3 w11 => St w11 a3 (.int .i64 n12) fun w12 => St w12 (a3.add 1) (.int .i64 n13) fun w13 => St w13 (a3.add 2) (.int .i64 n14) fun w14 => St w14 (a3.add 3) (.int .i64 n15) fun w15 => St w15 (a3.add 4) (.int .i64 n16) fun w16 => 0 ≤ n11 ∧ n11 < ((s14.len : Nat) : Int) ∧ NN s14.at_ fun a4 => ∃ (n17 : Int) (n18 : Int) (n19 : Int) (n20 : Int) (n21 : Int), (CellsAt w16.drew (Addr.at_ a4 n11 5) 0 [(.int .i64 n17), (.int .i64 n18), (.int .i64 n19), (.int .i64 n20), (.int .i64 n21)] ∧ (5 = 5 ∧ ∃ (n22 : Int) (n23 : Int) (n24 : Int) (n25 : Int) (n26 : Int), (CellsAt w16.drew a3 0 [(.int .i64 n22), (.int .i64 n23), (.int .i64 n24), (.int .i64 n25), (.int .i64 n26)] ∧ (5 = 5 ∧ EqW Pg 25 (.agg ⟨[(.int .i64 n17), (.int .i64 n18), (.int .i64 n19), (.int .i64 n20), (.int .i64 n21)]⟩) (.agg ⟨[(.int .i64 n22), (.int .i64 n23), (.int .i64 n24), (.int .i64 n25), (.int .i64 n26)]⟩) fun b5 => bif (!b5) then (Kr ⟨false, ()⟩ w16.drew) else (Kn ⟨⟨s14.at_, s14.len, s14.cap⟩, ⟨s15.at_, s15.len, s15.cap⟩, n10, (IntKind.wrap .i64 (n11 + 1)), ()⟩ w16.drew)))))))) else (K1 () w)
theorem f7_l0_eq (s14 : Sl) (s15 : Sl) (n10 : Int) (n11 : Int) (w : World) (Kn : Tup f7_l0_A.ins → World → Prop) (K1 : Tup f7_l0_o1 → World → Prop) (Kr : Tup f7_l0_or → World → Prop) : WP Pg 124 f7_ann f7_l0_B (bodyQ f7_l0_A (K1, Kr, ()) Kn) (mkEnv f7_l0_A.ins ⟨s14, s15, n10, n11, ()⟩) w = f7_l0 s14 s15 n10 n11 w Kn K1 Kr := by kernel_rfl

def f7_j3 (s7p : Option Addr) (s7l : Nat) (s7c : Nat) (s8p : Option Addr) (s8l : Nat) (s8c : Nat) (s9p : Option Addr) (s9l : Nat) (s9c : Nat) (w : World) (K : Value → World → Prop) : Prop := NewW [] 25 w fun a1 w8 => ApW Pg 37 37 (.slice (some a1) 0 0) (.slice s7p s7l s7c) w8 fun s10p s10l s10c w9 => ApW Pg 37 37 (.slice s10p s10l s10c) (.slice s8p s8l s8c) w9 fun s11p s11l s11c w10 => LoopP Pg 124 f7_l0_B f7_l0_A ⟨⟨s9p, s9l, s9c⟩, ⟨s11p, s11l, s11c⟩, ((s11l : Nat) : Int), 0, ()⟩ w10 (fun (y1 : Tup f7_l0_o1) (w17 : World) => K (.bool true) w17, fun (y2 : Tup f7_l0_or) (w18 : World) => K (.bool y2.1) w18, ())

def f7_j2 (s4p : Option Addr) (s4l : Nat) (s4c : Nat) (s5p : Option Addr) (s5l : Nat) (s5c : Nat) (s6p : Option Addr) (s6l : Nat) (s6c : Nat) (n7 : Int) (w : World) (K : Value → World → Prop) : Prop := bif (n7 != 0) then (K (.bool false) w) else (bif (((s6l : Nat) : Int) != (IntKind.wrap .i64 (((s4l : Nat) : Int) + ((s5l : Nat) : Int)))) then (K (.bool false) w) else (f7_j3 s4p s4l s4c s5p s5l s5c s6p s6l s6c w K))

def f7_j1 (t3 : ByteArray) (t4 : ByteArray) (w : World) (K : Value → World → Prop) : Prop := Ret Pg 16 [(.string t3)] w fun r5 w5 => ∃ (s1p : Option Addr) (s1l : Nat) (s1c : Nat), ∃ (n1 : Int), ∃ (n2 : Int), r5 = (.tuple ⟨[(.slice s1p s1l s1c), (.int .i64 n1), (.int .i64 n2)]⟩) ∧ Ret Pg 16 [(.string t4)] w5 fun r6 w6 => ∃ (s2p : Option Addr) (s2l : Nat) (s2c : Nat), ∃ (n3 : Int), ∃ (n4 : Int), r6 = (.tuple ⟨[(.slice s2p s2l s2c), (.int .i64 n3), (.int .i64 n4)]⟩) ∧ ((t3.size + t4.size : Nat) : Int) ≤ 9223372036854775807 ∧ Ret Pg 16 [(.string (t3 ++ t4))] w6 fun r7 w7 => ∃ (s3p : Option Addr) (s3l : Nat) (s3c : Nat), ∃ (n5 : Int), ∃ (n6 : Int), r7 = (.tuple ⟨[(.slice s3p s3l s3c), (.int .i64 n5), (.int .i64 n6)]⟩) ∧ bif (n2 != 0) then (bif (((s1l : Nat) : Int) == 0) then (bif (decide (n1 > 0)) then (bif (n6 != 0) then (K (.bool true) w7) else (∃ u1 : UInt8, (0 ≤ (IntKind.wrap .i64 (((ByteArray.size t3 : Nat) : Int) - 1)) ∧ t3[Int.toNat (IntKind.wrap .i64 (((ByteArray.size t3 : Nat) : Int) - 1))]? = some u1) ∧ K (.bool (((u1.toNat : Nat) : Int) != 10)) w7)) else (K (.bool false) w7)) else (K (.bool false) w7)) else (bif (n4 != 0) then (bif (n6 == 10) then (bif (n5 == (IntKind.wrap .i64 (((s1l : Nat) : Int) + n3))) then (bif (((s3l : Nat) : Int) == 0) then (K (.bool (((s2l : Nat) : Int) == 0)) w7) else (K (.bool false) w7)) else (K (.bool false) w7)) else (K (.bool false) w7)) else (f7_j2 s1p s1l s1c s2p s2l s2c s3p s3l s3c n6 w7 K))

def f7 (t1 : ByteArray) (t2 : ByteArray) (w : World) (K : Value → World → Prop) : Prop := Ret Pg 8 [] w fun r1 w1 => ∃ (b1 : Bool), r1 = (.bool b1) ∧ bif (!b1) then (Ret Pg 8 [] w1 fun r2 w2 => ∃ (b2 : Bool), r2 = (.bool b2) ∧ K (.bool b2) w2) else (bif (decide (((ByteArray.size t1 : Nat) : Int) > 300)) then (Ret Pg 8 [] w1 fun r3 w3 => ∃ (b3 : Bool), r3 = (.bool b3) ∧ K (.bool b3) w3) else (bif (decide (((ByteArray.size t2 : Nat) : Int) > 300)) then (Ret Pg 8 [] w1 fun r4 w4 => ∃ (b4 : Bool), r4 = (.bool b4) ∧ K (.bool b4) w4) else (f7_j1 t1 t2 w1 K)))
theorem f7_ret {t1 : ByteArray} {t2 : ByteArray} {w : World} {K : Value → World → Prop} (h : f7 t1 t2 w K) : Ret Pg 7 [(.string t1), (.string t2)] w K :=
  ret_of_WP (ann := f7_ann) (c := bodyOf Tryd.f7) follows Tryd.func7 rfl (by kernel_rfl) (by
    have e : WP Pg 124 f7_ann (bodyOf Tryd.f7) (retQ Pg Tryd.f7.results.toList K) (initEnv 0 [(.string t1), (.string t2)]) w = f7 t1 t2 w K := by kernel_rfl
    rw [← e] at h; exact h)

-- besom/besomlaw17.awake
def f8_ann : Nat → Option Ann := fun _ => none
def f8 (w : World) (K : Value → World → Prop) : Prop := Ret Pg 9 [(.string (sB [108, 105, 110, 107, 32, 48, 32, 49, 32, 50]))] w fun r1 w1 => ∃ (n1 : Int) (n2 : Int) (n3 : Int) (n4 : Int) (n5 : Int), ∃ (n6 : Int), r1 = (.tuple ⟨[(.agg ⟨[(.int .i64 n1), (.int .i64 n2), (.int .i64 n3), (.int .i64 n4), (.int .i64 n5)]⟩), (.int .i64 n6)]⟩) ∧ NewW [(.int .i64 0), (.int .i64 0), (.int .i64 0), (.int .i64 0), (.int .i64 0)] 25 w1 fun a1 w2 => St w2 a1 (.int .i64 n1) fun w3 => St w3 (a1.add 1) (.int .i64 n2) fun w4 => St w4 (a1.add 2) (.int .i64 n3) fun w5 => St w5 (a1.add 3) (.int .i64 n4) fun w6 => St w6 (a1.add 4) (.int .i64 n5) fun w7 => bif (n6 == 0) then (∃ (n7 : Int) (n8 : Int) (n9 : Int) (n10 : Int) (n11 : Int), (CellsAt w7 a1 0 [(.int .i64 n7), (.int .i64 n8), (.int .i64 n9), (.int .i64 n10), (.int .i64 n11)] ∧ (5 = 5 ∧ EqW Pg 25 (.agg ⟨[(.int .i64 n7), (.int .i64 n8), (.int .i64 n9), (.int .i64 n10), (.int .i64 n11)]⟩) (.agg ⟨[(.int .i64 6), (.int .i64 0), (.int .i64 1), (.int .i64 2), (.int .i64 0)]⟩) fun b1 => K (.bool b1) w7))) else (K (.bool false) w7)
theorem f8_ret {w : World} {K : Value → World → Prop} (h : f8 w K) : Ret Pg 8 [] w K :=
  ret_of_WP (ann := f8_ann) (c := bodyOf Tryd.f8) follows Tryd.func8 rfl (by kernel_rfl) (by
    have e : WP Pg 15 f8_ann (bodyOf Tryd.f8) (retQ Pg Tryd.f8.results.toList K) (initEnv 0 []) w = f8 w K := by kernel_rfl
    rw [← e] at h; exact h)

-- besom/script.Parse
noncomputable def f9_l0_B : Code := sub [1, 1, 1, 1, 1, 0, 1, 0, 0] (bodyOf Tryd.f9)
@[reducible] def f9_l0_o0 : List (Nat × Sh) := [(0, .one (.str)), (2, .one (.ptr)), (6, .one (.ptr))]
@[reducible] def f9_l0_A : Ann := ⟨[(0, .one (.str)), (2, .one (.ptr)), (6, .one (.ptr)), (32, .one (.sl)), (33, .one (.int .i64)), (34, .one (.int .i64))], [(some 0, f9_l0_o0)]⟩
def f9_ann : Nat → Option Ann := fun r => cond (Nat.beq r 7) (some f9_l0_A) (none)
def f9_l0 (t5 : ByteArray) (p3 : Option Addr) (p4 : Option Addr) (s4 : Sl) (n16 : Int) (n17 : Int) (w : World) (Kn : Tup f9_l0_A.ins → World → Prop) (K0 : Tup f9_l0_o0 → World → Prop) : Prop := bif (decide (n17 < n16)) then (0 ≤ n17 ∧ n17 < ((s4.len : Nat) : Int) ∧ NN s4.at_ fun a5 => LT w (Addr.at_ a5 n17 1) fun t6 => Ret Pg 19 [(.string t6)] w fun r3 w20 => ∃ (n18 : Int), ∃ (v1 : Value), r3 = (.tuple ⟨[(.int .i64 n18), v1]⟩) ∧ NN p4 fun a6 => 0 ≤ n17 ∧ n17 < ((4 : Nat) : Int) ∧ St w20 (Addr.at_ (a6.add 1) n17 1) (.int .i64 n18) fun w21 => Kn ⟨t5, p3, p4, ⟨s4.at_, s4.len, s4.cap⟩, n16, (IntKind.wrap .i64 (n17 + 1)), ()⟩ w21) else (K0 ⟨t5, p3, p4, ()⟩ w)
theorem f9_l0_eq (t5 : ByteArray) (p3 : Option Addr) (p4 : Option Addr) (s4 : Sl) (n16 : Int) (n17 : Int) (w : World) (Kn : Tup f9_l0_A.ins → World → Prop) (K0 : Tup f9_l0_o0 → World → Prop) : WP Pg 54 f9_ann f9_l0_B (bodyQ f9_l0_A (K0, ()) Kn) (mkEnv f9_l0_A.ins ⟨t5, p3, p4, s4, n16, n17, ()⟩) w = f9_l0 t5 p3 p4 s4 n16 n17 w Kn K0 := by kernel_rfl

def f9_j2 (t7 : ByteArray) (p5 : Option Addr) (p6 : Option Addr) (w : World) (K : Value → World → Prop) : Prop := NN p6 fun a7 => ∃ (n19 : Int) (n20 : Int) (n21 : Int) (n22 : Int) (n23 : Int), (CellsAt w a7 0 [(.int .i64 n19), (.int .i64 n20), (.int .i64 n21), (.int .i64 n22), (.int .i64 n23)] ∧ (5 = 5 ∧ Ret Pg 12 [(.agg ⟨[(.int .i64 n19), (.int .i64 n20), (.int .i64 n21), (.int .i64 n22), (.int .i64 n23)]⟩)] w fun r4 w23 => ∃ (t8 : ByteArray), r4 = (.string t8) ∧ bif (!(ByteArray.toList t8 == ByteArray.toList t7)) then (NN p5 fun a8 => St w23 a8 (.int .i64 0) fun w24 => St w24 (a8.add 1) (.int .i64 0) fun w25 => St w25 (a8.add 2) (.int .i64 0) fun w26 => St w26 (a8.add 3) (.int .i64 0) fun w27 => St w27 (a8.add 4) (.int .i64 0) fun w28 => NN p5 fun a9 => ∃ (n24 : Int) (n25 : Int) (n26 : Int) (n27 : Int) (n28 : Int), (CellsAt w28 a9 0 [(.int .i64 n24), (.int .i64 n25), (.int .i64 n26), (.int .i64 n27), (.int .i64 n28)] ∧ (5 = 5 ∧ K (.tuple ⟨[(.agg ⟨[(.int .i64 n24), (.int .i64 n25), (.int .i64 n26), (.int .i64 n27), (.int .i64 n28)]⟩), (.int .i64 10)]⟩) w28))) else (NN p6 fun a10 => ∃ (n29 : Int) (n30 : Int) (n31 : Int) (n32 : Int) (n33 : Int), (CellsAt w23 a10 0 [(.int .i64 n29), (.int .i64 n30), (.int .i64 n31), (.int .i64 n32), (.int .i64 n33)] ∧ (5 = 5 ∧ NN p5 fun a11 => St w23 a11 (.int .i64 n29) fun w29 => St w29 (a11.add 1) (.int .i64 n30) fun w30 => St w30 (a11.add 2) (.int .i64 n31) fun w31 => St w31 (a11.add 3) (.int .i64 n32) fun w32 => St w32 (a11.add 4) (.int .i64 n33) fun w33 => NN p5 fun a12 => ∃ (n34 : Int) (n35 : Int) (n36 : Int) (n37 : Int) (n38 : Int), (CellsAt w33 a12 0 [(.int .i64 n34), (.int .i64 n35), (.int .i64 n36), (.int .i64 n37), (.int .i64 n38)] ∧ (5 = 5 ∧ K (.tuple ⟨[(.agg ⟨[(.int .i64 n34), (.int .i64 n35), (.int .i64 n36), (.int .i64 n37), (.int .i64 n38)]⟩), (.int .i64 0)]⟩) w33)))))))

def f9_j1 (t3 : ByteArray) (a3 : Addr) (s2p : Option Addr) (s2l : Nat) (s2c : Nat) (n13 : Int) (w : World) (K : Value → World → Prop) : Prop := NewW [(.int .i64 0), (.int .i64 0), (.int .i64 0), (.int .i64 0), (.int .i64 0)] 25 w fun a4 w14 => St w14 a4 (.int .i64 n13) fun w15 => St w15 (a4.add 1) (.int .i64 0) fun w16 => St w16 (a4.add 2) (.int .i64 0) fun w17 => St w17 (a4.add 3) (.int .i64 0) fun w18 => St w18 (a4.add 4) (.int .i64 0) fun w19 => 0 ≤ (1 : Int) ∧ (1 : Int) ≤ ((s2l : Nat) : Int) ∧ ((s2l : Nat) : Int) ≤ ((s2c : Nat) : Int) ∧ ((s2c : Nat) : Int) ≤ ((s2c : Nat) : Int) ∧ LoopP Pg 54 f9_l0_B f9_l0_A ⟨t3, (some a3), (some a4), ⟨(if Int.toNat ((s2c : Nat) : Int) = Int.toNat (1 : Int) then s2p else Option.map (fun x => Addr.add x (Int.toNat (1 : Int) * 1)) s2p), (Int.toNat ((s2l : Nat) : Int) - Int.toNat (1 : Int)), (Int.toNat ((s2c : Nat) : Int) - Int.toNat (1 : Int))⟩, (((Int.toNat ((s2l : Nat) : Int) - Int.toNat (1 : Int)) : Nat) : Int), 0, ()⟩ w19 (fun (y1 : Tup f9_l0_o0) (w22 : World) => f9_j2 y1.1 y1.2.1 y1.2.2.1 w22 K, ())

def f9 (t1 : ByteArray) (w : World) (K : Value → World → Prop) : Prop := NewW [(.int .i64 0), (.int .i64 0), (.int .i64 0), (.int .i64 0), (.int .i64 0)] 25 w fun a1 w1 => Ret Pg 17 [(.string t1), (.string (sB [32]))] w1 fun r1 w2 => ∃ (s1p : Option Addr) (s1l : Nat) (s1c : Nat), r1 = (.slice s1p s1l s1c) ∧ 0 ≤ (1 : Int) ∧ (1 : Int) ≤ ((13 : Nat) : Int) ∧ ((13 : Nat) : Int) ≤ ((13 : Nat) : Int) ∧ 0 ≤ (0 : Int) ∧ (0 : Int) < ((s1l : Nat) : Int) ∧ NN s1p fun a2 => LT w2.drew (Addr.at_ a2 0 1) fun t2 => Ret Pg 18 [(.slice (if Int.toNat ((13 : Nat) : Int) = Int.toNat (1 : Int) then (some (⟨0, 0, none⟩)) else Option.map (fun x => Addr.add x (Int.toNat (1 : Int) * 1)) (some (⟨0, 0, none⟩))) (Int.toNat ((13 : Nat) : Int) - Int.toNat (1 : Int)) (Int.toNat ((13 : Nat) : Int) - Int.toNat (1 : Int))), (.string t2)] w2.drew fun r2 w3 => ∃ (n1 : Int), r2 = (.int .i64 n1) ∧ bif ((IntKind.wrap .i64 (n1 + 1)) == 0) then (St w3 a1 (.int .i64 0) fun w4 => St w4 (a1.add 1) (.int .i64 0) fun w5 => St w5 (a1.add 2) (.int .i64 0) fun w6 => St w6 (a1.add 3) (.int .i64 0) fun w7 => St w7 (a1.add 4) (.int .i64 0) fun w8 => ∃ (n2 : Int) (n3 : Int) (n4 : Int) (n5 : Int) (n6 : Int), (CellsAt w8 a1 0 [(.int .i64 n2), (.int .i64 n3), (.int .i64 n4), (.int .i64 n5), (.int .i64 n6)] ∧ (5 = 5 ∧ K (.tuple ⟨[(.agg ⟨[(.int .i64 n2), (.int .i64 n3), (.int .i64 n4), (.int .i64 n5), (.int .i64 n6)]⟩), (.int .i64 10)]⟩) w8))) else (0 ≤ (IntKind.wrap .i64 (n1 + 1)) ∧ (IntKind.wrap .i64 (n1 + 1)) < ((13 : Nat) : Int) ∧ LI w3 (Addr.at_ (⟨1, 0, none⟩) (IntKind.wrap .i64 (n1 + 1)) 1) fun n7 => bif (((s1l : Nat) : Int) != (IntKind.wrap .i64 (1 + n7))) then (St w3 a1 (.int .i64 0) fun w9 => St w9 (a1.add 1) (.int .i64 0) fun w10 => St w10 (a1.add 2) (.int .i64 0) fun w11 => St w11 (a1.add 3) (.int .i64 0) fun w12 => St w12 (a1.add 4) (.int .i64 0) fun w13 => ∃ (n8 : Int) (n9 : Int) (n10 : Int) (n11 : Int) (n12 : Int), (CellsAt w13 a1 0 [(.int .i64 n8), (.int .i64 n9), (.int .i64 n10), (.int .i64 n11), (.int .i64 n12)] ∧ (5 = 5 ∧ K (.tuple ⟨[(.agg ⟨[(.int .i64 n8), (.int .i64 n9), (.int .i64 n10), (.int .i64 n11), (.int .i64 n12)]⟩), (.int .i64 10)]⟩) w13))) else (f9_j1 t1 a1 s1p s1l s1c (IntKind.wrap .i64 (n1 + 1)) w3 K))
theorem f9_ret {t1 : ByteArray} {w : World} {K : Value → World → Prop} (h : f9 t1 w K) : Ret Pg 9 [(.string t1)] w K :=
  ret_of_WP (ann := f9_ann) (c := bodyOf Tryd.f9) follows Tryd.func9 rfl (by kernel_rfl) (by
    have e : WP Pg 54 f9_ann (bodyOf Tryd.f9) (retQ Pg Tryd.f9.results.toList K) (initEnv 0 [(.string t1)]) w = f9 t1 w K := by kernel_rfl
    rw [← e] at h; exact h)

-- besom/besomref17.Parse
noncomputable def f10_l0_B : Code := sub [1, 1, 0, 1, 0, 0] (bodyOf Tryd.f10)
@[reducible] def f10_l0_o0 : List (Nat × Sh) := [(3, .one (.ptr)), (5, .one (.sl))]
@[reducible] def f10_l0_A : Ann := ⟨[(0, .one (.str)), (3, .one (.ptr)), (5, .one (.sl)), (6, .one (.int .i64))], [(some 0, f10_l0_o0)]⟩
noncomputable def f10_l1_B : Code := sub [1, 1, 1, 1, 0, 1, 0, 0] (bodyOf Tryd.f10)
@[reducible] def f10_l1_o2 : List (Nat × Sh) := [(3, .one (.ptr)), (5, .one (.sl)), (7, .one (.int .i64))]
@[reducible] def f10_l1_A : Ann := ⟨[(3, .one (.ptr)), (5, .one (.sl)), (7, .one (.int .i64)), (8, .one (.int .i64))], [(some 2, f10_l1_o2)]⟩
noncomputable def f10_l2_B : Code := sub [1, 1, 1, 1, 1, 1, 1, 0, 1, 0, 0] (bodyOf Tryd.f10)
@[reducible] def f10_l2_o4 : List (Nat × Sh) := [(3, .one (.ptr)), (7, .one (.int .i64)), (9, .one (.ptr))]
@[reducible] def f10_l2_or : List (Nat × Sh) := [(2, .one (.int .i64)), (3, .one (.ptr)), (4, .one (.bool))]
@[reducible] def f10_l2_A : Ann := ⟨[(3, .one (.ptr)), (5, .one (.sl)), (7, .one (.int .i64)), (9, .one (.ptr)), (10, .one (.int .i64))], [(some 4, f10_l2_o4), (none, f10_l2_or)]⟩
def f10_ann : Nat → Option Ann := fun r => cond (Nat.beq r 3) (some f10_l0_A) (cond (Nat.beq r 10) (some f10_l1_A) (cond (Nat.beq r 18) (some f10_l2_A) (none)))
def f10_l2 (p10 : Option Addr) (s10 : Sl) (n28 : Int) (p11 : Option Addr) (n29 : Int) (w : World) (Kn : Tup f10_l2_A.ins → World → Prop) (K4 : Tup f10_l2_o4 → World → Prop) (Kr : Tup f10_l2_or → World → Prop) : Prop := bif (decide (n29 < ((s10.len : Nat) : Int))) then (0 ≤ n29 ∧ n29 < ((s10.len : Nat) : Int) ∧ NN s10.at_ fun a13 => LT w (Addr.at_ a13 n29 1) fun t7 => Ret Pg 21 [(.string t7)] w fun r3 w23 => ∃ (n30 : Int), ∃ (b1 : Bool), r3 = (.tuple ⟨[(.int .i64 n30), (.bool b1)]⟩) ∧ bif (!b1) then (NN p10 fun a14 => St w23 a14 (.int .i64 0) fun w24 => St w24 (a14.add 1) (.int .i64 0) fun w25 => St w25 (a14.add 2) (.int .i64 0) fun w26 => St w26 (a14.add 3) (.int .i64 0) fun w27 => Kr ⟨0, p10, false, ()⟩ w27) else (0 ≤ (IntKind.wrap .i64 (n29 - 1)) ∧ (IntKind.wrap .i64 (n29 - 1)) < ((4 : Nat) : Int) ∧ NN p11 fun a15 => St w23 (Addr.at_ a15 (IntKind.wrap .i64 (n29 - 1)) 1) (.int .i64 n30) fun w28 => Kn ⟨p10, ⟨s10.at_, s10.len, s10.cap⟩, n28, p11, (IntKind.wrap .i64 (n29 + 1)), ()⟩ w28)) else (K4 ⟨p10, n28, p11, ()⟩ w)
theorem f10_l2_eq (p10 : Option Addr) (s10 : Sl) (n28 : Int) (p11 : Option Addr) (n29 : Int) (w : World) (Kn : Tup f10_l2_A.ins → World → Prop) (K4 : Tup f10_l2_o4 → World → Prop) (Kr : Tup f10_l2_or → World → Prop) : WP Pg 90 f10_ann f10_l2_B (bodyQ f10_l2_A (K4, Kr, ()) Kn) (mkEnv f10_l2_A.ins ⟨p10, s10, n28, p11, n29, ()⟩) w = f10_l2 p10 s10 n28 p11 n29 w Kn K4 Kr := by kernel_rfl

def f10_l1 (p5 : Option Addr) (s6 : Sl) (n5 : Int) (n6 : Int) (w : World) (Kn : Tup f10_l1_A.ins → World → Prop) (K2 : Tup f10_l1_o2 → World → Prop) : Prop := bif (decide (n6 ≤ 12)) then (0 ≤ (0 : Int) ∧ (0 : Int) < ((s6.len : Nat) : Int) ∧ NN s6.at_ fun a6 => LT w.drew (Addr.at_ a6 0 1) fun t5 => Ret Pg 20 [(.int .i64 n6)] w.drew fun r1 w7 => ∃ (t6 : ByteArray), r1 = (.string t6) ∧ Old w.drew w7 ∧ bif (ByteArray.toList t6 == ByteArray.toList t5) then (Kn ⟨p5, ⟨s6.at_, s6.len, s6.cap⟩, n6, (IntKind.wrap .i64 (n6 + 1)), ()⟩ w7) else (Kn ⟨p5, ⟨s6.at_, s6.len, s6.cap⟩, n5, (IntKind.wrap .i64 (n6 + 1)), ()⟩ w7)) else (K2 ⟨p5, ⟨s6.at_, s6.len, s6.cap⟩, n5, ()⟩ w)
theorem f10_l1_eq (p5 : Option Addr) (s6 : Sl) (n5 : Int) (n6 : Int) (w : World) (Kn : Tup f10_l1_A.ins → World → Prop) (K2 : Tup f10_l1_o2 → World → Prop) : WP Pg 90 f10_ann f10_l1_B (bodyQ f10_l1_A (K2, ()) Kn) (mkEnv f10_l1_A.ins ⟨p5, s6, n5, n6, ()⟩) w = f10_l1 p5 s6 n5 n6 w Kn K2 := by kernel_rfl

def f10_l0 (t3 : ByteArray) (p2 : Option Addr) (s2 : Sl) (n2 : Int) (w : World) (Kn : Tup f10_l0_A.ins → World → Prop) (K0 : Tup f10_l0_o0 → World → Prop) : Prop := bif (decide (n2 < ((ByteArray.size t3 : Nat) : Int))) then (∃ u1 : UInt8, (0 ≤ n2 ∧ t3[Int.toNat n2]? = some u1) ∧ bif (((u1.toNat : Nat) : Int) == 32) then (NewW [(.string (sB []))] 9 w fun a3 w3 => ApW Pg 41 41 (.slice s2.at_ s2.len s2.cap) (.slice (some a3) 1 1) w3 fun s3p s3l s3c w4 => Kn ⟨t3, p2, ⟨s3p, s3l, s3c⟩, (IntKind.wrap .i64 (n2 + 1)), ()⟩ w4) else (0 ≤ (IntKind.wrap .i64 (((s2.len : Nat) : Int) - 1)) ∧ (IntKind.wrap .i64 (((s2.len : Nat) : Int) - 1)) < ((s2.len : Nat) : Int) ∧ NN s2.at_ fun a4 => LT w.drew (Addr.at_ a4 (IntKind.wrap .i64 (((s2.len : Nat) : Int) - 1)) 1) fun t4 => 0 ≤ n2 ∧ n2 ≤ (IntKind.wrap .i64 (n2 + 1)) ∧ (IntKind.wrap .i64 (n2 + 1)) ≤ ((ByteArray.size t3 : Nat) : Int) ∧ ((t4.size + (ByteArray.extract t3 (Int.toNat n2) (Int.toNat (IntKind.wrap .i64 (n2 + 1)))).size : Nat) : Int) ≤ 9223372036854775807 ∧ 0 ≤ (IntKind.wrap .i64 (((s2.len : Nat) : Int) - 1)) ∧ (IntKind.wrap .i64 (((s2.len : Nat) : Int) - 1)) < ((s2.len : Nat) : Int) ∧ NN s2.at_ fun a5 => St w.drew (Addr.at_ a5 (IntKind.wrap .i64 (((s2.len : Nat) : Int) - 1)) 1) (.string (t4 ++ (ByteArray.extract t3 (Int.toNat n2) (Int.toNat (IntKind.wrap .i64 (n2 + 1)))))) fun w5 => Kn ⟨t3, p2, ⟨s2.at_, s2.len, s2.cap⟩, (IntKind.wrap .i64 (n2 + 1)), ()⟩ w5)) else (K0 ⟨p2, ⟨s2.at_, s2.len, s2.cap⟩, ()⟩ w)
theorem f10_l0_eq (t3 : ByteArray) (p2 : Option Addr) (s2 : Sl) (n2 : Int) (w : World) (Kn : Tup f10_l0_A.ins → World → Prop) (K0 : Tup f10_l0_o0 → World → Prop) : WP Pg 90 f10_ann f10_l0_B (bodyQ f10_l0_A (K0, ()) Kn) (mkEnv f10_l0_A.ins ⟨t3, p2, s2, n2, ()⟩) w = f10_l0 t3 p2 s2 n2 w Kn K0 := by kernel_rfl

def f10_j3 (p7 : Option Addr) (s8p : Option Addr) (s8l : Nat) (s8c : Nat) (n25 : Int) (a12 : Addr) (w : World) (K : Value → World → Prop) : Prop := LoopP Pg 90 f10_l2_B f10_l2_A ⟨p7, ⟨s8p, s8l, s8c⟩, n25, (some a12), 1, ()⟩ w (fun (y3 : Tup f10_l2_o4) (w29 : World) => NN y3.2.2.1 fun a16 => ∃ (n31 : Int) (n32 : Int) (n33 : Int) (n34 : Int), (CellsAt w29.drew a16 0 [(.int .i64 n31), (.int .i64 n32), (.int .i64 n33), (.int .i64 n34)] ∧ (4 = 4 ∧ NN y3.1 fun a17 => St w29.drew a17 (.int .i64 n31) fun w30 => St w30 (a17.add 1) (.int .i64 n32) fun w31 => St w31 (a17.add 2) (.int .i64 n33) fun w32 => St w32 (a17.add 3) (.int .i64 n34) fun w33 => NN y3.1 fun a18 => ∃ (n35 : Int) (n36 : Int) (n37 : Int) (n38 : Int), (CellsAt w33 a18 0 [(.int .i64 n35), (.int .i64 n36), (.int .i64 n37), (.int .i64 n38)] ∧ (4 = 4 ∧ K (.tuple ⟨[(.int .i64 y3.2.1), (.agg ⟨[(.int .i64 n35), (.int .i64 n36), (.int .i64 n37), (.int .i64 n38)]⟩), (.bool true)]⟩) w33)))), fun (y4 : Tup f10_l2_or) (w34 : World) => NN y4.2.1 fun a19 => ∃ (n39 : Int) (n40 : Int) (n41 : Int) (n42 : Int), (CellsAt w34 a19 0 [(.int .i64 n39), (.int .i64 n40), (.int .i64 n41), (.int .i64 n42)] ∧ (4 = 4 ∧ K (.tuple ⟨[(.int .i64 y4.1), (.agg ⟨[(.int .i64 n39), (.int .i64 n40), (.int .i64 n41), (.int .i64 n42)]⟩), (.bool y4.2.2.1)]⟩) w34)), ())

def f10_j2 (p6 : Option Addr) (s7p : Option Addr) (s7l : Nat) (s7c : Nat) (n7 : Int) (w : World) (K : Value → World → Prop) : Prop := NewW [(.int .i64 0), (.int .i64 0), (.int .i64 0), (.int .i64 0)] 23 w fun a7 w9 => St w9 a7 (.int .i64 0) fun w10 => St w10 (a7.add 1) (.int .i64 0) fun w11 => St w11 (a7.add 2) (.int .i64 0) fun w12 => St w12 (a7.add 3) (.int .i64 0) fun w13 => bif (n7 == 0) then (∃ (n8 : Int) (n9 : Int) (n10 : Int) (n11 : Int), (CellsAt w13.drew a7 0 [(.int .i64 n8), (.int .i64 n9), (.int .i64 n10), (.int .i64 n11)] ∧ (4 = 4 ∧ NN p6 fun a8 => St w13.drew a8 (.int .i64 n8) fun w14 => St w14 (a8.add 1) (.int .i64 n9) fun w15 => St w15 (a8.add 2) (.int .i64 n10) fun w16 => St w16 (a8.add 3) (.int .i64 n11) fun w17 => NN p6 fun a9 => ∃ (n12 : Int) (n13 : Int) (n14 : Int) (n15 : Int), (CellsAt w17 a9 0 [(.int .i64 n12), (.int .i64 n13), (.int .i64 n14), (.int .i64 n15)] ∧ (4 = 4 ∧ K (.tuple ⟨[(.int .i64 0), (.agg ⟨[(.int .i64 n12), (.int .i64 n13), (.int .i64 n14), (.int .i64 n15)]⟩), (.bool false)]⟩) w17))))) else (Ret Pg 13 [(.int .i64 n7)] w13 fun r2 w18 => ∃ (n16 : Int), r2 = (.int .i64 n16) ∧ bif (((s7l : Nat) : Int) != (IntKind.wrap .i64 (1 + n16))) then (∃ (n17 : Int) (n18 : Int) (n19 : Int) (n20 : Int), (CellsAt w18.drew a7 0 [(.int .i64 n17), (.int .i64 n18), (.int .i64 n19), (.int .i64 n20)] ∧ (4 = 4 ∧ NN p6 fun a10 => St w18.drew a10 (.int .i64 n17) fun w19 => St w19 (a10.add 1) (.int .i64 n18) fun w20 => St w20 (a10.add 2) (.int .i64 n19) fun w21 => St w21 (a10.add 3) (.int .i64 n20) fun w22 => NN p6 fun a11 => ∃ (n21 : Int) (n22 : Int) (n23 : Int) (n24 : Int), (CellsAt w22 a11 0 [(.int .i64 n21), (.int .i64 n22), (.int .i64 n23), (.int .i64 n24)] ∧ (4 = 4 ∧ K (.tuple ⟨[(.int .i64 0), (.agg ⟨[(.int .i64 n21), (.int .i64 n22), (.int .i64 n23), (.int .i64 n24)]⟩), (.bool false)]⟩) w22))))) else (f10_j3 p6 s7p s7l s7c n7 a7 w18 K))

def f10_j1 (p3 : Option Addr) (s4p : Option Addr) (s4l : Nat) (s4c : Nat) (w : World) (K : Value → World → Prop) : Prop := LoopP Pg 90 f10_l1_B f10_l1_A ⟨p3, ⟨s4p, s4l, s4c⟩, 0, 1, ()⟩ w (fun (y2 : Tup f10_l1_o2) (w8 : World) => f10_j2 y2.1 y2.2.1.at_ y2.2.1.len y2.2.1.cap y2.2.2.1 w8 K, ())

def f10 (t1 : ByteArray) (w : World) (K : Value → World → Prop) : Prop := NewW [(.int .i64 0), (.int .i64 0), (.int .i64 0), (.int .i64 0)] 23 w fun a1 w1 => NewW [(.string (sB []))] 9 w1 fun a2 w2 => LoopP Pg 90 f10_l0_B f10_l0_A ⟨t1, (some a1), ⟨(some a2), 1, 1⟩, 0, ()⟩ w2 (fun (y1 : Tup f10_l0_o0) (w6 : World) => f10_j1 y1.1 y1.2.1.at_ y1.2.1.len y1.2.1.cap w6 K, ())
theorem f10_ret {t1 : ByteArray} {w : World} {K : Value → World → Prop} (h : f10 t1 w K) : Ret Pg 10 [(.string t1)] w K :=
  ret_of_WP (ann := f10_ann) (c := bodyOf Tryd.f10) follows Tryd.func10 rfl (by kernel_rfl) (by
    have e : WP Pg 90 f10_ann (bodyOf Tryd.f10) (retQ Pg Tryd.f10.results.toList K) (initEnv 0 [(.string t1)]) w = f10 t1 w K := by kernel_rfl
    rw [← e] at h; exact h)

-- (besom/script.Entry).Good
def f11_ann : Nat → Option Ann := fun _ => none
def f11 (n1 : Int) (n2 : Int) (n3 : Int) (n4 : Int) (n5 : Int) (w : World) (K : Value → World → Prop) : Prop := NewW [(.int .i64 n1), (.int .i64 n2), (.int .i64 n3), (.int .i64 n4), (.int .i64 n5)] 25 w fun a1 w1 => LI w1 a1 fun n6 => Ret Pg 14 [(.int .i64 n6)] w1 fun r1 w2 => ∃ (n7 : Int), r1 = (.int .i64 n7) ∧ bif (decide (n7 ≥ 0)) then (0 ≤ n7 ∧ n7 ≤ ((4 : Nat) : Int) ∧ ((4 : Nat) : Int) ≤ ((4 : Nat) : Int) ∧ Ret Pg 22 [(.slice (if Int.toNat ((4 : Nat) : Int) = Int.toNat n7 then (some (a1.add 1)) else Option.map (fun x => Addr.add x (Int.toNat n7 * 1)) (some (a1.add 1))) (Int.toNat ((4 : Nat) : Int) - Int.toNat n7) (Int.toNat ((4 : Nat) : Int) - Int.toNat n7)), (.func (.func 23) ⟨[]⟩ ⟨[]⟩)] w2 fun r2 w3 => ∃ (b1 : Bool), r2 = (.bool b1) ∧ K (.bool (!b1)) w3) else (K (.bool false) w2)
theorem f11_ret {n1 : Int} {n2 : Int} {n3 : Int} {n4 : Int} {n5 : Int} {w : World} {K : Value → World → Prop} (h : f11 n1 n2 n3 n4 n5 w K) : Ret Pg 11 [(.agg ⟨[(.int .i64 n1), (.int .i64 n2), (.int .i64 n3), (.int .i64 n4), (.int .i64 n5)]⟩)] w K :=
  ret_of_WP (ann := f11_ann) (c := bodyOf Tryd.f11) follows Tryd.func11 rfl (by kernel_rfl) (by
    have e : WP Pg 16 f11_ann (bodyOf Tryd.f11) (retQ Pg Tryd.f11.results.toList K) (initEnv 0 [(.agg ⟨[(.int .i64 n1), (.int .i64 n2), (.int .i64 n3), (.int .i64 n4), (.int .i64 n5)]⟩)]) w = f11 n1 n2 n3 n4 n5 w K := by kernel_rfl
    rw [← e] at h; exact h)

-- (besom/script.Entry).Text
noncomputable def f12_l0_B : Code := sub [1, 1, 1, 0, 1, 0, 0] (bodyOf Tryd.f12)
@[reducible] def f12_l0_o0 : List (Nat × Sh) := [(3, .one (.str))]
@[reducible] def f12_l0_A : Ann := ⟨[(3, .one (.str)), (18, .one (.sl)), (19, .one (.int .i64)), (20, .one (.int .i64))], [(some 0, f12_l0_o0)]⟩
def f12_ann : Nat → Option Ann := fun r => cond (Nat.beq r 5) (some f12_l0_A) (none)
def f12_l0 (t3 : ByteArray) (s2 : Sl) (n16 : Int) (n17 : Int) (w : World) (Kn : Tup f12_l0_A.ins → World → Prop) (K0 : Tup f12_l0_o0 → World → Prop) : Prop := bif (decide (n17 < n16)) then (0 ≤ n17 ∧ n17 < ((s2.len : Nat) : Int) ∧ NN s2.at_ fun a2 => LI w (Addr.at_ a2 n17 1) fun n18 => Ret Pg 24 [(.int .i64 n18)] w fun r2 w3 => ∃ (t4 : ByteArray), r2 = (.string t4) ∧ (((sB [32]).size + t4.size : Nat) : Int) ≤ 9223372036854775807 ∧ ((t3.size + ((sB [32]) ++ t4).size : Nat) : Int) ≤ 9223372036854775807 ∧ Kn ⟨(t3 ++ ((sB [32]) ++ t4)), ⟨s2.at_, s2.len, s2.cap⟩, n16, (IntKind.wrap .i64 (n17 + 1)), ()⟩ w3) else (K0 ⟨t3, ()⟩ w)
theorem f12_l0_eq (t3 : ByteArray) (s2 : Sl) (n16 : Int) (n17 : Int) (w : World) (Kn : Tup f12_l0_A.ins → World → Prop) (K0 : Tup f12_l0_o0 → World → Prop) : WP Pg 31 f12_ann f12_l0_B (bodyQ f12_l0_A (K0, ()) Kn) (mkEnv f12_l0_A.ins ⟨t3, s2, n16, n17, ()⟩) w = f12_l0 t3 s2 n16 n17 w Kn K0 := by kernel_rfl

def f12 (n1 : Int) (n2 : Int) (n3 : Int) (n4 : Int) (n5 : Int) (w : World) (K : Value → World → Prop) : Prop := NewW [(.int .i64 n1), (.int .i64 n2), (.int .i64 n3), (.int .i64 n4), (.int .i64 n5)] 25 w fun a1 w1 => ∃ (n6 : Int) (n7 : Int) (n8 : Int) (n9 : Int) (n10 : Int), (CellsAt w1 a1 0 [(.int .i64 n6), (.int .i64 n7), (.int .i64 n8), (.int .i64 n9), (.int .i64 n10)] ∧ (5 = 5 ∧ Ret Pg 11 [(.agg ⟨[(.int .i64 n6), (.int .i64 n7), (.int .i64 n8), (.int .i64 n9), (.int .i64 n10)]⟩)] w1 fun r1 w2 => ∃ (b1 : Bool), r1 = (.bool b1) ∧ bif (!b1) then (K (.string (sB [])) w2) else (LI w2 a1 fun n11 => 0 ≤ n11 ∧ n11 < ((13 : Nat) : Int) ∧ LT w2 (Addr.at_ (⟨0, 0, none⟩) n11 1) fun t1 => LI w2 a1 fun n12 => 0 ≤ n12 ∧ n12 < ((13 : Nat) : Int) ∧ LI w2 (Addr.at_ (⟨1, 0, none⟩) n12 1) fun n13 => 0 ≤ ((0 : Nat) : Int) ∧ ((0 : Nat) : Int) ≤ n13 ∧ n13 ≤ ((4 : Nat) : Int) ∧ LoopP Pg 31 f12_l0_B f12_l0_A ⟨t1, ⟨(if Int.toNat ((4 : Nat) : Int) = Int.toNat ((0 : Nat) : Int) then (some (a1.add 1)) else Option.map (fun x => Addr.add x (Int.toNat ((0 : Nat) : Int) * 1)) (some (a1.add 1))), (Int.toNat n13 - Int.toNat ((0 : Nat) : Int)), (Int.toNat ((4 : Nat) : Int) - Int.toNat ((0 : Nat) : Int))⟩, (((Int.toNat n13 - Int.toNat ((0 : Nat) : Int)) : Nat) : Int), 0, ()⟩ w2 (fun (y1 : Tup f12_l0_o0) (w4 : World) => K (.string y1.1) w4, ()))))
theorem f12_ret {n1 : Int} {n2 : Int} {n3 : Int} {n4 : Int} {n5 : Int} {w : World} {K : Value → World → Prop} (h : f12 n1 n2 n3 n4 n5 w K) : Ret Pg 12 [(.agg ⟨[(.int .i64 n1), (.int .i64 n2), (.int .i64 n3), (.int .i64 n4), (.int .i64 n5)]⟩)] w K :=
  ret_of_WP (ann := f12_ann) (c := bodyOf Tryd.f12) follows Tryd.func12 rfl (by kernel_rfl) (by
    have e : WP Pg 31 f12_ann (bodyOf Tryd.f12) (retQ Pg Tryd.f12.results.toList K) (initEnv 0 [(.agg ⟨[(.int .i64 n1), (.int .i64 n2), (.int .i64 n3), (.int .i64 n4), (.int .i64 n5)]⟩)]) w = f12 n1 n2 n3 n4 n5 w K := by kernel_rfl
    rw [← e] at h; exact h)

-- besom/besomref17.Many
def f13_ann : Nat → Option Ann := fun _ => none
def f13_j2 (n3 : Int) (b2 : Bool) (w : World) (K : Value → World → Prop) : Prop := bif b2 then (K (.int .i64 2) w) else (bif (n3 == 6) then (bif (n3 == 6) then (K (.int .i64 3) w) else (K (.int .i64 (-1)) w)) else (bif (n3 == 7) then (K (.int .i64 3) w) else (K (.int .i64 (-1)) w)))

def f13_j1 (n2 : Int) (b1 : Bool) (w : World) (K : Value → World → Prop) : Prop := bif b1 then (K (.int .i64 0) w) else (bif (n2 == 3) then (K (.int .i64 1) w) else (bif (n2 == 5) then (f13_j2 n2 (n2 == 5) w K) else (bif (n2 == 8) then (f13_j2 n2 (n2 == 8) w K) else (f13_j2 n2 (n2 == 10) w K))))

def f13 (n1 : Int) (w : World) (K : Value → World → Prop) : Prop := bif (n1 == 1) then (K (.int .i64 4) w) else (bif (n1 == 2) then (f13_j1 n1 (n1 == 2) w K) else (bif (n1 == 4) then (f13_j1 n1 (n1 == 4) w K) else (bif (n1 == 9) then (f13_j1 n1 (n1 == 9) w K) else (bif (n1 == 11) then (f13_j1 n1 (n1 == 11) w K) else (f13_j1 n1 (n1 == 12) w K)))))
theorem f13_ret {n1 : Int} {w : World} {K : Value → World → Prop} (h : f13 n1 w K) : Ret Pg 13 [(.int .i64 n1)] w K :=
  ret_of_WP (ann := f13_ann) (c := bodyOf Tryd.f13) follows Tryd.func13 rfl (by kernel_rfl) (by
    have e : WP Pg 21 f13_ann (bodyOf Tryd.f13) (retQ Pg Tryd.f13.results.toList K) (initEnv 0 [(.int .i64 n1)]) w = f13 n1 w K := by kernel_rfl
    rw [← e] at h; exact h)

-- besom/script.Many
def f14_ann : Nat → Option Ann := fun _ => none
def f14 (n1 : Int) (w : World) (K : Value → World → Prop) : Prop := bif (decide (n1 < 1)) then (K (.int .i64 (-1)) w) else (bif (decide (n1 > 12)) then (K (.int .i64 (-1)) w) else (0 ≤ n1 ∧ n1 < ((13 : Nat) : Int) ∧ LI w (Addr.at_ (⟨1, 0, none⟩) n1 1) fun n2 => K (.int .i64 n2) w))
theorem f14_ret {n1 : Int} {w : World} {K : Value → World → Prop} (h : f14 n1 w K) : Ret Pg 14 [(.int .i64 n1)] w K :=
  ret_of_WP (ann := f14_ann) (c := bodyOf Tryd.f14) follows Tryd.func14 rfl (by kernel_rfl) (by
    have e : WP Pg 12 f14_ann (bodyOf Tryd.f14) (retQ Pg Tryd.f14.results.toList K) (initEnv 0 [(.int .i64 n1)]) w = f14 n1 w K := by kernel_rfl
    rw [← e] at h; exact h)

-- besom/besomref17.Text
noncomputable def f15_l0_B : Code := sub [1, 1, 0, 1, 0, 0] (bodyOf Tryd.f15)
@[reducible] def f15_l0_o0 : List (Nat × Sh) := [(5, .one (.str))]
@[reducible] def f15_l0_A : Ann := ⟨[(0, .one (.int .i64)), (3, .one (.ptr)), (5, .one (.str)), (6, .one (.int .i64))], [(some 0, f15_l0_o0)]⟩
def f15_ann : Nat → Option Ann := fun r => cond (Nat.beq r 3) (some f15_l0_A) (none)
def f15_l0 (n8 : Int) (p2 : Option Addr) (t3 : ByteArray) (n9 : Int) (w : World) (Kn : Tup f15_l0_A.ins → World → Prop) (K0 : Tup f15_l0_o0 → World → Prop) : Prop := Ret Pg 13 [(.int .i64 n8)] w fun r2 w3 => ∃ (n10 : Int), r2 = (.int .i64 n10) ∧ bif (decide (n9 < n10)) then (((t3.size + (sB [32]).size : Nat) : Int) ≤ 9223372036854775807 ∧ 0 ≤ n9 ∧ n9 < ((4 : Nat) : Int) ∧ NN p2 fun a2 => LI w3 (Addr.at_ a2 n9 1) fun n11 => Ret Pg 25 [(.int .i64 n11)] w3 fun r3 w4 => ∃ (t4 : ByteArray), r3 = (.string t4) ∧ (((t3 ++ (sB [32])).size + t4.size : Nat) : Int) ≤ 9223372036854775807 ∧ Kn ⟨n8, p2, ((t3 ++ (sB [32])) ++ t4), (IntKind.wrap .i64 (n9 + 1)), ()⟩ w4) else (K0 ⟨t3, ()⟩ w3)
theorem f15_l0_eq (n8 : Int) (p2 : Option Addr) (t3 : ByteArray) (n9 : Int) (w : World) (Kn : Tup f15_l0_A.ins → World → Prop) (K0 : Tup f15_l0_o0 → World → Prop) : WP Pg 23 f15_ann f15_l0_B (bodyQ f15_l0_A (K0, ()) Kn) (mkEnv f15_l0_A.ins ⟨n8, p2, t3, n9, ()⟩) w = f15_l0 n8 p2 t3 n9 w Kn K0 := by kernel_rfl

def f15 (n1 : Int) (n2 : Int) (n3 : Int) (n4 : Int) (n5 : Int) (w : World) (K : Value → World → Prop) : Prop := NewW [(.int .i64 n2), (.int .i64 n3), (.int .i64 n4), (.int .i64 n5)] 23 w fun a1 w1 => Ret Pg 20 [(.int .i64 n1)] w1 fun r1 w2 => ∃ (t1 : ByteArray), r1 = (.string t1) ∧ LoopP Pg 23 f15_l0_B f15_l0_A ⟨n1, (some a1), t1, 0, ()⟩ w2 (fun (y1 : Tup f15_l0_o0) (w5 : World) => K (.string y1.1) w5, ())
theorem f15_ret {n1 : Int} {n2 : Int} {n3 : Int} {n4 : Int} {n5 : Int} {w : World} {K : Value → World → Prop} (h : f15 n1 n2 n3 n4 n5 w K) : Ret Pg 15 [(.int .i64 n1), (.agg ⟨[(.int .i64 n2), (.int .i64 n3), (.int .i64 n4), (.int .i64 n5)]⟩)] w K :=
  ret_of_WP (ann := f15_ann) (c := bodyOf Tryd.f15) follows Tryd.func15 rfl (by kernel_rfl) (by
    have e : WP Pg 23 f15_ann (bodyOf Tryd.f15) (retQ Pg Tryd.f15.results.toList K) (initEnv 0 [(.int .i64 n1), (.agg ⟨[(.int .i64 n2), (.int .i64 n3), (.int .i64 n4), (.int .i64 n5)]⟩)]) w = f15 n1 n2 n3 n4 n5 w K := by kernel_rfl
    rw [← e] at h; exact h)

-- besom/script.All
noncomputable def f16_l0_B : Code := sub [1, 1, 0, 1, 0, 0] (bodyOf Tryd.f16)
@[reducible] def f16_l0_o0 : List (Nat × Sh) := [(5, .one (.sl))]
@[reducible] def f16_l0_or : List (Nat × Sh) := [(2, .one (.sl)), (3, .one (.int .i64)), (4, .one (.int .i64))]
@[reducible] def f16_l0_A : Ann := ⟨[(0, .one (.str)), (5, .one (.sl)), (6, .one (.int .i64))], [(some 0, f16_l0_o0), (none, f16_l0_or)]⟩
def f16_ann : Nat → Option Ann := fun r => cond (Nat.beq r 3) (some f16_l0_A) (none)
def f16_l0 (t3 : ByteArray) (s2 : Sl) (n2 : Int) (w : World) (Kn : Tup f16_l0_A.ins → World → Prop) (K0 : Tup f16_l0_o0 → World → Prop) (Kr : Tup f16_l0_or → World → Prop) : Prop := bif (!(ByteArray.toList t3 == ByteArray.toList (sB []))) then (Ret Pg 26 [(.string t3), (.string (sB [10]))] w fun r1 w1 => ∃ (t4 : ByteArray), ∃ (t5 : ByteArray), ∃ (b1 : Bool), r1 = (.tuple ⟨[(.string t4), (.string t5), (.bool b1)]⟩) ∧ Ret Pg 9 [(.string t4)] w1 fun r2 w2 => ∃ (n3 : Int) (n4 : Int) (n5 : Int) (n6 : Int) (n7 : Int), ∃ (n8 : Int), r2 = (.tuple ⟨[(.agg ⟨[(.int .i64 n3), (.int .i64 n4), (.int .i64 n5), (.int .i64 n6), (.int .i64 n7)]⟩), (.int .i64 n8)]⟩) ∧ NewW [(.int .i64 0), (.int .i64 0), (.int .i64 0), (.int .i64 0), (.int .i64 0)] 25 w2 fun a1 w3 => St w3 a1 (.int .i64 n3) fun w4 => St w4 (a1.add 1) (.int .i64 n4) fun w5 => St w5 (a1.add 2) (.int .i64 n5) fun w6 => St w6 (a1.add 3) (.int .i64 n6) fun w7 => St w7 (a1.add 4) (.int .i64 n7) fun w8 => bif (!b1) then (Kr ⟨⟨none, 0, 0⟩, n2, 10, ()⟩ w8) else (bif (n8 != 0) then (Kr ⟨⟨none, 0, 0⟩, n2, 10, ()⟩ w8) else (∃ (n9 : Int) (n10 : Int) (n11 : Int) (n12 : Int) (n13 : Int), (CellsAt w8 a1 0 [(.int .i64 n9), (.int .i64 n10), (.int .i64 n11), (.int .i64 n12), (.int .i64 n13)] ∧ (5 = 5 ∧ NewW [(.int .i64 n9), (.int .i64 n10), (.int .i64 n11), (.int .i64 n12), (.int .i64 n13)] 25 w8 fun a2 w9 => ApW Pg 37 37 (.slice s2.at_ s2.len s2.cap) (.slice (some a2) 1 1) w9 fun s3p s3l s3c w10 => Kn ⟨t5, ⟨s3p, s3l, s3c⟩, (IntKind.wrap .i64 (n2 + 1)), ()⟩ w10))))) else (K0 ⟨⟨s2.at_, s2.len, s2.cap⟩, ()⟩ w)
theorem f16_l0_eq (t3 : ByteArray) (s2 : Sl) (n2 : Int) (w : World) (Kn : Tup f16_l0_A.ins → World → Prop) (K0 : Tup f16_l0_o0 → World → Prop) (Kr : Tup f16_l0_or → World → Prop) : WP Pg 40 f16_ann f16_l0_B (bodyQ f16_l0_A (K0, Kr, ()) Kn) (mkEnv f16_l0_A.ins ⟨t3, s2, n2, ()⟩) w = f16_l0 t3 s2 n2 w Kn K0 Kr := by kernel_rfl

def f16 (t1 : ByteArray) (w : World) (K : Value → World → Prop) : Prop := LoopP Pg 40 f16_l0_B f16_l0_A ⟨t1, ⟨none, 0, 0⟩, 1, ()⟩ w (fun (y1 : Tup f16_l0_o0) (w11 : World) => K (.tuple ⟨[(.slice y1.1.at_ y1.1.len y1.1.cap), (.int .i64 0), (.int .i64 0)]⟩) w11, fun (y2 : Tup f16_l0_or) (w12 : World) => K (.tuple ⟨[(.slice y2.1.at_ y2.1.len y2.1.cap), (.int .i64 y2.2.1), (.int .i64 y2.2.2.1)]⟩) w12, ())
theorem f16_ret {t1 : ByteArray} {w : World} {K : Value → World → Prop} (h : f16 t1 w K) : Ret Pg 16 [(.string t1)] w K :=
  ret_of_WP (ann := f16_ann) (c := bodyOf Tryd.f16) follows Tryd.func16 rfl (by kernel_rfl) (by
    have e : WP Pg 40 f16_ann (bodyOf Tryd.f16) (retQ Pg Tryd.f16.results.toList K) (initEnv 0 [(.string t1)]) w = f16 t1 w K := by kernel_rfl
    rw [← e] at h; exact h)

-- besom/besomref17.Word
def f20_ann : Nat → Option Ann := fun _ => none
def f20 (n1 : Int) (w : World) (K : Value → World → Prop) : Prop := NewW [(.string (sB [])), (.string (sB [97, 108, 108, 111, 99])), (.string (sB [110, 105, 108])), (.string (sB [100, 117, 112])), (.string (sB [100, 114, 111, 112])), (.string (sB [108, 111, 97, 100])), (.string (sB [108, 105, 110, 107])), (.string (sB [115, 101, 116])), (.string (sB [103, 101, 116])), (.string (sB [99, 111, 108, 108, 101, 99, 116])), (.string (sB [115, 116, 101, 112])), (.string (sB [114, 117, 110])), (.string (sB [99, 111, 117, 110, 116]))] 9 w fun a1 w1 => bif (decide (n1 < 1)) then (K (.string (sB [])) w1) else (bif (decide (n1 > 12)) then (K (.string (sB [])) w1) else (0 ≤ n1 ∧ n1 < ((13 : Nat) : Int) ∧ NN (some a1) fun a2 => LT w1 (Addr.at_ a2 n1 1) fun t1 => K (.string t1) w1))
theorem f20_ret {n1 : Int} {w : World} {K : Value → World → Prop} (h : f20 n1 w K) : Ret Pg 20 [(.int .i64 n1)] w K :=
  ret_of_WP (ann := f20_ann) (c := bodyOf Tryd.f20) follows Tryd.func20 rfl (by kernel_rfl) (by
    have e : WP Pg 15 f20_ann (bodyOf Tryd.f20) (retQ Pg Tryd.f20.results.toList K) (initEnv 0 [(.int .i64 n1)]) w = f20 n1 w K := by kernel_rfl
    rw [← e] at h; exact h)

-- besom/besomref17.number
noncomputable def f21_l0_B : Code := sub [1, 1, 1, 0, 1, 0, 0] (bodyOf Tryd.f21)
@[reducible] def f21_l0_o0 : List (Nat × Sh) := [(0, .one (.str)), (4, .one (.int .i64))]
@[reducible] def f21_l0_or : List (Nat × Sh) := [(2, .one (.int .i64)), (3, .one (.bool))]
@[reducible] def f21_l0_A : Ann := ⟨[(0, .one (.str)), (4, .one (.int .i64)), (5, .one (.int .i64))], [(some 0, f21_l0_o0), (none, f21_l0_or)]⟩
def f21_ann : Nat → Option Ann := fun r => cond (Nat.beq r 5) (some f21_l0_A) (none)
def f21_j3 (t6 : ByteArray) (n7 : Int) (n8 : Int) (w : World) (Kn : Tup f21_l0_A.ins → World → Prop) (K0 : Tup f21_l0_o0 → World → Prop) (Kr : Tup f21_l0_or → World → Prop) : Prop := ∃ u4 : UInt8, (0 ≤ (0 : Int) ∧ t6[Int.toNat 0]? = some u4) ∧ bif (((u4.toNat : Nat) : Int) == 45) then (∃ u5 : UInt8, (0 ≤ n8 ∧ t6[Int.toNat n8]? = some u5) ∧ Kn ⟨t6, (IntKind.wrap .i64 ((IntKind.wrap .i64 (n7 * 10)) - (IntKind.wrap .i64 (IntKind.wrap .u8 (((u5.toNat : Nat) : Int) - 48))))), (IntKind.wrap .i64 (n8 + 1)), ()⟩ w) else (∃ u6 : UInt8, (0 ≤ n8 ∧ t6[Int.toNat n8]? = some u6) ∧ Kn ⟨t6, (IntKind.wrap .i64 ((IntKind.wrap .i64 (n7 * 10)) + (IntKind.wrap .i64 (IntKind.wrap .u8 (((u6.toNat : Nat) : Int) - 48))))), (IntKind.wrap .i64 (n8 + 1)), ()⟩ w)

def f21_j2 (t5 : ByteArray) (n5 : Int) (n6 : Int) (w : World) (Kn : Tup f21_l0_A.ins → World → Prop) (K0 : Tup f21_l0_o0 → World → Prop) (Kr : Tup f21_l0_or → World → Prop) : Prop := ∃ u2 : UInt8, (0 ≤ n6 ∧ t5[Int.toNat n6]? = some u2) ∧ bif (decide (((u2.toNat : Nat) : Int) < 48)) then (Kr ⟨0, false, ()⟩ w) else (∃ u3 : UInt8, (0 ≤ n6 ∧ t5[Int.toNat n6]? = some u3) ∧ bif (decide (((u3.toNat : Nat) : Int) > 57)) then (Kr ⟨0, false, ()⟩ w) else (f21_j3 t5 n5 n6 w Kn K0 Kr))

def f21_l0 (t4 : ByteArray) (n3 : Int) (n4 : Int) (w : World) (Kn : Tup f21_l0_A.ins → World → Prop) (K0 : Tup f21_l0_o0 → World → Prop) (Kr : Tup f21_l0_or → World → Prop) : Prop := bif (decide (n4 < ((ByteArray.size t4 : Nat) : Int))) then (∃ u1 : UInt8, (0 ≤ n4 ∧ t4[Int.toNat n4]? = some u1) ∧ bif (((u1.toNat : Nat) : Int) == 45) then (bif (n4 == 0) then (Kn ⟨t4, n3, (IntKind.wrap .i64 (n4 + 1)), ()⟩ w) else (f21_j2 t4 n3 n4 w Kn K0 Kr)) else (f21_j2 t4 n3 n4 w Kn K0 Kr)) else (K0 ⟨t4, n3, ()⟩ w)
theorem f21_l0_eq (t4 : ByteArray) (n3 : Int) (n4 : Int) (w : World) (Kn : Tup f21_l0_A.ins → World → Prop) (K0 : Tup f21_l0_o0 → World → Prop) (Kr : Tup f21_l0_or → World → Prop) : WP Pg 62 f21_ann f21_l0_B (bodyQ f21_l0_A (K0, Kr, ()) Kn) (mkEnv f21_l0_A.ins ⟨t4, n3, n4, ()⟩) w = f21_l0 t4 n3 n4 w Kn K0 Kr := by kernel_rfl

def f21_j1 (t2 : ByteArray) (w : World) (K : Value → World → Prop) : Prop := LoopP Pg 62 f21_l0_B f21_l0_A ⟨t2, 0, 0, ()⟩ w (fun (y1 : Tup f21_l0_o0) (w1 : World) => Ret Pg 25 [(.int .i64 y1.2.1)] w1 fun r1 w2 => ∃ (t7 : ByteArray), r1 = (.string t7) ∧ K (.tuple ⟨[(.int .i64 y1.2.1), (.bool (ByteArray.toList t7 == ByteArray.toList y1.1))]⟩) w2, fun (y2 : Tup f21_l0_or) (w3 : World) => K (.tuple ⟨[(.int .i64 y2.1), (.bool y2.2.1)]⟩) w3, ())

def f21 (t1 : ByteArray) (w : World) (K : Value → World → Prop) : Prop := bif (((ByteArray.size t1 : Nat) : Int) == 0) then (K (.tuple ⟨[(.int .i64 0), (.bool false)]⟩) w) else (bif (decide (((ByteArray.size t1 : Nat) : Int) > 20)) then (K (.tuple ⟨[(.int .i64 0), (.bool false)]⟩) w) else (f21_j1 t1 w K))
theorem f21_ret {t1 : ByteArray} {w : World} {K : Value → World → Prop} (h : f21 t1 w K) : Ret Pg 21 [(.string t1)] w K :=
  ret_of_WP (ann := f21_ann) (c := bodyOf Tryd.f21) follows Tryd.func21 rfl (by kernel_rfl) (by
    have e : WP Pg 62 f21_ann (bodyOf Tryd.f21) (retQ Pg Tryd.f21.results.toList K) (initEnv 0 [(.string t1)]) w = f21 t1 w K := by kernel_rfl
    rw [← e] at h; exact h)

-- slices.ContainsFunc[[]int,int]
def f22_ann : Nat → Option Ann := fun _ => none
def f22 (s1p : Option Addr) (s1l : Nat) (s1c : Nat) (v1 : Value) (w : World) (K : Value → World → Prop) : Prop := Ret Pg 30 [(.slice s1p s1l s1c), v1] w fun r1 w1 => ∃ (n1 : Int), r1 = (.int .i64 n1) ∧ K (.bool (decide (n1 ≥ 0))) w1
theorem f22_ret {s1p : Option Addr} {s1l : Nat} {s1c : Nat} {v1 : Value} {w : World} {K : Value → World → Prop} (h : f22 s1p s1l s1c v1 w K) : Ret Pg 22 [(.slice s1p s1l s1c), v1] w K :=
  ret_of_WP (ann := f22_ann) (c := bodyOf Tryd.f22) follows Tryd.func22 rfl (by kernel_rfl) (by
    have e : WP Pg 9 f22_ann (bodyOf Tryd.f22) (retQ Pg Tryd.f22.results.toList K) (initEnv 0 [(.slice s1p s1l s1c), v1]) w = f22 s1p s1l s1c v1 w K := by kernel_rfl
    rw [← e] at h; exact h)

-- (besom/script.Entry).Good$1
def f23_ann : Nat → Option Ann := fun _ => none
def f23 (n1 : Int) (w : World) (K : Value → World → Prop) : Prop := K (.bool (n1 != 0)) w
theorem f23_ret {n1 : Int} {w : World} {K : Value → World → Prop} (h : f23 n1 w K) : Ret Pg 23 [(.int .i64 n1)] w K :=
  ret_of_WP (ann := f23_ann) (c := bodyOf Tryd.f23) follows Tryd.func23 rfl (by kernel_rfl) (by
    have e : WP Pg 5 f23_ann (bodyOf Tryd.f23) (retQ Pg Tryd.f23.results.toList K) (initEnv 0 [(.int .i64 n1)]) w = f23 n1 w K := by kernel_rfl
    rw [← e] at h; exact h)

-- besom/besomref17.Decimal
noncomputable def f25_l0_B : Code := sub [1, 1, 1, 1, 0, 0, 0] (bodyOf Tryd.f25)
@[reducible] def f25_l0_o0 : List (Nat × Sh) := [(3, .one (.str))]
@[reducible] def f25_l0_A : Ann := ⟨[(0, .one (.int .i64)), (3, .one (.str))], [(some 0, f25_l0_o0)]⟩
def f25_ann : Nat → Option Ann := fun r => cond (Nat.beq r 6) (some f25_l0_A) (none)
def f25_j1 (n4 : Int) (t4 : ByteArray) (w : World) (Kn : Tup f25_l0_A.ins → World → Prop) (K0 : Tup f25_l0_o0 → World → Prop) : Prop := NewW [(.int .u8 (IntKind.wrap .u8 (IntKind.wrap .i64 (48 + (Int.tmod n4 10)))))] 5 w fun a1 w2 => CvS Pg 61 9 (.slice (some a1) 1 1) w2 fun t5 => ((t5.size + t4.size : Nat) : Int) ≤ 9223372036854775807 ∧ Kn ⟨(IntKind.wrap .i64 (Int.tdiv n4 10)), (t5 ++ t4), ()⟩ w2

def f25_l0 (n3 : Int) (t3 : ByteArray) (w : World) (Kn : Tup f25_l0_A.ins → World → Prop) (K0 : Tup f25_l0_o0 → World → Prop) : Prop := bif (decide (n3 > 0)) then (f25_j1 n3 t3 w Kn K0) else (bif (ByteArray.toList t3 == ByteArray.toList (sB [])) then (f25_j1 n3 t3 w Kn K0) else (K0 ⟨t3, ()⟩ w))
theorem f25_l0_eq (n3 : Int) (t3 : ByteArray) (w : World) (Kn : Tup f25_l0_A.ins → World → Prop) (K0 : Tup f25_l0_o0 → World → Prop) : WP Pg 29 f25_ann f25_l0_B (bodyQ f25_l0_A (K0, ()) Kn) (mkEnv f25_l0_A.ins ⟨n3, t3, ()⟩) w = f25_l0 n3 t3 w Kn K0 := by kernel_rfl

def f25 (n1 : Int) (w : World) (K : Value → World → Prop) : Prop := bif (n1 == (-9223372036854775808)) then (K (.string (sB [45, 57, 50, 50, 51, 51, 55, 50, 48, 51, 54, 56, 53, 52, 55, 55, 53, 56, 48, 56])) w) else (bif (decide (n1 < 0)) then (Ret Pg 25 [(.int .i64 (IntKind.wrap .i64 (0 - n1)))] w fun r1 w1 => ∃ (t1 : ByteArray), r1 = (.string t1) ∧ (((sB [45]).size + t1.size : Nat) : Int) ≤ 9223372036854775807 ∧ K (.string ((sB [45]) ++ t1)) w1) else (LoopP Pg 29 f25_l0_B f25_l0_A ⟨n1, (sB []), ()⟩ w (fun (y1 : Tup f25_l0_o0) (w3 : World) => K (.string y1.1) w3, ())))
theorem f25_ret {n1 : Int} {w : World} {K : Value → World → Prop} (h : f25 n1 w K) : Ret Pg 25 [(.int .i64 n1)] w K :=
  ret_of_WP (ann := f25_ann) (c := bodyOf Tryd.f25) follows Tryd.func25 rfl (by kernel_rfl) (by
    have e : WP Pg 29 f25_ann (bodyOf Tryd.f25) (retQ Pg Tryd.f25.results.toList K) (initEnv 0 [(.int .i64 n1)]) w = f25 n1 w K := by kernel_rfl
    rw [← e] at h; exact h)

-- slices.IndexFunc[[]int,int]
noncomputable def f30_l0_B : Code := sub [1, 0, 1, 0, 0] (bodyOf Tryd.f30)
@[reducible] def f30_l0_o0 : List (Nat × Sh) := []
@[reducible] def f30_l0_or : List (Nat × Sh) := [(4, .one (.int .i64))]
@[reducible] def f30_l0_A : Ann := ⟨[(0, .one (.sl)), (1, .one (.raw)), (7, .one (.int .i64)), (8, .one (.int .i64))], [(some 0, f30_l0_o0), (none, f30_l0_or)]⟩
def f30_ann : Nat → Option Ann := fun r => cond (Nat.beq r 2) (some f30_l0_A) (none)
def f30_l0 (s3 : Sl) (v3 : Value) (n3 : Int) (n4 : Int) (w : World) (Kn : Tup f30_l0_A.ins → World → Prop) (K0 : Tup f30_l0_o0 → World → Prop) (Kr : Tup f30_l0_or → World → Prop) : Prop := bif (decide (n4 < n3)) then (0 ≤ n4 ∧ n4 < ((s3.len : Nat) : Int) ∧ NN s3.at_ fun a1 => LI w (Addr.at_ a1 n4 1) fun n5 => CvW Pg true v3 [(.int .i64 n5)] w fun r1 w1 => ∃ (b1 : Bool), r1 = (.bool b1) ∧ bif b1 then (Kr ⟨n4, ()⟩ w1) else (Kn ⟨⟨s3.at_, s3.len, s3.cap⟩, v3, n3, (IntKind.wrap .i64 (n4 + 1)), ()⟩ w1)) else (K0 () w)
theorem f30_l0_eq (s3 : Sl) (v3 : Value) (n3 : Int) (n4 : Int) (w : World) (Kn : Tup f30_l0_A.ins → World → Prop) (K0 : Tup f30_l0_o0 → World → Prop) (Kr : Tup f30_l0_or → World → Prop) : WP Pg 19 f30_ann f30_l0_B (bodyQ f30_l0_A (K0, Kr, ()) Kn) (mkEnv f30_l0_A.ins ⟨s3, v3, n3, n4, ()⟩) w = f30_l0 s3 v3 n3 n4 w Kn K0 Kr := by kernel_rfl

def f30 (s1p : Option Addr) (s1l : Nat) (s1c : Nat) (v1 : Value) (w : World) (K : Value → World → Prop) : Prop := LoopP Pg 19 f30_l0_B f30_l0_A ⟨⟨s1p, s1l, s1c⟩, v1, ((s1l : Nat) : Int), 0, ()⟩ w (fun (y1 : Tup f30_l0_o0) (w2 : World) => K (.int .i64 (-1)) w2, fun (y2 : Tup f30_l0_or) (w3 : World) => K (.int .i64 y2.1) w3, ())
theorem f30_ret {s1p : Option Addr} {s1l : Nat} {s1c : Nat} {v1 : Value} {w : World} {K : Value → World → Prop} (h : f30 s1p s1l s1c v1 w K) : Ret Pg 30 [(.slice s1p s1l s1c), v1] w K :=
  ret_of_WP (ann := f30_ann) (c := bodyOf Tryd.f30) follows Tryd.func30 rfl (by kernel_rfl) (by
    have e : WP Pg 19 f30_ann (bodyOf Tryd.f30) (retQ Pg Tryd.f30.results.toList K) (initEnv 0 [(.slice s1p s1l s1c), v1]) w = f30 s1p s1l s1c v1 w K := by kernel_rfl
    rw [← e] at h; exact h)


end Go.Proofs.YtokpbanandikpaaDoor

set_option maxRecDepth 100000
set_option linter.unusedVariables false
set_option linter.unusedSimpArgs false
namespace Go.Proofs.YtokpbanandikpaaDoor
open Go Go.V Go.Proofs
open Go.Lib
/-! ### a line's words -/
def splitS : List UInt8 → List (List UInt8)
  | [] => [[]]
  | c :: r => if c = 32 then [] :: splitS r else match splitS r with
    | h :: t => (c :: h) :: t
    | [] => [[c]]
def joinT : List (List UInt8) → List UInt8
  | [] => []
  | p :: r => 32 :: (p ++ joinT r)
def joinS : List (List UInt8) → List UInt8
  | [] => []
  | h :: t => h ++ joinT t
def noSp (l : List UInt8) : Prop := ∀ c ∈ l, c ≠ 32
theorem splitS_ne : ∀ l, splitS l ≠ []
  | [] => by simp [splitS]
  | c :: r => by
    unfold splitS
    split
    · simp
    · split <;> simp
theorem splitS_free : ∀ {l : List UInt8}, noSp l → splitS l = [l]
  | [], _ => rfl
  | c :: r, h => by
    have h1 : c ≠ 32 := h c (by simp)
    have h2 := splitS_free (l := r) fun x hx => h x (by simp [hx])
    unfold splitS
    rw [if_neg h1, h2]
theorem splitS_app : ∀ {p r : List UInt8}, noSp p → splitS (p ++ 32 :: r) = p :: splitS r
  | [], r, _ => by simp [splitS]
  | c :: p, r, h => by
    have h1 : c ≠ 32 := h c (by simp)
    have h2 := splitS_app (p := p) (r := r) fun x hx => h x (by simp [hx])
    rw [List.cons_append]
    show (if c = 32 then [] :: splitS (p ++ 32 :: r) else match splitS (p ++ 32 :: r) with
      | h :: t => (c :: h) :: t
      | [] => [[c]]) = _
    rw [if_neg h1, h2]
theorem splitS_joinT : ∀ {t : List (List UInt8)} {h : List UInt8}, noSp h → (∀ p ∈ t, noSp p) → splitS (h ++ joinT t) = h :: t
  | [], h, hh, _ => by simp only [joinT, List.append_nil]; exact splitS_free hh
  | p :: r, h, hh, ht => by
    simp only [joinT]
    rw [splitS_app hh, splitS_joinT (ht p (by simp)) fun q hq => ht q (by simp [hq])]
theorem splitS_noSp : ∀ (l : List UInt8), ∀ p ∈ splitS l, noSp p
  | [], p, hp => by simp [splitS] at hp; subst hp; intro c hc; cases hc
  | c :: r, p, hp => by
    have ih := splitS_noSp r
    unfold splitS at hp
    split at hp
    · rcases List.mem_cons.1 hp with rfl | hp
      · intro c hc; cases hc
      · exact ih p hp
    · rename_i hc
      split at hp
      · rename_i h t e
        rcases List.mem_cons.1 hp with rfl | hp
        · intro x hx
          rcases List.mem_cons.1 hx with rfl | hx
          · exact hc
          · exact ih h (by rw [e]; simp) x hx
        · exact ih p (by rw [e]; simp [hp])
      · simp at hp; subst hp
        intro x hx; simp at hx; subst hx; exact hc
theorem join_splitS : ∀ (l : List UInt8), joinS (splitS l) = l
  | [] => rfl
  | c :: r => by
    have ih := join_splitS r
    unfold splitS
    split
    · rename_i h
      subst h
      cases e : splitS r with
      | nil => exact absurd e (splitS_ne r)
      | cons h t =>
        rw [e] at ih
        simp only [joinS, joinT, List.nil_append] at ih ⊢
        rw [ih]
    · split
      · rename_i h t e
        rw [e] at ih
        simp only [joinS, List.cons_append] at ih ⊢
        rw [ih]
      · rename_i e
        exact absurd e (splitS_ne r)
theorem index1 : ∀ (l : List UInt8), (index l [32] = -1 ∧ noSp l) ∨ ∃ p r, l = p ++ 32 :: r ∧ noSp p ∧ index l [32] = (p.length : Nat)
  | [] => .inl ⟨rfl, fun c hc => (by cases hc)⟩
  | b :: l => by
    by_cases hb : b = 32
    · subst hb
      exact .inr ⟨[], l, rfl, fun c hc => (by cases hc), by simp [index, List.isPrefixOf]⟩
    · have h0 : ([32] : List UInt8).isPrefixOf (b :: l) = false := by
        simp only [List.isPrefixOf, Bool.and_true]
        exact beq_eq_false_iff_ne.2 fun e => hb e.symm
      rcases index1 l with ⟨h1, h2⟩ | ⟨p, r, h1, h2, h3⟩
      · refine .inl ⟨?_, fun c hc => ?_⟩
        · unfold index
          rw [h0, h1]; rfl
        · rcases List.mem_cons.1 hc with rfl | hc
          · exact hb
          · exact h2 c hc
      · refine .inr ⟨b :: p, r, by rw [h1]; rfl, fun c hc => ?_, ?_⟩
        · rcases List.mem_cons.1 hc with rfl | hc
          · exact hb
          · exact h2 c hc
        · unfold index
          rw [h0, h3]
          have : (((p.length : Nat) : Int) == -1) = false := by rw [beq_eq_false_iff_ne]; omega
          rw [this]
          simp
theorem splitK_S : ∀ (fuel : Nat) (l : List UInt8), l.length < fuel → splitK [32] 0 (countFrom [32] fuel l) l = splitS l
  | 0, l, h => absurd h (Nat.not_lt_zero _)
  | fuel + 1, l, h => by
    rcases index1 l with ⟨h1, h2⟩ | ⟨p, r, h1, h2, h3⟩
    · unfold countFrom
      rw [h1]
      show splitK [32] 0 0 l = _
      rw [splitS_free h2]
      rfl
    · have hne : ((index l [32]) == -1) = false := by rw [h3, beq_eq_false_iff_ne]; omega
      have hlen : r.length < fuel := by rw [h1] at h; simp at h; omega
      have hd : l.drop (p.length + 1) = r := by
        rw [h1, show p.length + 1 = (p ++ [32]).length by simp, show p ++ 32 :: r = (p ++ [32]) ++ r by simp]
        exact List.drop_left' rfl
      have ht : l.take p.length = p := by rw [h1]; exact List.take_left' rfl
      unfold countFrom
      rw [hne]
      simp only [Bool.false_eq_true, if_false]
      rw [h3, Nat.add_comm 1]
      unfold splitK
      rw [hne]
      simp only [Bool.false_eq_true, if_false]
      rw [h3, Int.toNat_natCast, List.length_singleton, hd, splitK_S fuel r hlen, Nat.add_zero, ht, h1, splitS_app h2]
theorem splitB_S (s : ByteArray) : (splitB (sB [32]) 0 (countB s (sB [32])) s).map (·.data.toList) = splitS s.data.toList := by
  rw [splitB_data]
  exact splitK_S _ _ (Nat.lt_succ_self _)
/-! ### numerals -/
def isDig (c : UInt8) : Prop := 48 ≤ c.toNat ∧ c.toNat ≤ 57
theorem dig_ofNat {d : Nat} (h : d < 10) : isDig (UInt8.ofNat (48 + d)) ∧ (UInt8.ofNat (48 + d)).toNat = 48 + d := by
  have : (UInt8.ofNat (48 + d)).toNat = 48 + d := by simp; omega
  exact ⟨by unfold isDig; omega, this⟩
theorem decDigits_dig : ∀ (u : Nat), ∀ c ∈ decDigits u, isDig c := by
  intro u
  induction u using Nat.strongRecOn with
  | ind u ih =>
    intro c hc
    rw [decDigits] at hc
    split at hc
    · rw [List.mem_singleton.1 hc]; exact (dig_ofNat ‹_›).1
    · rcases List.mem_append.1 hc with hc | hc
      · exact ih (u / 10) (by omega) c hc
      · rw [List.mem_singleton.1 hc]; exact (dig_ofNat (by omega)).1
theorem itoa_noSp (n : Int) : noSp (itoa n) := by
  have key : ∀ u, noSp (decDigits u) := fun u c hc e => by
    have := decDigits_dig u c hc
    subst e
    unfold isDig at this
    simp at this
  unfold itoa
  split
  · intro c hc
    rcases List.mem_cons.1 hc with rfl | hc
    · decide
    · exact key _ c hc
  · exact key _
theorem decDigits_head (u : Nat) : ∃ c r, decDigits u = c :: r ∧ isDig c := by
  cases h : decDigits u with
  | nil =>
    rw [decDigits] at h
    split at h
    · cases h
    · simp at h
  | cons c r => exact ⟨c, r, rfl, decDigits_dig u c (by rw [h]; simp)⟩
theorem parse_app {acc v : Nat} {c : UInt8} : ∀ {l : List UInt8}, parseUint10 acc l = .ok v → parseUint10 acc (l ++ [c]) = parseUint10 v [c]
  | [], h => by
    simp only [parseUint10] at h
    injection h with h
    subst h
    rfl
  | x :: l, h => by
    rw [List.cons_append]
    simp only [parseUint10] at h ⊢
    split at h
    · rename_i h1
      rw [if_pos h1]
      split at h
      · cases h
      · rename_i h2
        rw [if_neg h2]
        split at h
        · cases h
        · rename_i h3
          rw [if_neg h3]
          exact parse_app h
    · cases h
theorem parse_dec : ∀ (u : Nat), u < 18446744073709551616 → parseUint10 0 (decDigits u) = .ok u := by
  intro u
  induction u using Nat.strongRecOn with
  | ind u ih =>
    intro hu
    rw [decDigits]
    split
    · rename_i h
      obtain ⟨h1, h2⟩ := dig_ofNat h
      unfold isDig at h1
      simp only [parseUint10]
      rw [if_pos h1, h2, if_neg (by omega), if_neg (by omega)]
      congr 1
      omega
    · obtain ⟨h1, h2⟩ := dig_ofNat (d := u % 10) (by omega)
      rw [parse_app (ih (u / 10) (by omega) (by omega))]
      unfold isDig at h1
      simp only [parseUint10]
      rw [if_pos h1, h2, if_neg (by omega), if_neg (by omega)]
      congr 1
      omega
theorem atoi_itoa {n : Int} (h0 : -9223372036854775808 ≤ n) (h1 : n ≤ 9223372036854775807) : atoiAll (itoa n) = .ok n := by
  unfold itoa
  split
  · rename_i h
    obtain ⟨c, r, e, _⟩ := decDigits_head n.natAbs
    have hp : parseMag (decDigits n.natAbs) = .ok n.natAbs := by
      unfold parseMag
      rw [if_neg (by rw [e]; simp), parse_dec _ (by omega)]
    unfold atoiAll
    simp only []
    rw [if_pos (.inr (by decide)), hp]
    simp only []
    rw [if_neg (by intro h; exact h.1 (by decide)), if_neg (by omega), if_pos (by decide)]
    congr 1
    omega
  · rename_i h
    obtain ⟨c, r, e, hc⟩ := decDigits_head n.toNat
    have hp : parseMag (decDigits n.toNat) = .ok n.toNat := by
      unfold parseMag
      rw [if_neg (by rw [e]; simp), parse_dec _ (by omega)]
    unfold isDig at hc
    rw [e] at hp ⊢
    unfold atoiAll
    simp only []
    rw [if_neg (by omega), hp]
    simp only []
    rw [if_neg (by omega), if_neg (by omega), if_neg (by omega)]
    congr 1
    omega
def atoiV (l : List UInt8) : Int := match atoiAll l with
  | .ok v => v
  | .range => atoiSat l
  | _ => 0
theorem atoiV_bound (l : List UInt8) : -9223372036854775808 ≤ atoiV l ∧ atoiV l ≤ 9223372036854775807 := by
  unfold atoiV
  split
  · exact atoiAll_bounds ‹_›
  · unfold atoiSat; split <;> omega
  · omega
theorem atoiV_itoa {n : Int} (h0 : -9223372036854775808 ≤ n) (h1 : n ≤ 9223372036854775807) : atoiV (itoa n) = n := by
  unfold atoiV
  rw [atoi_itoa h0 h1]

end Go.Proofs.YtokpbanandikpaaDoor

set_option maxRecDepth 100000
set_option linter.unusedVariables false
set_option linter.unusedSimpArgs false
namespace Go.Proofs.YtokpbanandikpaaDoor
open Go Go.V Go.Proofs
open Go.Lib
/-! ### strings as lists -/
theorem sB_eta (t : ByteArray) : sB t.data.toList = t := rfl
theorem sB_data (l : List UInt8) : (sB l).data.toList = l := rfl
theorem sB_inj {a b : List UInt8} (h : sB a = sB b) : a = b := congrArg (fun t : ByteArray => t.data.toList) h
theorem sB_size (l : List UInt8) : (sB l).size = l.length := rfl
theorem sB_app (a b : List UInt8) : sB a ++ sB b = sB (a ++ b) := by
  apply ByteArray.ext
  simp [sB]
theorem sB_get (l : List UInt8) (i : Nat) : (sB l)[i]? = l[i]? := by
  by_cases h : i < l.length
  · rw [List.getElem?_eq_getElem h]
    show getElem? (sB l) i = _
    rw [getElem?_pos (sB l) i (show i < (sB l).size from h)]
    rfl
  · rw [List.getElem?_eq_none (by omega)]
    exact getElem?_neg (sB l) i (show ¬ i < (sB l).size from h)
theorem sB_list (l : List UInt8) : ByteArray.toList (sB l) = l := by rw [ByteArray.toList_eq]; rfl
theorem sB_beq (a b : List UInt8) : (ByteArray.toList (sB a) == ByteArray.toList (sB b)) = decide (a = b) := by
  rw [sB_list, sB_list, Bool.eq_iff_iff]
  simp
/-! ### a number's text, read -/
def numL (neg : Bool) : Int → List UInt8 → Option Int
  | n, [] => some n
  | n, c :: r => if 48 ≤ c.toNat ∧ c.toNat ≤ 57 then numL neg (if neg then IntKind.wrap .i64 (IntKind.wrap .i64 (n * 10) - ((c.toNat - 48 : Nat) : Int)) else IntKind.wrap .i64 (IntKind.wrap .i64 (n * 10) + ((c.toNat - 48 : Nat) : Int))) r else none
def isNeg (l : List UInt8) : Bool := decide (l.head? = some 45)
def magL (l : List UInt8) : List UInt8 := if isNeg l then l.tail else l
def numR (l : List UInt8) : Int × Bool := if l.length = 0 ∨ 20 < l.length then (0, false) else match numL (isNeg l) 0 (magL l) with
  | none => (0, false)
  | some n => (n, decide (itoa n = l))
theorem numL_app {neg : Bool} {c : UInt8} : ∀ {l : List UInt8} {n v : Int}, numL neg n l = some v → numL neg n (l ++ [c]) = numL neg v [c]
  | [], n, v, h => by
    simp only [numL, Option.some.injEq] at h
    subst h
    rfl
  | x :: l, n, v, h => by
    rw [List.cons_append]
    simp only [numL] at h ⊢
    split at h
    · rename_i h1
      rw [if_pos h1]
      exact numL_app h
    · cases h
theorem numL_pos : ∀ (u : Nat), u ≤ 9223372036854775807 → numL false 0 (decDigits u) = some (u : Int) := by
  intro u
  induction u using Nat.strongRecOn with
  | ind u ih =>
    intro hu
    rw [decDigits]
    split
    · rename_i h
      obtain ⟨h1, h2⟩ := dig_ofNat h
      unfold isDig at h1
      simp only [numL]
      rw [if_pos h1, h2]
      simp only [Bool.false_eq_true, if_false]
      rw [wrap64 (n := 0 * 10) (by omega) (by omega), wrap64 (by omega) (by omega)]
      congr 1
      omega
    · obtain ⟨h1, h2⟩ := dig_ofNat (d := u % 10) (by omega)
      unfold isDig at h1
      rw [numL_app (ih (u / 10) (by omega) (by omega))]
      simp only [numL]
      rw [if_pos h1, h2]
      simp only [Bool.false_eq_true, if_false]
      rw [wrap64 (n := ((u / 10 : Nat) : Int) * 10) (by omega) (by omega), wrap64 (by omega) (by omega)]
      congr 1
      omega
theorem numL_neg : ∀ (u : Nat), u ≤ 9223372036854775808 → numL true 0 (decDigits u) = some (-(u : Int)) := by
  intro u
  induction u using Nat.strongRecOn with
  | ind u ih =>
    intro hu
    rw [decDigits]
    split
    · rename_i h
      obtain ⟨h1, h2⟩ := dig_ofNat h
      unfold isDig at h1
      simp only [numL]
      rw [if_pos h1, h2]
      simp only [if_true]
      rw [wrap64 (n := 0 * 10) (by omega) (by omega), wrap64 (by omega) (by omega)]
      congr 1
      omega
    · obtain ⟨h1, h2⟩ := dig_ofNat (d := u % 10) (by omega)
      unfold isDig at h1
      rw [numL_app (ih (u / 10) (by omega) (by omega))]
      simp only [numL]
      rw [if_pos h1, h2]
      simp only [if_true]
      rw [wrap64 (n := -((u / 10 : Nat) : Int) * 10) (by omega) (by omega), wrap64 (by omega) (by omega)]
      congr 1
      omega
theorem nDigits_le : ∀ (k u : Nat), u < 10 ^ (k + 1) → nDigits u ≤ k + 1
  | 0, u, h => by rw [nDigits_small (by simpa using h)]; omega
  | k + 1, u, h => by
    by_cases hu : u < 10
    · rw [nDigits_small hu]; omega
    · rw [nDigits_big hu]
      have := nDigits_le k (u / 10) (by rw [Nat.pow_succ] at h; omega)
      omega
theorem numR_itoa {n : Int} (h0 : -9223372036854775808 ≤ n) (h1 : n ≤ 9223372036854775807) : numR (itoa n) = (n, true) := by
  have hd : ∀ u, u ≤ 9223372036854775808 → (decDigits u).length ≤ 19 := fun u hu => by
    rw [decDigits_length]
    exact nDigits_le 18 u (by omega)
  unfold numR
  by_cases h : n < 0
  · have e : itoa n = 45 :: decDigits n.natAbs := by unfold itoa; rw [if_pos h]
    have hl := hd n.natAbs (by omega)
    have hneg : isNeg (itoa n) = true := by rw [e]; rfl
    rw [if_neg (by rw [e]; simp; omega), hneg]
    have hm : magL (itoa n) = decDigits n.natAbs := by unfold magL; rw [hneg, e]; rfl
    rw [hm, numL_neg _ (by omega), show -((n.natAbs : Nat) : Int) = n by omega]
    simp
  · have e : itoa n = decDigits n.toNat := by unfold itoa; rw [if_neg h]
    have hl := hd n.toNat (by omega)
    obtain ⟨c, r, e2, hc⟩ := decDigits_head n.toNat
    have hneg : isNeg (itoa n) = false := by
      rw [e, e2]
      unfold isNeg
      rw [decide_eq_false]
      intro hh
      simp at hh
      subst hh
      unfold isDig at hc
      simp at hc
    rw [if_neg (by rw [e, e2]; rw [e2] at hl; simp; simp at hl; omega), hneg]
    have hm : magL (itoa n) = decDigits n.toNat := by unfold magL; rw [hneg, e]; rfl
    rw [hm, numL_pos _ (by omega), show ((n.toNat : Nat) : Int) = n by omega]
    simp
theorem wrap_bound (n : Int) : -9223372036854775808 ≤ IntKind.wrap .i64 n ∧ IntKind.wrap .i64 n ≤ 9223372036854775807 := by
  unfold IntKind.wrap
  simp only [IntKind.bits, IntKind.signed, Bool.true_and, decide_eq_true_eq, ge_iff_le]
  have h1 := Int.emod_nonneg n (b := 2 ^ 64) (by omega)
  have h2 := Int.emod_lt_of_pos n (b := 2 ^ 64) (by omega)
  split <;> omega
theorem numL_bound {neg : Bool} : ∀ {l : List UInt8} {n v : Int}, -9223372036854775808 ≤ n ∧ n ≤ 9223372036854775807 → numL neg n l = some v → -9223372036854775808 ≤ v ∧ v ≤ 9223372036854775807
  | [], n, v, hn, h => by
    simp only [numL, Option.some.injEq] at h
    subst h; exact hn
  | c :: l, n, v, hn, h => by
    simp only [numL] at h
    split at h
    · refine numL_bound ?_ h
      split <;> exact wrap_bound _
    · cases h
theorem numR_bound (l : List UInt8) : -9223372036854775808 ≤ (numR l).1 ∧ (numR l).1 ≤ 9223372036854775807 := by
  unfold numR
  split
  · simp
  · split
    · simp
    · rename_i n h
      exact numL_bound (by omega) h
/-- What Atoi makes of a text is written as that text just if the document takes it; then both are the same number. -/
theorem num_iff (l : List UInt8) : itoa (atoiV l) = l ↔ (numR l).2 = true := by
  constructor
  · intro h
    have hb := atoiV_bound l
    have := numR_itoa hb.1 hb.2
    rw [h] at this
    rw [this]
  · intro h
    have hb := numR_bound l
    have hl : itoa (numR l).1 = l := by
      unfold numR at h ⊢
      split at h
      · cases h
      · rename_i hh
        rw [if_neg hh]
        split at h
        · cases h
        · simpa using h
    have e : atoiV l = (numR l).1 := by
      have := atoiV_itoa hb.1 hb.2
      rw [hl] at this
      exact this
    rw [e, hl]
theorem num_eq {l : List UInt8} (h : (numR l).2 = true) : atoiV l = (numR l).1 := by
  have h1 := (num_iff l).2 h
  have hb := atoiV_bound l
  have := numR_itoa hb.1 hb.2
  rw [h1] at this
  rw [this]

end Go.Proofs.YtokpbanandikpaaDoor

set_option maxRecDepth 100000
set_option linter.unusedVariables false
set_option linter.unusedSimpArgs false
namespace Go.Proofs.YtokpbanandikpaaDoor
open Go Go.V Go.Proofs
open Go.Lib
/-! ### the document's numbers -/
section
variable {w0 w : World} {Ls : List (List Ent)} {K : Value → World → Prop}
/-- What is written ahead of what has been written. -/
def digs (n : Int) (s : List UInt8) : List UInt8 := if 0 < n then decDigits n.toNat ++ s else if s = [] then decDigits 0 else s
theorem digs_step {n : Int} {s : List UInt8} (h : 0 < n ∨ (n = 0 ∧ s = [])) : digs n s = digs (n / 10) (UInt8.ofNat (48 + n.toNat % 10) :: s) := by
  rcases h with h | ⟨rfl, rfl⟩
  · unfold digs
    rw [if_pos h]
    rw [decDigits]
    by_cases h10 : n.toNat < 10
    · rw [dif_pos h10, if_neg (by omega), if_neg (by simp), Nat.mod_eq_of_lt h10]
      rfl
    · rw [dif_neg h10, if_pos (by omega), show (n / 10).toNat = n.toNat / 10 by omega]
      simp
  · simp [digs, decDigits]
theorem digs_len {n : Int} (h0 : 0 ≤ n) (h1 : n ≤ 9223372036854775807) (s : List UInt8) : (digs n s).length ≤ 19 + s.length := by
  have hd : ∀ u, u ≤ 9223372036854775808 → (decDigits u).length ≤ 19 := fun u hu => by
    rw [decDigits_length]
    exact nDigits_le 18 u (by omega)
  unfold digs
  split
  · have := hd n.toNat (by omega)
    rw [List.length_append]; omega
  · split
    · have := hd 0 (by omega); omega
    · omega
theorem cvs_byte {b : Nat} {x : Int} {K : ByteArray → Prop} (h0 : 0 ≤ x) (h1 : x ≤ 255) (hB : Blk w b 5 [.int .u8 x]) (hK : K (sB [UInt8.ofNat x.toNat])) : CvS Pg 61 9 (.slice (some ⟨b, 0, none⟩) 1 1) w K := by
  refine ⟨_, run_convert_bytes_arg w 61 5 (by kernel_rfl) (by kernel_rfl) b 0 1 1 [x] rfl (fun i hi => ?_) 9 (by kernel_rfl), ?_⟩
  · have : i = 0 := by omega
    subst this
    rw [hB.cell]; rfl
  · exact hK
set_option maxHeartbeats 1000000 in
theorem decimal_nn {n : Int} (h0 : 0 ≤ n) (h1 : n ≤ 9223372036854775807) (hK : ∀ w', Old w w' → K (.string (sB (itoa n))) w') : Ret Pg 25 [.int .i64 n] w K := by
  refine f25_ret ?_
  unfold f25
  refine bif_d (fun h => ?_) (fun h => ?_)
  · omega
  refine bif_d (fun h => ?_) (fun h => ?_)
  · omega
  have e : itoa n = digs n [] := by
    unfold itoa digs
    rw [if_neg (by omega)]
    split
    · simp
    · rw [if_pos rfl, show n.toNat = 0 by omega]
  have hO := Owns.start (w := w)
  let Inv : Int → ByteArray → World → Prop := fun m t w' => 0 ≤ m ∧ m ≤ n ∧ ∃ s, sB s = t ∧ digs m s = digs n [] ∧ s.length ≤ 100 ∧ Owns w w' []
  refine LoopP_intro (ann := f25_ann) follows (fun x w => Inv x.1 x.2.1 w) (fun x _ => x.1.toNat + if x.2.1.size = 0 then 1 else 0) ⟨h0, Int.le_refl _, [], rfl, rfl, by simp, hO⟩ (fun x w h => (f25_l0_eq _ _ _ _ _).mpr ?_)
  suffices S : ∀ (m : Int) (t : ByteArray), Inv m t w → f25_l0 m t w (fun x w => Inv x.1 x.2.1 w ∧ (x.1.toNat + if x.2.1.size = 0 then 1 else 0) < (m.toNat + if t.size = 0 then 1 else 0)) _ from S _ _ h
  clear h x hO
  rintro m _ ⟨hm0, hmn, s, rfl, hd, hsl, hO⟩
  have step : ∀ (K0 : Tup f25_l0_o0 → World → Prop), (0 < m ∨ (m = 0 ∧ s = [])) → f25_j1 m (sB s) w (fun x w => Inv x.1 x.2.1 w ∧ (x.1.toNat + if x.2.1.size = 0 then 1 else 0) < (m.toNat + if (sB s).size = 0 then 1 else 0)) K0 := by
    intro K0 hc
    unfold f25_j1
    refine new_i hO fun b _ hO => ?_
    have e1 : Int.tmod m 10 = m % 10 := Int.tmod_eq_emod_of_nonneg hm0
    have e2 : Int.tdiv m 10 = m / 10 := Int.tdiv_eq_ediv_of_nonneg hm0
    have e3 : IntKind.wrap .u8 (IntKind.wrap .i64 (48 + m % 10)) = 48 + m % 10 := by
      rw [wrap64 (by omega) (by omega)]
      unfold IntKind.wrap
      simp only [IntKind.bits, IntKind.signed, Bool.false_and, Bool.false_eq_true, if_false]
      omega
    have hB := hO.row 0 0 rfl
    rw [e1, e3] at hB
    refine cvs_byte (by omega) (by omega) hB ?_
    rw [sB_app, e2, wrap64 (by omega) (by omega)]
    have hc1 : UInt8.ofNat (48 + m % 10).toNat = UInt8.ofNat (48 + m.toNat % 10) := by
      congr 1; omega
    refine ⟨by rw [sB_size, sB_size]; simp; omega, ⟨?_, ?_, _, rfl, ?_, ?_, hO.drop⟩, ?_⟩
    · show 0 ≤ m / 10; omega
    · show m / 10 ≤ n; omega
    · show digs (m / 10) _ = _
      rw [hc1, ← hd]
      exact (digs_step hc).symm
    · have hl2 : (UInt8.ofNat (48 + m % 10).toNat :: s).length ≤ 100 := by
        have h3 := digs_step hc
        have h4 := digs_len h0 h1 []
        rw [← hd, h3] at h4
        have h5 : (UInt8.ofNat (48 + m.toNat % 10) :: s).length ≤ (digs (m / 10) (UInt8.ofNat (48 + m.toNat % 10) :: s)).length := by
          unfold digs
          split
          · simp
          · rw [if_neg (by simp)]
            exact Nat.le_refl _
        simp only [List.length_cons, List.length_nil] at h4 h5 ⊢
        omega
      exact hl2
    · show ((m / 10).toNat + if (sB ([_] ++ s)).size = 0 then 1 else 0) < _
      rw [if_neg (by rw [sB_size]; simp)]
      rcases hc with hc | ⟨rfl, rfl⟩
      · split <;> omega
      · rw [if_pos (by rfl)]; omega
  unfold f25_l0
  refine bif_d (fun hm => ?_) (fun hm => ?_)
  · exact step _ (.inl (by omega))
  · rw [sB_beq]
    refine bif_d (fun hs => ?_) (fun hs => ?_)
    · exact step _ (.inr ⟨by omega, hs⟩)
    · have hf : s = digs n [] := by
        rw [← hd]
        unfold digs
        rw [if_neg (by omega), if_neg hs]
      rw [hf, ← e]
      exact hK _ hO.old
theorem decimal_spec {n : Int} (h0 : -9223372036854775808 ≤ n) (h1 : n ≤ 9223372036854775807) (hK : ∀ w', Old w w' → K (.string (sB (itoa n))) w') : Ret Pg 25 [.int .i64 n] w K := by
  by_cases hn : 0 ≤ n
  · exact decimal_nn hn h1 hK
  refine f25_ret ?_
  unfold f25
  refine bif_d (fun h => ?_) (fun h => ?_)
  · subst h
    have e : itoa (-9223372036854775808) = [45, 57, 50, 50, 51, 51, 55, 50, 48, 51, 54, 56, 53, 52, 55, 55, 53, 56, 48, 56] := by
      unfold itoa
      rw [if_pos (by omega)]
      congr 1
      simp (config := { decide := true }) [decDigits]
    rw [← e]
    exact hK _ (Old.refl w)
  refine bif_d (fun h => ?_) (fun h => ?_)
  · rw [wrap64 (by omega) (by omega)]
    refine decimal_nn (by omega) (by omega) fun w' ho => ?_
    have e : itoa n = [45] ++ itoa (0 - n) := by
      unfold itoa
      rw [if_pos (by omega), if_neg (by omega), show n.natAbs = (0 - n).toNat by omega]
      rfl
    have hl := itoa_length_le (0 - n) (by omega) (by omega)
    refine ⟨_, rfl, by rw [sB_size, sB_size, List.length_singleton]; omega, ?_⟩
    rw [sB_app, ← e]
    exact hK _ ho
  · omega
/-- A text's number, by the document. -/
theorem number_ref {l : List UInt8} (hK : ∀ w', Old w w' → K (.tuple ⟨[.int .i64 (numR l).1, .bool (numR l).2]⟩) w') : Ret Pg 21 [.string (sB l)] w K := by
  refine f21_ret ?_
  unfold f21
  rw [sB_size]
  unfold numR at hK
  refine bif_d (fun h0 => ?_) (fun h0 => ?_)
  · rw [if_pos (by omega)] at hK
    exact hK _ (Old.refl w)
  refine bif_d (fun h1 => ?_) (fun h1 => ?_)
  · rw [if_pos (by omega)] at hK
    exact hK _ (Old.refl w)
  rw [if_neg (by omega)] at hK
  unfold f21_j1
  obtain ⟨c, r, rfl⟩ : ∃ c r, l = c :: r := by
    cases l with
    | nil => simp at h0
    | cons c r => exact ⟨c, r, rfl⟩
  let at_ : Int → Int → Option Int := fun n i => if i = 0 then numL (isNeg (c :: r)) n (magL (c :: r)) else numL (isNeg (c :: r)) n ((c :: r).drop i.toNat)
  let Inv : ByteArray → Int → Int → World → Prop := fun t n i w' => sB (c :: r) = t ∧ 0 ≤ i ∧ i ≤ (c :: r).length ∧ at_ n i = numL (isNeg (c :: r)) 0 (magL (c :: r)) ∧ Old w w'
  refine LoopP_intro (ann := f21_ann) follows (fun x w => Inv x.1 x.2.1 x.2.2.1 w) (fun x _ => ((c :: r).length - x.2.2.1 : Int).toNat) ⟨rfl, Int.le_refl 0, Int.natCast_nonneg _, rfl, Old.refl w⟩ (fun x w h => (f21_l0_eq _ _ _ _ _ _ _).mpr ?_)
  suffices S : ∀ (t : ByteArray) (n : Int) (i : Int), Inv t n i w → f21_l0 t n i w (fun x w => Inv x.1 x.2.1 x.2.2.1 w ∧ ((c :: r).length - x.2.2.1 : Int).toNat < ((c :: r).length - i : Int).toNat) _ _ from S _ _ _ h
  clear h x
  try clear hO
  rintro _ n i ⟨rfl, hi0, hi1, hat, ho⟩
  have hneg : isNeg (c :: r) = decide (c = 45) := by unfold isNeg; simp
  unfold f21_l0
  rw [sB_size]
  refine bif_d (fun hi => ?_) (fun hi => ?_)
  · obtain ⟨x, hx⟩ : ∃ x, (c :: r)[i.toNat]? = some x := ⟨_, List.getElem?_eq_getElem (by omega)⟩
    have hdrop : (c :: r).drop i.toNat = x :: (c :: r).drop (i.toNat + 1) := by
      obtain ⟨hl, he⟩ := List.getElem?_eq_some_iff.1 hx
      rw [List.drop_eq_getElem_cons hl, he]
    have hei : IntKind.wrap .i64 (i + 1) = i + 1 := wrap64 (by omega) (by omega)
    have hxg : (sB (c :: r))[i.toNat]? = some x := by rw [sB_get, hx]
    have meas : ((c :: r).length - (i + 1) : Int).toNat < ((c :: r).length - i : Int).toNat := by omega
    have digit : ((i = 0 → c ≠ 45)) → ∀ Kn K0 Kr, (∀ n', at_ n' (i + 1) = numL (isNeg (c :: r)) 0 (magL (c :: r)) → Kn ⟨sB (c :: r), n', i + 1, ()⟩ w) → (numL (isNeg (c :: r)) 0 (magL (c :: r)) = none → Kr ⟨0, false, ()⟩ w) → f21_j2 (sB (c :: r)) n i w Kn K0 Kr := by
      intro hc Kn K0 Kr hKn hKr
      have hcur : numL (isNeg (c :: r)) n (x :: (c :: r).drop (i.toNat + 1)) = numL (isNeg (c :: r)) 0 (magL (c :: r)) := by
        rw [← hat, ← hdrop]
        show _ = if i = 0 then _ else _
        by_cases hz : i = 0
        · subst hz
          rw [if_pos rfl]
          have : magL (c :: r) = c :: r := by unfold magL; rw [hneg, decide_eq_false (hc rfl)]; rfl
          rw [this]
          rfl
        · rw [if_neg hz]
      unfold f21_j2
      refine ⟨x, ⟨hi0, hxg⟩, ?_⟩
      simp only [numL] at hcur
      refine bif_d (fun h48 => ?_) (fun h48 => ?_)
      · rw [if_neg (by omega)] at hcur
        exact hKr hcur.symm
      refine ⟨x, ⟨hi0, hxg⟩, ?_⟩
      refine bif_d (fun h57 => ?_) (fun h57 => ?_)
      · rw [if_neg (by omega)] at hcur
        exact hKr hcur.symm
      rw [if_pos (by omega)] at hcur
      unfold f21_j3
      refine ⟨c, ⟨Int.le_refl 0, by rw [sB_get]; rfl⟩, ?_⟩
      have hd : IntKind.wrap .i64 (IntKind.wrap .u8 (((x.toNat : Nat) : Int) - 48)) = ((x.toNat - 48 : Nat) : Int) := by
        have : IntKind.wrap .u8 (((x.toNat : Nat) : Int) - 48) = ((x.toNat - 48 : Nat) : Int) := by
          unfold IntKind.wrap
          simp only [IntKind.bits, IntKind.signed, Bool.false_and, Bool.false_eq_true, if_false]
          omega
        rw [this, wrap64 (by omega) (by omega)]
      have hfin : ∀ n', numL (isNeg (c :: r)) n' ((c :: r).drop (i.toNat + 1)) = numL (isNeg (c :: r)) 0 (magL (c :: r)) → at_ n' (i + 1) = numL (isNeg (c :: r)) 0 (magL (c :: r)) := fun n' h => by
        show (if i + 1 = 0 then _ else _) = _
        rw [if_neg (by omega), show (i + 1).toNat = i.toNat + 1 by omega]
        exact h
      refine bif_d (fun h45 => ?_) (fun h45 => ?_)
      · refine ⟨x, ⟨hi0, hxg⟩, ?_⟩
        have hc45 : c = 45 := UInt8.toNat_inj.1 (by simp; omega)
        rw [hei, hd]
        refine hKn _ (hfin _ ?_)
        rw [← hcur, hneg, decide_eq_true hc45]
        rfl
      · refine ⟨x, ⟨hi0, hxg⟩, ?_⟩
        have hc45 : c ≠ 45 := fun e => h45 (by subst e; rfl)
        rw [hei, hd]
        refine hKn _ (hfin _ ?_)
        rw [← hcur, hneg, decide_eq_false hc45]
        rfl
    have fin : ∀ n', at_ n' (i + 1) = numL (isNeg (c :: r)) 0 (magL (c :: r)) → Inv (sB (c :: r)) n' (i + 1) w ∧ ((c :: r).length - (i + 1) : Int).toNat < ((c :: r).length - i : Int).toNat := fun n' h => ⟨⟨rfl, by omega, by omega, h, ho⟩, meas⟩
    refine ⟨x, ⟨hi0, hxg⟩, ?_⟩
    refine bif_d (fun hx45 => ?_) (fun hx45 => ?_)
    · refine bif_d (fun hi2 => ?_) (fun hi2 => ?_)
      · subst hi2
        rw [hei]
        refine fin _ ?_
        have hxc : c = x := by simpa using hx
        have hc45 : c = 45 := UInt8.toNat_inj.1 (by rw [hxc]; simp; omega)
        show (if (0 : Int) + 1 = 0 then _ else _) = _
        rw [if_neg (by omega)]
        have h2 : at_ n 0 = numL (isNeg (c :: r)) n (magL (c :: r)) := rfl
        rw [← hat, h2]
        have : magL (c :: r) = r := by unfold magL; rw [hneg, decide_eq_true hc45]; rfl
        rw [this]
        rfl
      · refine digit (fun h => absurd h hi2) _ _ _ fin fun hnone => ?_
        rw [hnone] at hK
        exact hK _ ho
    · refine digit (fun h e => hx45 ?_) _ _ _ fin fun hnone => ?_
      · subst h
        have hxc : c = x := by simpa using hx
        rw [← hxc, e]; rfl
      · rw [hnone] at hK
        exact hK _ ho
  · have hie : i = (c :: r).length := by omega
    have hn : numL (isNeg (c :: r)) 0 (magL (c :: r)) = some n := by
      rw [← hat]
      show (if i = 0 then _ else _) = _
      rw [if_neg (by rw [hie]; simp; omega), List.drop_of_length_le (by omega)]
      rfl
    rw [hn] at hK
    have hb := numL_bound (by omega) hn
    refine decimal_spec hb.1 hb.2 fun w2 ho2 => ?_
    refine ⟨_, rfl, ?_⟩
    rw [sB_beq]
    exact hK _ (ho.trans ho2)
end

end Go.Proofs.YtokpbanandikpaaDoor

set_option maxRecDepth 100000
set_option linter.unusedVariables false
set_option linter.unusedSimpArgs false
namespace Go.Proofs.YtokpbanandikpaaDoor
open Go Go.V Go.Proofs
open Go.Lib
/-! ### entries and their lines -/
def wordTab : List (List UInt8) := [[], [97, 108, 108, 111, 99], [110, 105, 108], [100, 117, 112], [100, 114, 111, 112], [108, 111, 97, 100], [108, 105, 110, 107], [115, 101, 116], [103, 101, 116], [99, 111, 108, 108, 101, 99, 116], [115, 116, 101, 112], [114, 117, 110], [99, 111, 117, 110, 116]]
def manyTab : List Int := [0, 4, 0, 1, 0, 2, 3, 3, 2, 0, 2, 0, 0]
def wordI (op : Int) : List UInt8 := if op < 1 ∨ 12 < op then [] else (wordTab[op.toNat]?).getD []
def manyI (op : Int) : Int := if op < 1 ∨ 12 < op then -1 else (manyTab[op.toNat]?).getD 0
def goodI (op : Int) (ns : List Int) : Bool := decide (0 ≤ manyI op ∧ ∀ x ∈ ns.drop (manyI op).toNat, x = 0)
def textI (op : Int) (ns : List Int) : List UInt8 := wordI op ++ joinT ((ns.take (manyI op).toNat).map itoa)
theorem op_cases {op : Int} (h : ¬ (op < 1 ∨ 12 < op)) : op = 1 ∨ op = 2 ∨ op = 3 ∨ op = 4 ∨ op = 5 ∨ op = 6 ∨ op = 7 ∨ op = 8 ∨ op = 9 ∨ op = 10 ∨ op = 11 ∨ op = 12 := by omega
theorem manyI_bound (op : Int) : -1 ≤ manyI op ∧ manyI op ≤ 4 ∧ (0 ≤ manyI op ↔ ¬ (op < 1 ∨ 12 < op)) := by
  unfold manyI
  split
  · simp_all
  · rename_i h
    rcases op_cases h with rfl | rfl | rfl | rfl | rfl | rfl | rfl | rfl | rfl | rfl | rfl | rfl <;> simp [manyTab]
theorem wordI_len (op : Int) : (wordI op).length ≤ 7 := by
  unfold wordI
  split
  · simp
  · rename_i h
    rcases op_cases h with rfl | rfl | rfl | rfl | rfl | rfl | rfl | rfl | rfl | rfl | rfl | rfl <;> simp [wordTab]
theorem wordI_noSp (op : Int) : noSp (wordI op) := by
  unfold wordI noSp
  split
  · intro c hc; cases hc
  · rename_i h
    rcases op_cases h with rfl | rfl | rfl | rfl | rfl | rfl | rfl | rfl | rfl | rfl | rfl | rfl <;> decide
/-- The Op of a word; 0: none's. -/
def opOf (p : List UInt8) : Int := idxFrom 12 p
where idxFrom : Nat → List UInt8 → Int
  | 0, _ => 0
  | k + 1, p => if wordI ((12 - k : Nat) : Int) = p then ((12 - k : Nat) : Int) else idxFrom k p
theorem opOf_bound (p : List UInt8) : 0 ≤ opOf p ∧ opOf p ≤ 12 := by
  have key : ∀ k, k ≤ 12 → 0 ≤ opOf.idxFrom k p ∧ opOf.idxFrom k p ≤ 12 := by
    intro k
    induction k with
    | zero => intro _; simp [opOf.idxFrom]
    | succ k ih =>
      intro hk
      unfold opOf.idxFrom
      split
      · omega
      · exact ih (by omega)
  exact key 12 (Nat.le_refl _)
def padI (l : List Int) : List Int := l ++ List.replicate (4 - l.length) 0
/-- A line's entry, by the document. -/
def parseRw (op : Int) (t : List (List UInt8)) : Option (Int × List Int) :=
  if op = 0 ∨ (t.length : Int) ≠ manyI op then none
  else if (t.all fun p => (numR p).2) = true then some (op, padI (t.map fun p => (numR p).1)) else none
def parseR (l : List UInt8) : Option (Int × List Int) := match splitS l with
  | [] => none
  | h :: t => parseRw (opOf h) t
/-- A line's entry, by the program. -/
def parsePw (l : List UInt8) (op : Int) (t : List (List UInt8)) : Option (Int × List Int) :=
  if op = 0 ∨ (t.length : Int) ≠ manyI op then none
  else if textI op (padI (t.map atoiV)) = l then some (op, padI (t.map atoiV)) else none
def parseP (l : List UInt8) : Option (Int × List Int) := match splitS l with
  | [] => none
  | h :: t => parsePw l (opOf h) t
theorem opOf_word {p : List UInt8} (h : opOf p ≠ 0) : wordI (opOf p) = p := by
  have key : ∀ k, opOf.idxFrom k p ≠ 0 → wordI (opOf.idxFrom k p) = p := by
    intro k
    induction k with
    | zero => intro h; exact absurd rfl h
    | succ k ih =>
      unfold opOf.idxFrom
      split
      · rename_i e; intro _; exact e
      · exact ih
  exact key 12 h
theorem opOf_wordI {op : Int} (h : ¬ (op < 1 ∨ 12 < op)) : opOf (wordI op) = op := by
  rcases op_cases h with rfl | rfl | rfl | rfl | rfl | rfl | rfl | rfl | rfl | rfl | rfl | rfl <;> decide
theorem padI_take (l : List Int) : (padI l).take l.length = l := by unfold padI; exact List.take_left' rfl
theorem padI_drop (l : List Int) : ∀ x ∈ (padI l).drop l.length, x = 0 := by
  intro x hx
  unfold padI at hx
  rw [List.drop_left' rfl] at hx
  exact List.eq_of_mem_replicate hx
theorem joinT_inj : ∀ {a b : List (List UInt8)}, (∀ p ∈ a, noSp p) → (∀ p ∈ b, noSp p) → joinT a = joinT b → a = b := by
  intro a b ha hb h
  have h1 := splitS_joinT (h := []) (t := a) (fun c hc => by cases hc) ha
  have h2 := splitS_joinT (h := []) (t := b) (fun c hc => by cases hc) hb
  rw [h] at h1
  rw [h1] at h2
  injection h2
theorem text_iff {l : List UInt8} {op : Int} {h : List UInt8} {t : List (List UInt8)} (e : splitS l = h :: t) (hop : wordI op = h) (ht : (t.length : Int) = manyI op) (f : List UInt8 → Int) :
    textI op (padI (t.map f)) = l ↔ ∀ p ∈ t, itoa (f p) = p := by
  have hl : l = h ++ joinT t := by
    have := join_splitS l
    rw [e] at this
    exact this.symm
  have hns : ∀ p ∈ t, noSp p := fun p hp => splitS_noSp l p (by rw [e]; simp [hp])
  have htk : (padI (t.map f)).take (manyI op).toNat = t.map f := by
    have : (manyI op).toNat = (t.map f).length := by rw [List.length_map]; omega
    rw [this]; exact padI_take _
  have e1 : textI op (padI (t.map f)) = h ++ joinT (t.map fun p => itoa (f p)) := by
    unfold textI
    rw [htk, hop, List.map_map]
    rfl
  rw [e1]
  constructor
  · intro heq p hp
    rw [hl] at heq
    have := joinT_inj (a := t.map fun p => itoa (f p)) (b := t) (fun q hq => by
      obtain ⟨x, _, rfl⟩ := List.mem_map.1 hq
      exact itoa_noSp _) hns (List.append_cancel_left heq)
    obtain ⟨i, hi⟩ := List.mem_iff_getElem?.1 hp
    have h3 : (t.map fun p => itoa (f p))[i]? = some (itoa (f p)) := by rw [List.getElem?_map, hi]; rfl
    rw [this, hi] at h3
    injection h3 with h3
    exact h3.symm
  · intro hall
    have : t.map (fun p => itoa (f p)) = t := by
      conv => rhs; rw [← List.map_id t]
      exact List.map_congr_left fun p hp => hall p hp
    rw [this, ← hl]
theorem parse_eq (l : List UInt8) : parseP l = parseR l := by
  unfold parseP parseR
  cases e : splitS l with
  | nil => exact absurd e (splitS_ne l)
  | cons h t =>
    simp only []
    unfold parsePw parseRw
    by_cases hc : opOf h = 0 ∨ (t.length : Int) ≠ manyI (opOf h)
    · rw [if_pos hc, if_pos hc]
    · rw [if_neg hc, if_neg hc]
      have hop : opOf h ≠ 0 := fun h0 => hc (.inl h0)
      have hlen : ((t.length : Int)) = manyI (opOf h) := Classical.byContradiction fun hh => hc (.inr hh)
      have key : (textI (opOf h) (padI (t.map atoiV)) = l) ↔ (t.all fun p => (numR p).2) = true := by
        rw [text_iff e (opOf_word hop) hlen atoiV, List.all_eq_true]
        exact ⟨fun hh p hp => (num_iff p).1 (hh p hp), fun hh p hp => (num_iff p).2 (hh p hp)⟩
      by_cases hk : (t.all fun p => (numR p).2) = true
      · rw [if_pos (key.2 hk), if_pos hk]
        have : t.map atoiV = t.map fun p => (numR p).1 := List.map_congr_left fun p hp => num_eq ((List.all_eq_true.1 hk) p hp)
        rw [this]
      · rw [if_neg fun hh => hk (key.1 hh), if_neg hk]
theorem parseR_some {l : List UInt8} {op : Int} {ns : List Int} (h : parseR l = some (op, ns)) : goodI op ns = true ∧ textI op ns = l ∧ ns.length = 4 ∧ (∀ x ∈ ns, -9223372036854775808 ≤ x ∧ x ≤ 9223372036854775807) ∧ 1 ≤ op ∧ op ≤ 12 := by
  rw [← parse_eq] at h
  unfold parseP at h
  cases e : splitS l with
  | nil => exact absurd e (splitS_ne l)
  | cons hd t =>
    rw [e] at h
    simp only [] at h
    unfold parsePw at h
    by_cases hc : opOf hd = 0 ∨ (t.length : Int) ≠ manyI (opOf hd)
    · rw [if_pos hc] at h; cases h
    · rw [if_neg hc] at h
      split at h
      · rename_i ht
        simp only [Option.some.injEq, Prod.mk.injEq] at h
        obtain ⟨rfl, rfl⟩ := h
        have hb := opOf_bound hd
        have hop : opOf hd ≠ 0 := fun h0 => hc (.inl h0)
        have hm := manyI_bound (opOf hd)
        have hlen : ((t.length : Int)) = manyI (opOf hd) := Classical.byContradiction fun hh => hc (.inr hh)
        refine ⟨?_, ht, ?_, ?_, by omega, by omega⟩
        · unfold goodI
          refine decide_eq_true ⟨by omega, ?_⟩
          have : (manyI (opOf hd)).toNat = (t.map atoiV).length := by rw [List.length_map]; omega
          rw [this]
          exact padI_drop _
        · unfold padI
          simp
          omega
        · intro x hx
          unfold padI at hx
          rcases List.mem_append.1 hx with hx | hx
          · obtain ⟨p, _, rfl⟩ := List.mem_map.1 hx
            exact atoiV_bound p
          · rw [List.eq_of_mem_replicate hx]; omega
      · cases h
/-- A good entry is parsed as it. -/
theorem parse_text {op : Int} {ns : List Int} (h4 : ns.length = 4) (hg : goodI op ns = true) (hb : ∀ x ∈ ns, -9223372036854775808 ≤ x ∧ x ≤ 9223372036854775807) : parseP (textI op ns) = some (op, ns) := by
  have hg' := of_decide_eq_true hg
  obtain ⟨hm0, hz⟩ := hg'
  have hm := manyI_bound op
  have hop := hm.2.2.1 hm0
  have hs : splitS (textI op ns) = wordI op :: (ns.take (manyI op).toNat).map itoa := by
    unfold textI
    exact splitS_joinT (wordI_noSp op) fun p hp => by
      obtain ⟨x, _, rfl⟩ := List.mem_map.1 hp
      exact itoa_noSp x
  have hpad : padI (((ns.take (manyI op).toNat).map itoa).map atoiV) = ns := by
    have e1 : ((ns.take (manyI op).toNat).map itoa).map atoiV = ns.take (manyI op).toNat := by
      rw [List.map_map]
      conv => rhs; rw [← List.map_id (ns.take (manyI op).toNat)]
      exact List.map_congr_left fun x hx => by
        have := hb x (List.mem_of_mem_take hx)
        exact atoiV_itoa this.1 this.2
    rw [e1]
    unfold padI
    conv => rhs; rw [← List.take_append_drop (manyI op).toNat ns]
    congr 1
    refine List.ext_getElem? fun i => ?_
    rw [List.getElem?_replicate]
    split
    · rename_i hi
      simp at hi
      have hlt : i < (ns.drop (manyI op).toNat).length := by simp; omega
      rw [List.getElem?_eq_getElem hlt, hz _ (List.getElem_mem hlt)]
    · rename_i hi
      simp at hi
      rw [List.getElem?_eq_none (by simp; omega)]
  unfold parseP
  rw [hs]
  simp only []
  unfold parsePw
  rw [hpad, if_neg (by
    rw [opOf_wordI hop]
    intro hc
    rcases hc with hc | hc
    · omega
    · exact hc (by simp; omega)), if_pos (by rw [opOf_wordI hop]), opOf_wordI hop]

end Go.Proofs.YtokpbanandikpaaDoor

set_option maxRecDepth 100000
set_option linter.unusedVariables false
set_option linter.unusedSimpArgs false
namespace Go.Proofs.YtokpbanandikpaaDoor
open Go Go.V Go.Proofs
open Go.Lib Go.RowKit Go.Sort
/-! ### the package's variables; the library's functions -/
structure Glb (w : World) : Prop where
  words : ∀ (i : Nat) x, wordTab[i]? = some x → w.cell? ⟨0, i, none⟩ = some (.string (sB x))
  many : ∀ (i : Nat) x, manyTab[i]? = some x → w.cell? ⟨1, i, none⟩ = some (.int .i64 x)
  syn : ∃ t p, w.var? Pg "strconv.ErrSyntax" = some #[.iface t p]
  rng : ∃ t p, w.var? Pg "strconv.ErrRange" = some #[.iface t p]
  ml : ∃ m, w.cell? ⟨4, 0, none⟩ = some (.int .i64 m)
  tab : TabIs Pg w "internal/strconv.uint64pow10" .u64 pow10Tab
theorem var_old {w w' : World} (ho : Old w w') {n : String} {cs : Array Value} (h : w.var? Pg n = some cs) : w'.var? Pg n = some cs := by
  unfold World.var? at h ⊢
  cases hg : Pg.globalNamed n with
  | none => rw [hg] at h; cases h
  | some g =>
    rw [hg] at h
    simp only [Option.bind_some] at h ⊢
    cases ho' : w.heap[g]? with
    | none => rw [ho'] at h; cases h
    | some o => rw [ho'] at h; rw [ho.get ho']; exact h
theorem Glb.old {w w' : World} (h : Glb w) (ho : Old w w') : Glb w' :=
  ⟨fun i x hx => ho.cell (h.words i x hx), fun i x hx => ho.cell (h.many i x hx), let ⟨t, p, e⟩ := h.syn; ⟨t, p, var_old ho e⟩, let ⟨t, p, e⟩ := h.rng; ⟨t, p, var_old ho e⟩, let ⟨m, e⟩ := h.ml; ⟨m, ho.cell e⟩, var_old ho h.tab⟩
theorem Below.old' {w w' : World} (h : Below w.heap.size w w') : Old w w' := ⟨h.size, h.block, h.os, h.output⟩
section
variable {w : World} {K : Value → World → Prop}
theorem itoa_lib {n : Int} (h0 : -9223372036854775808 ≤ n) (h1 : n ≤ 9223372036854775807) (hG : Glb w) (hK : ∀ w', Old w w' → K (.string (sB (itoa n))) w') : Ret Pg 24 [.int .i64 n] w K := by
  refine Calls.mono (Tryd.strconv_Itoa n h0 h1 w hG.tab) ?_
  rintro e w' ⟨rfl, k, os, rfl⟩
  refine ⟨_, rfl, hK _ ?_⟩
  refine ⟨by simp [grow, World.drewN], fun b hb => ?_, rfl, rfl⟩
  show (w.heap ++ os)[b]? = _
  rw [Array.getElem?_append_left hb]
theorem atoi_lib {l : List UInt8} (hl : l.length ≤ 100000) (hG : Glb w) (hK : ∀ v w', Old w w' → K (.tuple ⟨[.int .i64 (atoiV l), v]⟩) w') : Ret Pg 19 [.string (sB l)] w K := by
  have hs : (sB l).size ≤ 281474976710656 := by rw [sB_size]; omega
  unfold atoiV at hK
  cases h : atoiAll l with
  | ok v =>
    rw [h] at hK
    refine Calls.mono (Tryd.strconv_Atoi_ok (sB l) (by omega) v h w) ?_
    rintro e w' ⟨rfl, rfl | ⟨t, rfl⟩⟩
    · exact ⟨_, rfl, hK _ _ (Old.refl _)⟩
    · exact ⟨_, rfl, hK _ _ (Below.old' (bytesWorld_below w _ t))⟩
  | range =>
    rw [h] at hK
    obtain ⟨tp, p, hv⟩ := hG.rng
    refine Calls.mono (Tryd.strconv_Atoi_range_var (sB l) hs h tp p w hv) ?_
    rintro e w' ⟨N, rfl, _, _, hb⟩
    exact ⟨_, rfl, hK _ _ (Below.old' hb)⟩
  | _ =>
    rw [h] at hK
    obtain ⟨tp, p, hv⟩ := hG.syn
    refine Calls.mono (Tryd.strconv_Atoi_syntax_var (sB l) hs h tp p w hv) ?_
    rintro e w' ⟨N, rfl, _, _, hb⟩
    exact ⟨_, rfl, hK _ _ (Below.old' hb)⟩
theorem split_lib {l : List UInt8} (hl : l.length ≤ 100000) (hG : Glb w) (hK : ∀ b w', Owns w w' [[cl b 9 ((splitS l).map fun p => .string (sB p))]] → K (.slice (some ⟨b, 0, none⟩) (splitS l).length (splitS l).length) w') : Ret Pg 17 [.string (sB l), .string (sB [32])] w K := by
  obtain ⟨m, hm⟩ := hG.ml
  refine Calls.mono (Tryd.strings_Split (sB l) (sB [32]) m w (by rw [sB_size]; omega) hm (by rw [sB_size]; simp)) ?_
  rintro e w' ⟨rfl, rfl⟩
  have hS := splitB_S (sB l)
  rw [sB_data] at hS
  have hlen : countB (sB l) (sB [32]) + 1 = (splitS l).length := by
    rw [← hS, List.length_map, splitB_all _ (by rw [sB_size]; simp) 0 _ _ rfl]
  have hcs : ((splitB (sB [32]) 0 (countB (sB l) (sB [32])) (sB l)).map Value.string) = (splitS l).map fun p => .string (sB p) := by
    rw [← hS, List.map_map]
    rfl
  refine ⟨_, rfl, ?_⟩
  rw [hlen, hcs]
  refine hK _ _ ?_
  have := (Owns.start (w := w)).alloc (.cells ⟨(splitS l).map fun p => .string (sB p)⟩ 9)
  exact this
theorem idxOfS_op (p : List UInt8) : idxOfS (wordTab.tail.map sB) (sB p) + 1 = opOf p := by
  have key : ∀ (k : Nat), k ≤ 12 → idxFromS ((wordTab.drop (13 - k)).map sB) (sB p) (12 - k) + 1 = opOf.idxFrom k p ∨ (idxFromS ((wordTab.drop (13 - k)).map sB) (sB p) (12 - k) = -1 ∧ opOf.idxFrom k p = 0) := by
    intro k
    induction k with
    | zero => intro _; exact .inr ⟨rfl, rfl⟩
    | succ k ih =>
      intro hk
      have hlt : 13 - (k + 1) < wordTab.length := by simp [wordTab]; omega
      have hd : wordTab.drop (13 - (k + 1)) = wordTab[13 - (k + 1)] :: wordTab.drop (13 - k) := by
        rw [List.drop_eq_getElem_cons hlt]
        congr 2
        omega
      have hw : wordI ((12 - k : Nat) : Int) = wordTab[13 - (k + 1)] := by
        unfold wordI
        rw [if_neg (by omega), Int.toNat_natCast, List.getElem?_eq_getElem (by simp [wordTab]; omega)]
        simp only [Option.getD_some]
        congr 1
        omega
      rw [hd, List.map_cons]
      unfold opOf.idxFrom
      rw [hw]
      simp only [idxFromS]
      by_cases he : wordTab[13 - (k + 1)] = p
      · left
        rw [if_pos (by rw [he]), if_pos he]
        omega
      · rw [if_neg (fun h => he (sB_inj h)), if_neg he, show 12 - (k + 1) + 1 = 12 - k by omega]
        exact ih (by omega)
  rcases key 12 (Nat.le_refl _) with h | ⟨h1, h2⟩
  · exact h
  · show idxFromS _ _ 0 + 1 = opOf.idxFrom 12 p
    rw [h2]
    have h1 : idxFromS (wordTab.tail.map sB) (sB p) 0 = -1 := h1
    rw [h1]; rfl
theorem index_lib {p : List UInt8} (hG : Glb w) (hK : K (.int .i64 (opOf p - 1)) w) : Ret Pg 18 [.slice (some ⟨0, 1, none⟩) 12 12, .string (sB p)] w K := by
  refine Calls.mono (Tryd.slices_Index_string 0 1 12 12 (wordTab.tail.map sB) (sB p) w (by simp [wordTab]) (by omega) (fun j hj => ?_)) ?_
  · have hj' : j < 12 := by simpa [wordTab] using hj
    have hlt : 1 + j < wordTab.length := by simp [wordTab]; omega
    rw [hG.words (1 + j) _ (List.getElem?_eq_getElem hlt)]
    congr 2
    have h1 : (wordTab.tail.map sB)[j]? = some (sB wordTab[1 + j]) := by
      rw [List.getElem?_map, List.getElem?_tail, show j + 1 = 1 + j by omega, List.getElem?_eq_getElem hlt]
      rfl
    rw [List.getD_eq_getElem?_getD, h1]
    rfl
  · rintro e w' ⟨rfl, rfl⟩
    refine ⟨_, rfl, ?_⟩
    have e1 : (wordTab.tail.map sB).take 12 = wordTab.tail.map sB := List.take_of_length_le (by simp [wordTab])
    have e2 := idxOfS_op p
    rw [e1, show idxOfS (wordTab.tail.map sB) (sB p) = opOf p - 1 by omega]
    exact hK
end

end Go.Proofs.YtokpbanandikpaaDoor

set_option maxRecDepth 100000
set_option linter.unusedVariables false
set_option linter.unusedSimpArgs false
namespace Go.Proofs.YtokpbanandikpaaDoor
open Go Go.V Go.Proofs
open Go.Lib Go.RowKit Go.Sort
/-! ### numbers of an Op, its word; a good entry -/
section
variable {w : World} {K : Value → World → Prop}
theorem smany_spec {op : Int} (hG : Glb w) (hK : K (.int .i64 (manyI op)) w) : Ret Pg 14 [.int .i64 op] w K := by
  refine f14_ret ?_
  unfold f14
  unfold manyI at hK
  refine bif_d (fun h0 => ?_) (fun h0 => ?_)
  · rw [if_pos (by omega)] at hK; exact hK
  refine bif_d (fun h1 => ?_) (fun h1 => ?_)
  · rw [if_pos (by omega)] at hK; exact hK
  rw [if_neg (by omega)] at hK
  have hlt : op.toNat < manyTab.length := by simp [manyTab]; omega
  refine ⟨by omega, by omega, ?_⟩
  refine LI_i (n := manyTab[op.toNat]) (by rw [at_mk, show 0 + op.toNat * 1 = op.toNat by omega]; exact hG.many _ _ (List.getElem?_eq_getElem hlt)) ?_
  rw [List.getElem?_eq_getElem hlt] at hK
  exact hK
theorem rmany_spec {op : Int} (hK : K (.int .i64 (manyI op)) w) : Ret Pg 13 [.int .i64 op] w K := by
  refine f13_ret ?_
  by_cases h : op < 1 ∨ 12 < op
  · unfold manyI at hK
    rw [if_pos h] at hK
    unfold f13 f13_j1 f13_j2
    have e : ∀ k : Int, 1 ≤ k → k ≤ 12 → (op == k) = false := fun k h1 h2 => by rw [beq_eq_false_iff_ne]; omega
    rw [e 1 (by omega) (by omega), e 2 (by omega) (by omega), e 3 (by omega) (by omega), e 4 (by omega) (by omega), e 5 (by omega) (by omega), e 6 (by omega) (by omega), e 7 (by omega) (by omega), e 8 (by omega) (by omega), e 9 (by omega) (by omega), e 10 (by omega) (by omega), e 11 (by omega) (by omega), e 12 (by omega) (by omega)]
    exact hK
  · rcases op_cases h with rfl | rfl | rfl | rfl | rfl | rfl | rfl | rfl | rfl | rfl | rfl | rfl <;> exact hK
theorem word_ref {op : Int} (hK : ∀ w', Old w w' → K (.string (sB (wordI op))) w') : Ret Pg 20 [.int .i64 op] w K := by
  refine f20_ret ?_
  unfold f20
  have hO := Owns.start (w := w)
  refine new_i hO fun b _ hO => ?_
  unfold wordI at hK
  refine bif_d (fun h0 => ?_) (fun h0 => ?_)
  · rw [if_pos (by omega)] at hK; exact hK _ hO.old
  refine bif_d (fun h1 => ?_) (fun h1 => ?_)
  · rw [if_pos (by omega)] at hK; exact hK _ hO.old
  rw [if_neg (by omega)] at hK
  have hlt : op.toNat < wordTab.length := by simp [wordTab]; omega
  refine ⟨by omega, by omega, ?_⟩
  refine nn_i ?_
  have hc := hO.row 0 0 rfl
  have e : [Value.string (sB []), Value.string (sB [97, 108, 108, 111, 99]), Value.string (sB [110, 105, 108]), Value.string (sB [100, 117, 112]), Value.string (sB [100, 114, 111, 112]), Value.string (sB [108, 111, 97, 100]), Value.string (sB [108, 105, 110, 107]), Value.string (sB [115, 101, 116]), Value.string (sB [103, 101, 116]), Value.string (sB [99, 111, 108, 108, 101, 99, 116]), Value.string (sB [115, 116, 101, 112]), Value.string (sB [114, 117, 110]), Value.string (sB [99, 111, 117, 110, 116])] = wordTab.map fun x => .string (sB x) := rfl
  rw [e] at hc
  refine LT_i (n := sB wordTab[op.toNat]) (by rw [at_mk, show 0 + op.toNat * 1 = op.toNat by omega, hc.cell, List.getElem?_map, List.getElem?_eq_getElem hlt]; rfl) ?_
  rw [List.getElem?_eq_getElem hlt] at hK
  exact hK _ hO.old
def nzV : Value := .func (.func 23) ⟨[]⟩ ⟨[]⟩
theorem idxf_spec {p : Option Addr} {l c : Nat} {xs : List Int} (hl : l = xs.length) (hr : ∀ (i : Nat) x, xs[i]? = some x → ∃ a, p = some a ∧ w.cell? (Addr.at_ a (i : Int) 1) = some (.int .i64 x)) (hlen : xs.length ≤ 1000) (hK : ∀ n : Int, (0 ≤ n ↔ ∃ x ∈ xs, x ≠ 0) → K (.int .i64 n) w) : Ret Pg 30 [.slice p l c, nzV] w K := by
  refine f30_ret ?_
  unfold f30
  let w1 := w
  let Inv : Sl → Value → Int → Int → World → Prop := fun s v m i w' => (⟨p, l, c⟩ : Sl) = s ∧ nzV = v ∧ (l : Int) = m ∧ 0 ≤ i ∧ i ≤ l ∧ (∀ x ∈ xs.take i.toNat, x = 0) ∧ w' = w1
  refine LoopP_intro (ann := f30_ann) follows (fun x w => Inv x.1 x.2.1 x.2.2.1 x.2.2.2.1 w) (fun x _ => (l - x.2.2.2.1 : Int).toNat) ⟨rfl, rfl, rfl, Int.le_refl 0, Int.natCast_nonneg _, fun x hx => (by simp at hx), rfl⟩ (fun x w h => (f30_l0_eq _ _ _ _ _ _ _ _).mpr ?_)
  suffices S : ∀ (s : Sl) (v : Value) (m : Int) (i : Int), Inv s v m i w → f30_l0 s v m i w (fun x w => Inv x.1 x.2.1 x.2.2.1 x.2.2.2.1 w ∧ (l - x.2.2.2.1 : Int).toNat < (l - i : Int).toNat) _ _ from S _ _ _ _ h
  clear h x
  try clear hO
  rintro _ _ _ i ⟨rfl, rfl, rfl, h0, hi, hz, rfl⟩
  unfold f30_l0
  refine bif_d (fun hlt => ?_) (fun hlt => ?_)
  · obtain ⟨x, hx⟩ : ∃ x, xs[i.toNat]? = some x := ⟨_, List.getElem?_eq_getElem (by omega)⟩
    obtain ⟨a, hp, hc⟩ := hr _ _ hx
    rw [Int.toNat_of_nonneg h0] at hc
    refine ⟨h0, hlt, ?_⟩
    rw [hp]
    refine nn_i ?_
    refine LI_i hc ?_
    unfold nzV CvW
    have hb : hasBody Pg 23 = true := by kernel_rfl
    simp only [hb, cond_true]
    refine f23_ret ?_
    unfold f23
    refine ⟨_, rfl, ?_⟩
    refine bif_ne (fun hx0 => ?_) (fun hx0 => ?_)
    · refine hK i ⟨fun _ => ⟨x, List.mem_of_getElem? hx, hx0⟩, fun _ => h0⟩
    · rw [show IntKind.wrap .i64 (i + 1) = i + 1 from wrap64 (by omega) (by omega)]
      refine ⟨⟨by rw [hp], rfl, rfl, ?_, ?_, ?_, rfl⟩, ?_⟩
      · show 0 ≤ i + 1; omega
      · show i + 1 ≤ l; omega
      · show ∀ x ∈ xs.take (i + 1).toNat, x = 0
        intro y hy
        obtain ⟨hl2, he⟩ := List.getElem?_eq_some_iff.1 hx
        rw [show (i + 1).toNat = i.toNat + 1 by omega, List.take_succ_eq_append_getElem hl2, he] at hy
        rcases List.mem_append.1 hy with hy | hy
        · exact hz y hy
        · rw [List.mem_singleton.1 hy]; exact hx0
      · show (l - (i + 1) : Int).toNat < (l - i : Int).toNat; omega
  · refine hK (-1) ⟨fun h => by omega, ?_⟩
    rintro ⟨x, hx, hne⟩
    rw [List.take_of_length_le (by omega)] at hz
    exact absurd (hz x hx) hne
theorem good_spec {op n0 n1 n2 n3 : Int} (hG : Glb w) (hK : ∀ w', Old w w' → K (.bool (goodI op [n0, n1, n2, n3])) w') : Ret Pg 11 [.agg ⟨[.int .i64 op, .int .i64 n0, .int .i64 n1, .int .i64 n2, .int .i64 n3]⟩] w K := by
  refine f11_ret ?_
  unfold f11
  have hO := Owns.start (w := w)
  refine new_i hO fun b _ hO => ?_
  (refine li_i hO (k := 0) (j := 0) rfl rfl rfl ?_)
  refine smany_spec (hG.old hO.old) ?_
  refine ⟨_, rfl, ?_⟩
  have hm := manyI_bound op
  unfold goodI at hK
  refine bif_d (fun h0 => ?_) (fun h0 => ?_)
  · refine ⟨by omega, by omega, by omega, ?_⟩
    refine f22_ret ?_
    unfold f22
    refine idxf_spec (xs := [n0, n1, n2, n3].drop (manyI op).toNat) (by simp) (fun i x hx => ?_) (by simp; omega) fun n hn => ?_
    · rw [List.getElem?_drop] at hx
      have hB := hO.row 0 0 rfl
      have hlt : (manyI op).toNat + i < 4 := by
        have := (List.getElem?_eq_some_iff.1 hx).1
        simpa using this
      rw [if_neg (by omega)]
      refine ⟨_, rfl, ?_⟩
      simp only [add_mk, at_mk]
      rw [hB.cell]
      rw [show 0 + 1 + (manyI op).toNat * 1 + (i : Int).toNat * 1 = ((manyI op).toNat + i) + 1 by omega, List.getElem?_cons_succ]
      have : [Value.int .i64 n0, Value.int .i64 n1, Value.int .i64 n2, Value.int .i64 n3] = [n0, n1, n2, n3].map (.int .i64) := rfl
      rw [this, List.getElem?_map, hx]
      rfl
    · refine ⟨_, rfl, ?_⟩
      refine ⟨_, rfl, ?_⟩
      refine val_i (hK _ hO.old) ?_
      rw [Value.bool.injEq, Bool.eq_iff_iff]
      simp only [Bool.not_eq_true', decide_eq_false_iff_not, decide_eq_true_eq, ge_iff_le]
      constructor
      · rintro ⟨_, hz⟩ hc
        obtain ⟨x, hx, hne⟩ := hn.1 hc
        exact hne (hz x hx)
      · intro hc
        refine ⟨h0, fun x hx => Classical.byContradiction fun hne => hc (hn.2 ⟨x, hx, hne⟩)⟩
  · refine val_i (hK _ hO.old) ?_
    rw [Value.bool.injEq]
    exact decide_eq_false (fun h => h0 h.1)
end

end Go.Proofs.YtokpbanandikpaaDoor

set_option maxRecDepth 100000
set_option linter.unusedVariables false
set_option linter.unusedSimpArgs false
namespace Go.Proofs.YtokpbanandikpaaDoor
open Go Go.V Go.Proofs
open Go.Lib Go.RowKit Go.Sort
/-! ### a good entry's line -/
theorem joinT_app : ∀ (a b : List (List UInt8)), joinT (a ++ b) = joinT a ++ joinT b
  | [], _ => rfl
  | x :: r, b => by simp only [List.cons_append, joinT, joinT_app r b, List.append_assoc]
theorem joinT_len {l : List (List UInt8)} (h : ∀ p ∈ l, p.length ≤ 21) : (joinT l).length ≤ 22 * l.length := by
  induction l with
  | nil => simp [joinT]
  | cons x r ih =>
    have h1 := h x (by simp)
    have h2 := ih fun p hp => h p (by simp [hp])
    simp only [joinT, List.length_cons, List.length_append]
    omega
def b64 (x : Int) : Prop := -9223372036854775808 ≤ x ∧ x ≤ 9223372036854775807
theorem textI_len {op : Int} {ns : List Int} (h4 : ns.length = 4) (hb : ∀ x ∈ ns, b64 x) (j : Nat) : (wordI op ++ joinT ((ns.take j).map itoa)).length ≤ 95 := by
  have h1 := wordI_len op
  have h2 := joinT_len (l := (ns.take j).map itoa) fun p hp => by
    obtain ⟨x, hx, rfl⟩ := List.mem_map.1 hp
    have := hb x (List.mem_of_mem_take hx)
    exact itoa_length_le x this.1 this.2
  have h3 : ((ns.take j).map itoa).length ≤ 4 := by simp; omega
  rw [List.length_append]
  omega
theorem take_map_succ {ns : List Int} {i : Nat} {x : Int} (hx : ns[i]? = some x) (op : Int) : wordI op ++ joinT ((ns.take (i + 1)).map itoa) = (wordI op ++ joinT ((ns.take i).map itoa)) ++ (32 :: itoa x) := by
  obtain ⟨hl, he⟩ := List.getElem?_eq_some_iff.1 hx
  rw [List.take_succ_eq_append_getElem hl, he, List.map_append, joinT_app]
  simp [joinT]
section
variable {w : World} {K : Value → World → Prop}
theorem text_spec {op n0 n1 n2 n3 : Int} (hG : Glb w) (hb : ∀ x ∈ [n0, n1, n2, n3], b64 x) (hK : ∀ w', Old w w' → K (.string (sB (if goodI op [n0, n1, n2, n3] then textI op [n0, n1, n2, n3] else []))) w') : Ret Pg 12 [.agg ⟨[.int .i64 op, .int .i64 n0, .int .i64 n1, .int .i64 n2, .int .i64 n3]⟩] w K := by
  refine f12_ret ?_
  unfold f12
  have hO := Owns.start (w := w)
  refine new_i hO fun b _ hO => ?_
  refine ⟨_, _, _, _, _, ca_i hO (k := 0) (j := 0) rfl rfl, rfl, ?_⟩
  refine good_spec (hG.old hO.old) fun w2 ho => ?_
  replace hO := hO.after ho
  refine ⟨_, rfl, ?_⟩
  cases hg : goodI op [n0, n1, n2, n3] with
  | false =>
    rw [hg] at hK
    exact hK _ hO.old
  | true =>
    rw [hg, if_pos rfl] at hK
    have hg' := of_decide_eq_true hg
    have hm := manyI_bound op
    have hop := hm.2.2.1 hg'.1
    rw [Bool.not_true, cond_false]
    (refine li_i hO (k := 0) (j := 0) rfl rfl rfl ?_)
    have hlt : op.toNat < wordTab.length := by simp [wordTab]; omega
    have hlt2 : op.toNat < manyTab.length := by simp [manyTab]; omega
    have hG2 := hG.old hO.old
    have hw : wordTab[op.toNat] = wordI op := by
      unfold wordI
      rw [if_neg hop, List.getElem?_eq_getElem hlt]; rfl
    have hmm : manyTab[op.toNat] = manyI op := by
      unfold manyI
      rw [if_neg hop, List.getElem?_eq_getElem hlt2]; rfl
    refine ⟨by omega, by omega, ?_⟩
    refine LT_i (n := sB (wordI op)) (by rw [at_mk, show 0 + op.toNat * 1 = op.toNat by omega, ← hw]; exact hG2.words _ _ (List.getElem?_eq_getElem hlt)) ?_
    (refine li_i hO (k := 0) (j := 0) rfl rfl rfl ?_)
    refine ⟨by omega, by omega, ?_⟩
    refine LI_i (n := manyI op) (by rw [at_mk, show 0 + op.toNat * 1 = op.toNat by omega, ← hmm]; exact hG2.many _ _ (List.getElem?_eq_getElem hlt2)) ?_
    refine ⟨by omega, by omega, by omega, ?_⟩
    let ns := [n0, n1, n2, n3]
    let Inv : ByteArray → Sl → Int → Int → World → Prop := fun t s m i w' => ((⟨some (Addr.add ⟨b, 0, none⟩ 1), (manyI op).toNat, 4⟩ : Sl) = s) ∧ manyI op = m ∧ 0 ≤ i ∧ i ≤ manyI op ∧ sB (wordI op ++ joinT ((ns.take i.toNat).map itoa)) = t ∧ Owns w w' [[cl b 25 [.int .i64 op, .int .i64 n0, .int .i64 n1, .int .i64 n2, .int .i64 n3]]]
    refine LoopP_intro (ann := f12_ann) follows (fun x w => Inv x.1 x.2.1 x.2.2.1 x.2.2.2.1 w) (fun x _ => (manyI op - x.2.2.2.1 : Int).toNat) ⟨by simp [add_mk], by show manyI op = (((manyI op).toNat - 0 : Nat) : Int); omega, Int.le_refl 0, hg'.1, by simp [joinT], hO⟩ (fun x w h => (f12_l0_eq _ _ _ _ _ _ _).mpr ?_)
    suffices S : ∀ (t : ByteArray) (s : Sl) (m : Int) (i : Int), Inv t s m i w → f12_l0 t s m i w (fun x w => Inv x.1 x.2.1 x.2.2.1 x.2.2.2.1 w ∧ (manyI op - x.2.2.2.1 : Int).toNat < (manyI op - i : Int).toNat) _ from S _ _ _ _ h
    clear h x
    try clear hO
    rintro _ _ _ i ⟨rfl, rfl, h0, hi, rfl, hO⟩
    unfold f12_l0
    refine bif_d (fun hlt3 => ?_) (fun hlt3 => ?_)
    · obtain ⟨x, hx⟩ : ∃ x, ns[i.toNat]? = some x := ⟨_, List.getElem?_eq_getElem (show i.toNat < 4 by omega)⟩
      refine ⟨h0, by show i < (((manyI op).toNat : Nat) : Int); omega, ?_⟩
      refine nn_i ?_
      have hB := hO.row 0 0 rfl
      refine LI_i (n := x) (by
        rw [add_mk, at_mk, hB.cell, show 0 + 1 + i.toNat * 1 = i.toNat + 1 by omega, List.getElem?_cons_succ]
        have : [Value.int .i64 n0, Value.int .i64 n1, Value.int .i64 n2, Value.int .i64 n3] = ns.map (.int .i64) := rfl
        rw [this, List.getElem?_map, hx]; rfl) ?_
      have hxb := hb x (List.mem_of_getElem? hx)
      refine itoa_lib hxb.1 hxb.2 (hG.old hO.old) fun w3 ho => ?_
      replace hO := hO.after ho
      have hl1 := textI_len (op := op) (ns := ns) rfl hb i.toNat
      have hl2 := itoa_length_le x hxb.1 hxb.2
      refine ⟨_, rfl, by rw [sB_size, sB_size, List.length_singleton]; omega, by rw [sB_app, sB_size, sB_size]; simp only [List.length_append, List.length_singleton] at hl1 ⊢; omega, ?_⟩
      rw [sB_app, sB_app, show IntKind.wrap .i64 (i + 1) = i + 1 from wrap64 (by omega) (by omega)]
      refine ⟨⟨rfl, rfl, ?_, ?_, ?_, hO⟩, ?_⟩
      · show 0 ≤ i + 1; omega
      · show i + 1 ≤ manyI op; omega
      · show sB (wordI op ++ joinT ((ns.take (i + 1).toNat).map itoa)) = _
        rw [show (i + 1).toNat = i.toNat + 1 by omega, take_map_succ hx op]
        rfl
      · show (manyI op - (i + 1) : Int).toNat < (manyI op - i : Int).toNat; omega
    · have e : i.toNat = (manyI op).toNat := by omega
      rw [e]
      exact hK _ hO.old
theorem rtext_spec {op n0 n1 n2 n3 : Int} (hb : ∀ x ∈ [n0, n1, n2, n3], b64 x) (hK : ∀ w', Old w w' → K (.string (sB (textI op [n0, n1, n2, n3]))) w') : Ret Pg 15 [.int .i64 op, .agg ⟨[.int .i64 n0, .int .i64 n1, .int .i64 n2, .int .i64 n3]⟩] w K := by
  refine f15_ret ?_
  unfold f15
  have hO := Owns.start (w := w)
  refine new_i hO fun b _ hO => ?_
  (refine word_ref fun _ ho => ?_; replace hO := hO.after ho)
  refine ⟨_, rfl, ?_⟩
  have hm := manyI_bound op
  let ns := [n0, n1, n2, n3]
  let Inv : Int → Option Addr → ByteArray → Int → World → Prop := fun o p t i w' => op = o ∧ some ⟨b, 0, none⟩ = p ∧ 0 ≤ i ∧ i ≤ (manyI op).toNat ∧ sB (wordI op ++ joinT ((ns.take i.toNat).map itoa)) = t ∧ Owns w w' [[cl b 23 [.int .i64 n0, .int .i64 n1, .int .i64 n2, .int .i64 n3]]]
  refine LoopP_intro (ann := f15_ann) follows (fun x w => Inv x.1 x.2.1 x.2.2.1 x.2.2.2.1 w) (fun x _ => ((manyI op).toNat - x.2.2.2.1 : Int).toNat) ⟨rfl, rfl, Int.le_refl 0, Int.natCast_nonneg _, by simp [joinT], hO⟩ (fun x w h => (f15_l0_eq _ _ _ _ _ _ _).mpr ?_)
  suffices S : ∀ (o : Int) (p : Option Addr) (t : ByteArray) (i : Int), Inv o p t i w → f15_l0 o p t i w (fun x w => Inv x.1 x.2.1 x.2.2.1 x.2.2.2.1 w ∧ ((manyI op).toNat - x.2.2.2.1 : Int).toNat < ((manyI op).toNat - i : Int).toNat) _ from S _ _ _ _ h
  clear h x
  try clear hO
  rintro _ _ _ i ⟨rfl, rfl, h0, hi, rfl, hO⟩
  unfold f15_l0
  refine rmany_spec ?_
  refine ⟨_, rfl, ?_⟩
  have hl1 := textI_len (op := op) (ns := ns) rfl hb i.toNat
  refine bif_d (fun hlt3 => ?_) (fun hlt3 => ?_)
  · obtain ⟨x, hx⟩ : ∃ x, ns[i.toNat]? = some x := ⟨_, List.getElem?_eq_getElem (show i.toNat < 4 by omega)⟩
    have hxb := hb x (List.mem_of_getElem? hx)
    have hl2 := itoa_length_le x hxb.1 hxb.2
    refine ⟨by rw [sB_size, sB_size, List.length_singleton]; omega, h0, by omega, ?_⟩
    refine nn_i ?_
    have hB := hO.row 0 0 rfl
    refine LI_i (n := x) (by
      rw [at_mk, hB.cell, show 0 + i.toNat * 1 = i.toNat by omega]
      have : [Value.int .i64 n0, Value.int .i64 n1, Value.int .i64 n2, Value.int .i64 n3] = ns.map (.int .i64) := rfl
      rw [this, List.getElem?_map, hx]; rfl) ?_
    refine decimal_spec hxb.1 hxb.2 fun w3 ho => ?_
    replace hO := hO.after ho
    refine ⟨_, rfl, by rw [sB_app, sB_size, sB_size]; simp only [List.length_append, List.length_singleton] at hl1 ⊢; omega, ?_⟩
    rw [sB_app, sB_app, show IntKind.wrap .i64 (i + 1) = i + 1 from wrap64 (by omega) (by omega)]
    refine ⟨⟨rfl, rfl, ?_, ?_, ?_, hO⟩, ?_⟩
    · show 0 ≤ i + 1; omega
    · show i + 1 ≤ (manyI op).toNat; omega
    · show sB (wordI op ++ joinT ((ns.take (i + 1).toNat).map itoa)) = _
      rw [show (i + 1).toNat = i.toNat + 1 by omega, take_map_succ hx op]
      simp
    · show ((manyI op).toNat - (i + 1) : Int).toNat < ((manyI op).toNat - i : Int).toNat; omega
  · have e : i.toNat = (manyI op).toNat := by omega
    rw [e]
    exact hK _ hO.old
end

end Go.Proofs.YtokpbanandikpaaDoor

set_option maxRecDepth 100000
set_option linter.unusedVariables false
set_option linter.unusedSimpArgs false
namespace Go.Proofs.YtokpbanandikpaaDoor
open Go Go.V Go.Proofs
open Go.Lib Go.RowKit Go.Sort
/-! ### a line, parsed by the program -/
def entL : Option (Int × List Int) → List Int
  | none => [0, 0, 0, 0, 0]
  | some (op, ns) => op :: ns
def codeE : Option (Int × List Int) → Int
  | none => 10
  | some _ => 0
theorem padI_len {l : List Int} (h : l.length ≤ 4) : (padI l).length = 4 := by unfold padI; simp; omega
theorem padI_snoc {l : List Int} {v : Int} (h : l.length < 4) : padI (l ++ [v]) = (padI l).set l.length v := by
  unfold padI
  have e : List.replicate (4 - l.length) (0 : Int) = 0 :: List.replicate (4 - (l.length + 1)) 0 := by
    rw [show 4 - l.length = (4 - (l.length + 1)) + 1 by omega, List.replicate_succ]
  rw [e, List.set_append_right _ _ (Nat.le_refl _)]
  simp
theorem take_snoc {α : Type} {l : List α} {i : Nat} {x : α} (hx : l[i]? = some x) : l.take (i + 1) = l.take i ++ [x] := by
  obtain ⟨hl, he⟩ := List.getElem?_eq_some_iff.1 hx
  rw [List.take_succ_eq_append_getElem hl, he]
theorem four {l : List Int} (h : l.length = 4) : ∃ a b c d, l = [a, b, c, d] := by
  match l, h with
  | [a, b, c, d], _ => exact ⟨a, b, c, d, rfl⟩
section
variable {w0 w : World} {Ls : List (List Ent)} {K : Value → World → Prop}
theorem parse_spec {l : List UInt8} (hl : l.length ≤ 1000) (hG : Glb w) (hK : ∀ w', Old w w' → K (.tuple ⟨[.agg ⟨(entL (parseP l)).map (.int .i64)⟩, .int .i64 (codeE (parseP l))]⟩) w') : Ret Pg 9 [.string (sB l)] w K := by
  refine f9_ret ?_
  unfold f9
  have hO := Owns.start (w := w)
  refine new_i hO fun b1 _ hO => ?_
  refine split_lib (by omega) (hG.old hO.old) fun bs w2 hO2 => ?_
  have hO := hO.join hO2
  refine ⟨_, _, _, rfl, by omega, by omega, by omega, by omega, ?_⟩
  obtain ⟨h, t, e⟩ : ∃ h t, splitS l = h :: t := by
    cases e : splitS l with
    | nil => exact absurd e (splitS_ne l)
    | cons h t => exact ⟨h, t, rfl⟩
  unfold parseP at hK
  rw [e] at hK hO ⊢
  simp only [] at hK
  refine ⟨by simp only [List.length_cons]; omega, ?_⟩
  refine nn_i ?_
  replace hO := hO.drew
  have hO : Owns w w2.drew ([cl bs 9 (((h :: t)).map fun p => .string (sB p))] :: [cl b1 25 [.int .i64 0, .int .i64 0, .int .i64 0, .int .i64 0, .int .i64 0]] :: []) := hO
  have hB := hO.row 0 0 rfl
  refine LT_i (n := sB h) (by rw [at_mk, hB.cell]; rfl) ?_
  have hsl : ((if Int.toNat ((13 : Nat) : Int) = Int.toNat (1 : Int) then (some (⟨0, 0, none⟩ : Addr)) else Option.map (fun x => Addr.add x (Int.toNat (1 : Int) * 1)) (some (⟨0, 0, none⟩)))) = some ⟨0, 1, none⟩ := by
    rw [if_neg (by decide)]; rfl
  rw [hsl]
  refine index_lib (hG.old hO.old) ?_
  refine ⟨_, rfl, ?_⟩
  have hob := opOf_bound h
  rw [show opOf h - 1 + 1 = opOf h by omega, wrap64 (by omega) (by omega)]
  have fail : ∀ {w3 : World} {Ls : List (List Ent)}, Owns w w3 ([cl b1 25 [.int .i64 0, .int .i64 0, .int .i64 0, .int .i64 0, .int .i64 0]] :: Ls) → (parsePw l (opOf h) t = none) → K (.tuple ⟨[.agg ⟨[.int .i64 0, .int .i64 0, .int .i64 0, .int .i64 0, .int .i64 0]⟩, .int .i64 10]⟩) w3 := by
    intro w3 Ls hO hn
    rw [hn] at hK
    exact hK _ hO.old
  refine bif_d (fun hop => ?_) (fun hop => ?_)
  · have hn : parsePw l (opOf h) t = none := by unfold parsePw; rw [if_pos (.inl hop)]
    replace hO := hO.pick 1
    simp only [pick1] at hO
    (refine st_i hO (k := 0) (j := 0) rfl rfl rfl trivial fun _ hO => ?_)
    (refine st_i hO (k := 0) (j := 0) rfl rfl rfl trivial fun _ hO => ?_)
    (refine st_i hO (k := 0) (j := 0) rfl rfl rfl trivial fun _ hO => ?_)
    (refine st_i hO (k := 0) (j := 0) rfl rfl rfl trivial fun _ hO => ?_)
    (refine st_i hO (k := 0) (j := 0) rfl rfl rfl trivial fun _ hO => ?_)
    (refine ⟨_, _, _, _, _, (by (refine ca_i hO (k := 0) (j := 0) rfl rfl)), rfl, ?_⟩)
    try dsimp only [pick1, set2, List.set] at hO
    exact fail hO hn
  have hlt2 : (opOf h).toNat < manyTab.length := by simp [manyTab]; omega
  have hmm : manyTab[(opOf h).toNat] = manyI (opOf h) := by
    unfold manyI
    rw [if_neg (by omega), List.getElem?_eq_getElem hlt2]; rfl
  have hm := manyI_bound (opOf h)
  refine ⟨by omega, by omega, ?_⟩
  refine LI_i (n := manyI (opOf h)) (by rw [at_mk, show 0 + (opOf h).toNat * 1 = (opOf h).toNat by omega, ← hmm]; exact (hG.old hO.old).many _ _ (List.getElem?_eq_getElem hlt2)) ?_
  rw [wrap64 (by omega) (by omega)]
  refine bif_ne (fun hlen => ?_) (fun hlen => ?_)
  · have hn : parsePw l (opOf h) t = none := by unfold parsePw; rw [if_pos (.inr (by simp only [List.length_cons] at hlen; omega))]
    replace hO := hO.pick 1
    simp only [pick1] at hO
    (refine st_i hO (k := 0) (j := 0) rfl rfl rfl trivial fun _ hO => ?_)
    (refine st_i hO (k := 0) (j := 0) rfl rfl rfl trivial fun _ hO => ?_)
    (refine st_i hO (k := 0) (j := 0) rfl rfl rfl trivial fun _ hO => ?_)
    (refine st_i hO (k := 0) (j := 0) rfl rfl rfl trivial fun _ hO => ?_)
    (refine st_i hO (k := 0) (j := 0) rfl rfl rfl trivial fun _ hO => ?_)
    (refine ⟨_, _, _, _, _, (by (refine ca_i hO (k := 0) (j := 0) rfl rfl)), rfl, ?_⟩)
    try dsimp only [pick1, set2, List.set] at hO
    exact fail hO hn
  have htl : (t.length : Int) = manyI (opOf h) := by simp only [List.length_cons] at hlen; omega
  unfold f9_j1
  refine new_i hO fun b4 _ hO => ?_
  (refine st_i hO (k := 0) (j := 0) rfl rfl rfl trivial fun _ hO => ?_)
  (refine st_i hO (k := 0) (j := 0) rfl rfl rfl trivial fun _ hO => ?_)
  (refine st_i hO (k := 0) (j := 0) rfl rfl rfl trivial fun _ hO => ?_)
  (refine st_i hO (k := 0) (j := 0) rfl rfl rfl trivial fun _ hO => ?_)
  (refine st_i hO (k := 0) (j := 0) rfl rfl rfl trivial fun _ hO => ?_)
  try dsimp only [pick1, set2, List.set] at hO
  refine ⟨by omega, by simp only [List.length_cons]; omega, by omega, by omega, ?_⟩
  let sl : Sl := ⟨(if Int.toNat (((h :: t).length : Nat) : Int) = Int.toNat (1 : Int) then (some (⟨bs, 0, none⟩ : Addr)) else Option.map (fun x => Addr.add x (Int.toNat (1 : Int) * 1)) (some ⟨bs, 0, none⟩)), (Int.toNat (((h :: t).length : Nat) : Int) - Int.toNat (1 : Int)), (Int.toNat (((h :: t).length : Nat) : Int) - Int.toNat (1 : Int))⟩
  have hsll : sl.len = t.length := by show Int.toNat (((h :: t).length : Nat) : Int) - 1 = t.length; simp
  let Inv : ByteArray → Option Addr → Option Addr → Sl → Int → Int → World → Prop := fun x p q s m i w' => sB l = x ∧ some ⟨b1, 0, none⟩ = p ∧ some ⟨b4, 0, none⟩ = q ∧ sl = s ∧ (t.length : Int) = m ∧ 0 ≤ i ∧ i ≤ t.length ∧
    Owns w w' ([cl b4 25 ((opOf h :: padI ((t.take i.toNat).map atoiV)).map (.int .i64))] :: [cl bs 9 (((h :: t)).map fun p => .string (sB p))] :: [cl b1 25 [.int .i64 0, .int .i64 0, .int .i64 0, .int .i64 0, .int .i64 0]] :: [])
  refine LoopP_intro (ann := f9_ann) follows (fun x w => Inv x.1 x.2.1 x.2.2.1 x.2.2.2.1 x.2.2.2.2.1 x.2.2.2.2.2.1 w) (fun x _ => (t.length - x.2.2.2.2.2.1 : Int).toNat) ⟨rfl, rfl, rfl, rfl, by show (t.length : Int) = ((Int.toNat (((h :: t).length : Nat) : Int) - 1 : Nat) : Int); simp, Int.le_refl 0, Int.natCast_nonneg _, hO⟩ (fun x w h => (f9_l0_eq _ _ _ _ _ _ _ _ _).mpr ?_)
  suffices S : ∀ (x : ByteArray) (p : Option Addr) (q : Option Addr) (s : Sl) (m : Int) (i : Int), Inv x p q s m i w → f9_l0 x p q s m i w (fun x w => Inv x.1 x.2.1 x.2.2.1 x.2.2.2.1 x.2.2.2.2.1 x.2.2.2.2.2.1 w ∧ (t.length - x.2.2.2.2.2.1 : Int).toNat < (t.length - i : Int).toNat) _ from S _ _ _ _ _ _ h
  clear h x
  try clear hO
  rintro _ _ _ _ _ i ⟨rfl, rfl, rfl, rfl, rfl, h0, hi, hO⟩
  unfold f9_l0
  refine bif_d (fun hlt => ?_) (fun hlt => ?_)
  · obtain ⟨p, hp⟩ : ∃ p, t[i.toNat]? = some p := ⟨_, List.getElem?_eq_getElem (by omega)⟩
    have hat : sl.at_ = some ⟨bs, 1, none⟩ := by
      show (if Int.toNat (((h :: t).length : Nat) : Int) = Int.toNat (1 : Int) then _ else _) = _
      rw [if_neg (by simp only [List.length_cons]; omega)]
      rfl
    refine ⟨h0, by rw [hsll]; omega, ?_⟩
    rw [hat]
    refine nn_i ?_
    have hB := hO.row 1 0 rfl
    refine LT_i (n := sB p) (by rw [at_mk, hB.cell, show 1 + i.toNat * 1 = i.toNat + 1 by omega, List.map_cons, List.getElem?_cons_succ, List.getElem?_map, hp]; rfl) ?_
    have hpl : p.length ≤ 1000 := by
      have h1 := join_splitS l
      rw [e] at h1
      have h2 : ∀ (ts : List (List UInt8)) (q : List UInt8), q ∈ ts → q.length ≤ (joinT ts).length := by
        intro ts
        induction ts with
        | nil => intro q hq; cases hq
        | cons x r ih =>
          intro q hq
          simp only [joinT, List.length_cons, List.length_append]
          rcases List.mem_cons.1 hq with rfl | hq
          · omega
          · have := ih q hq; omega
      have h3 := h2 t p (List.mem_of_getElem? hp)
      have h4 := congrArg List.length h1
      simp only [joinS, List.length_append] at h4
      omega
    refine atoi_lib (by omega) (hG.old hO.old) fun v w3 ho => ?_
    replace hO := hO.after ho
    refine ⟨_, _, rfl, ?_⟩
    refine nn_i ?_
    refine ⟨h0, by omega, ?_⟩
    have hpad : (padI ((t.take i.toNat).map atoiV)).length = 4 := padI_len (by simp; omega)
    refine st_i hO (k := 0) (j := 0) rfl (by rw [add_mk, at_mk]) (Nat.ble_eq_true_of_le (by simp only [List.length_map, List.length_cons, hpad]; omega)) trivial fun _ hO => ?_
    rw [show IntKind.wrap .i64 (i + 1) = i + 1 from wrap64 (by omega) (by omega)]
    refine ⟨⟨rfl, rfl, rfl, by rw [← hat], rfl, ?_, ?_, ?_⟩, ?_⟩
    · show 0 ≤ i + 1; omega
    · show i + 1 ≤ t.length; omega
    · show Owns _ _ ([cl b4 25 ((opOf h :: padI ((t.take (i + 1).toNat).map atoiV)).map (.int .i64))] :: _)
      have hlen2 : ((t.take i.toNat).map atoiV).length = i.toNat := by simp; omega
      rw [show (i + 1).toNat = i.toNat + 1 by omega, take_snoc hp, List.map_append, List.map_singleton, padI_snoc (by omega), hlen2]
      have hO' : Owns _ _ ([cl b4 25 (((opOf h :: padI ((t.take i.toNat).map atoiV)).map (.int .i64)).set (0 + 1 + i.toNat * 1) (.int .i64 (atoiV p)))] :: [cl bs 9 (((h :: t)).map fun p => .string (sB p))] :: [cl b1 25 [.int .i64 0, .int .i64 0, .int .i64 0, .int .i64 0, .int .i64 0]] :: []) := hO
      rw [show 0 + 1 + i.toNat * 1 = i.toNat + 1 by omega, List.map_cons, List.set_cons_succ, ← List.map_set] at hO'
      exact hO'
    · show (t.length - (i + 1) : Int).toNat < (t.length - i : Int).toNat; omega
  · have htk : t.take i.toNat = t := List.take_of_length_le (by omega)
    rw [htk] at hO
    have hpl : (padI (t.map atoiV)).length = 4 := padI_len (by simp; omega)
    obtain ⟨m0, m1, m2, m3, hpe⟩ := four hpl
    have hmb : ∀ x ∈ [m0, m1, m2, m3], b64 x := by
      intro x hx
      rw [← hpe] at hx
      unfold padI at hx
      rcases List.mem_append.1 hx with hx | hx
      · obtain ⟨q, _, rfl⟩ := List.mem_map.1 hx
        exact atoiV_bound q
      · rw [List.eq_of_mem_replicate hx]; unfold b64; omega
    have hgood : goodI (opOf h) [m0, m1, m2, m3] = true := by
      rw [← hpe]
      unfold goodI
      refine decide_eq_true ⟨by omega, ?_⟩
      have : (manyI (opOf h)).toNat = (t.map atoiV).length := by rw [List.length_map]; omega
      rw [this]
      exact padI_drop _
    have hPw : parsePw l (opOf h) t = if textI (opOf h) [m0, m1, m2, m3] = l then some (opOf h, [m0, m1, m2, m3]) else none := by
      unfold parsePw
      rw [if_neg (by
        intro hc
        rcases hc with hc | hc
        · exact hop hc
        · exact hc htl), hpe]
    rw [hpe] at hO
    show f9_j2 _ _ _ _ _
    unfold f9_j2
    refine nn_i ?_
    refine ⟨_, _, _, _, _, ca_i hO (k := 0) (j := 0) rfl rfl, rfl, ?_⟩
    refine text_spec (hG.old hO.old) hmb fun w3 ho => ?_
    replace hO := hO.after ho
    rw [hgood, if_pos rfl]
    refine ⟨_, rfl, ?_⟩
    rw [sB_beq]
    by_cases htx : textI (opOf h) [m0, m1, m2, m3] = l
    · rw [decide_eq_true htx]
      rw [hPw, if_pos htx] at hK
      rw [Bool.not_true, cond_false]
      refine nn_i ?_
      refine ⟨_, _, _, _, _, ca_i hO (k := 0) (j := 0) rfl rfl, rfl, ?_⟩
      refine nn_i ?_
      refine st_i hO (k := 2) (j := 0) rfl rfl rfl trivial fun _ hO => ?_
      refine st_i hO (k := 2) (j := 0) rfl rfl rfl trivial fun _ hO => ?_
      refine st_i hO (k := 2) (j := 0) rfl rfl rfl trivial fun _ hO => ?_
      refine st_i hO (k := 2) (j := 0) rfl rfl rfl trivial fun _ hO => ?_
      refine st_i hO (k := 2) (j := 0) rfl rfl rfl trivial fun _ hO => ?_
      refine nn_i ?_
      refine ⟨_, _, _, _, _, ca_i hO (k := 2) (j := 0) rfl rfl, rfl, ?_⟩
      exact hK _ hO.old
    · rw [decide_eq_false htx]
      rw [Bool.not_false, cond_true]
      have hn : parsePw l (opOf h) t = none := by rw [hPw, if_neg htx]
      refine nn_i ?_
      refine st_i hO (k := 2) (j := 0) rfl rfl rfl trivial fun _ hO => ?_
      refine st_i hO (k := 2) (j := 0) rfl rfl rfl trivial fun _ hO => ?_
      refine st_i hO (k := 2) (j := 0) rfl rfl rfl trivial fun _ hO => ?_
      refine st_i hO (k := 2) (j := 0) rfl rfl rfl trivial fun _ hO => ?_
      refine st_i hO (k := 2) (j := 0) rfl rfl rfl trivial fun _ hO => ?_
      refine nn_i ?_
      refine ⟨_, _, _, _, _, ca_i hO (k := 2) (j := 0) rfl rfl, rfl, ?_⟩
      try dsimp only [pick1, set2, List.set] at hO
      exact fail (hO.pick 2) hn
end

end Go.Proofs.YtokpbanandikpaaDoor

set_option maxRecDepth 100000
set_option linter.unusedVariables false
set_option linter.unusedSimpArgs false
namespace Go.Proofs.YtokpbanandikpaaDoor
open Go Go.V Go.Proofs
open Go.Lib Go.RowKit Go.Sort
/-! ### a line, parsed by the document -/
def strs (ps : List (List UInt8)) : List Value := ps.map fun p => .string (sB p)
theorem splitS_snoc_sp : ∀ (l : List UInt8), splitS (l ++ [32]) = splitS l ++ [[]]
  | [] => rfl
  | c :: r => by
    rw [List.cons_append]
    have ih := splitS_snoc_sp r
    by_cases hc : c = 32
    · subst hc
      simp [splitS, ih]
    · unfold splitS
      rw [if_neg hc, if_neg hc, ih]
      cases e : splitS r with
      | nil => exact absurd e (splitS_ne r)
      | cons h t => rfl
theorem splitS_snoc {x : UInt8} (hx : x ≠ 32) : ∀ (l : List UInt8), ∃ (a : List (List UInt8)) (z : List UInt8), splitS l = a ++ [z] ∧ splitS (l ++ [x]) = a ++ [z ++ [x]]
  | [] => ⟨[], [], rfl, by simp [splitS, hx]⟩
  | c :: r => by
    rw [List.cons_append]
    obtain ⟨a, z, h1, h2⟩ := splitS_snoc hx r
    by_cases hc : c = 32
    · subst hc
      refine ⟨[] :: a, z, ?_, ?_⟩ <;> simp [splitS, h1, h2]
    · unfold splitS
      rw [if_neg hc, if_neg hc, h1, h2]
      cases a with
      | nil => exact ⟨[], c :: z, rfl, rfl⟩
      | cons h t => exact ⟨(c :: h) :: t, z, rfl, rfl⟩
section
variable {w0 w : World} {Ls : List (List Ent)} {K : Value → World → Prop}
theorem apStr {r : Rw} {K : Option Addr → Nat → Nat → World → Prop} {x : Option Addr} {m c : Nat} {news : List Value} (hO : Owns w0 w (r.ent 9 :: Ls)) (hr : r.ok 1) (hl : news.length = m) (hx : x = none → m = 0) (hnews : ∀ a, x = some a → ∀ j u, news[j]? = some u → w.cell? (a.add j) = some u) (h1 : ∀ u ∈ news, u.oneCell' = true) (hb : r.n + m ≤ 1000000000)
    (hK : ∀ (r' : Rw) (w' : World), r'.ok 1 → r'.xs = r.xs ++ news → r'.n = r.n + m → Owns w0 w' (r'.ent 9 :: Ls) → (r.sp = [] → Old w w') → K r'.at_ r'.n r'.c w') : ApW Pg 41 41 (.slice r.at_ r.n r.c) (.slice x m c) w K :=
  ap_i (e := 9) rfl rfl rfl rfl hO hr (by rw [hl]; exact (Nat.mul_one m).symm) hx hnews h1 (by simp only [maxLen]; omega) (by show (r.n + m) * 16 ≤ _; omega) hK
theorem Rw.block {r : Rw} {T : TypeId} {n : Nat} (hO : Owns w0 w (r.ent T :: Ls)) (hr : r.ok 1) (hn : n < r.n) : ∃ b, r.p = some b ∧ r.at_ = some ⟨b, 0, none⟩ ∧ Owns w0 w ([cl b T (r.xs ++ r.sp)] :: Ls) := by
  cases hp : r.p with
  | none => have := hr.nil hp; have := hr.le; omega
  | some b =>
    refine ⟨b, rfl, by simp [Rw.at_, hp], ?_⟩
    have : r.ent T = [cl b T (r.xs ++ r.sp)] := by simp [Rw.ent, hp]
    rw [← this]; exact hO
theorem opOf_unique {p : List UInt8} {j : Int} (h1 : 1 ≤ j) (h2 : j ≤ 12) (h : wordI j = p) : opOf p = j := by rw [← h]; exact opOf_wordI (by omega)
set_option maxHeartbeats 1000000 in
theorem rparse_l0 {l : List UInt8} {b1 : Nat} {r0 : Rw} {K0 : Tup f10_l0_o0 → World → Prop} (hl : l.length ≤ 1000) (hr0 : r0.ok 1) (hx0 : r0.xs = strs [[]]) (hO : Owns w0 w (r0.ent 9 :: Ls))
    (hK : ∀ (r : Rw) w', r.ok 1 → r.xs = strs (splitS l) → Owns w0 w' (r.ent 9 :: Ls) → K0 ⟨some ⟨b1, 0, none⟩, ⟨r.at_, r.n, r.c⟩, ()⟩ w') :
    LoopP Pg 90 f10_l0_B f10_l0_A ⟨sB l, some ⟨b1, 0, none⟩, ⟨r0.at_, r0.n, r0.c⟩, 0, ()⟩ w (K0, ()) := by
  let Inv : ByteArray → Option Addr → Sl → Int → World → Prop := fun t p s i w' => sB l = t ∧ some ⟨b1, 0, none⟩ = p ∧ 0 ≤ i ∧ i ≤ l.length ∧ ∃ r : Rw, (⟨r.at_, r.n, r.c⟩ : Sl) = s ∧ r.ok 1 ∧ r.xs = strs (splitS (l.take i.toNat)) ∧ r.n ≤ 1 + i.toNat ∧ Owns w0 w' (r.ent 9 :: Ls)
  have hn0 : r0.n = 1 := by have := hr0.len; rw [hx0] at this; simp [strs] at this; omega
  refine LoopP_intro (ann := f10_ann) follows (fun x w => Inv x.1 x.2.1 x.2.2.1 x.2.2.2.1 w) (fun x _ => (l.length - x.2.2.2.1 : Int).toNat) ⟨rfl, rfl, Int.le_refl 0, Int.natCast_nonneg _, r0, rfl, hr0, hx0, by omega, hO⟩ (fun x w h => (f10_l0_eq _ _ _ _ _ _ _).mpr ?_)
  suffices S : ∀ (t : ByteArray) (p : Option Addr) (s : Sl) (i : Int), Inv t p s i w → f10_l0 t p s i w (fun x w => Inv x.1 x.2.1 x.2.2.1 x.2.2.2.1 w ∧ (l.length - x.2.2.2.1 : Int).toNat < (l.length - i : Int).toNat) _ from S _ _ _ _ h
  clear h x
  try clear hO
  rintro _ _ _ i ⟨rfl, rfl, h0, hi, r, rfl, hr, hx, hrn, hO⟩
  unfold f10_l0
  rw [sB_size]
  refine bif_d (fun hlt => ?_) (fun hlt => ?_)
  · obtain ⟨c, hc⟩ : ∃ c, l[i.toNat]? = some c := ⟨_, List.getElem?_eq_getElem (by omega)⟩
    have htk := take_snoc hc
    refine ⟨c, ⟨h0, by rw [sB_get, hc]⟩, ?_⟩
    have hei : IntKind.wrap .i64 (i + 1) = i + 1 := wrap64 (by omega) (by omega)
    rw [hei]
    have hne := splitS_ne (l.take i.toNat)
    have hrn2 : r.n = (splitS (l.take i.toNat)).length := by have := hr.len; rw [hx] at this; simp [strs] at this; omega
    have hpos : 1 ≤ r.n := by
      rw [hrn2]
      cases e : splitS (l.take i.toNat) with
      | nil => exact absurd e hne
      | cons a b => simp
    refine bif_d (fun h32 => ?_) (fun h32 => ?_)
    · have hc32 : c = 32 := UInt8.toNat_inj.1 (by simp; omega)
      refine new_i hO fun b3 _ hO => ?_
      refine apStr (hO.pick 1) hr (x := some ⟨b3, 0, none⟩) (news := [.string (sB [])]) rfl (fun h => by cases h) (by
        intro a ha z u hu
        cases ha
        rw [add_mk, Nat.zero_add, (hO.row 0 0 rfl).cell]; exact hu) (by intro u hu; simp at hu; subst hu; rfl) (by omega) fun r' w' hr' hx' hn' hO _ => ?_
      refine ⟨⟨rfl, rfl, ?_, ?_, r', rfl, hr', ?_, ?_, hO.cut 1 1⟩, ?_⟩
      · show 0 ≤ i + 1; omega
      · show i + 1 ≤ l.length; omega
      · show r'.xs = strs (splitS (l.take (i + 1).toNat))
        rw [show (i + 1).toNat = i.toNat + 1 by omega, htk, hc32, splitS_snoc_sp, hx', hx]
        simp [strs]
      · show r'.n ≤ 1 + (i + 1).toNat; omega
      · show (l.length - (i + 1) : Int).toNat < (l.length - i : Int).toNat; omega
    · have hc32 : c ≠ 32 := fun e => h32 (by subst e; rfl)
      obtain ⟨a, z, e1, e2⟩ := splitS_snoc hc32 (l.take i.toNat)
      have hal : r.n = a.length + 1 := by rw [hrn2, e1]; simp
      obtain ⟨rb, hrb, hat, hO⟩ := Rw.block hO hr hpos
      have ew : IntKind.wrap .i64 (((r.n : Nat) : Int) - 1) = a.length := by rw [wrap64 (by omega) (by omega)]; omega
      show 0 ≤ IntKind.wrap .i64 (((r.n : Nat) : Int) - 1) ∧ _
      rw [ew]
      refine ⟨by omega, by show (a.length : Int) < ((r.n : Nat) : Int); omega, ?_⟩
      rw [hat]
      refine nn_i ?_
      replace hO := hO.drew
      have hxs : r.xs = strs a ++ [.string (sB z)] := by rw [hx, e1]; simp [strs]
      have hz : (r.xs ++ r.sp)[a.length]? = some (.string (sB z)) := by
        rw [hxs, List.append_assoc, List.getElem?_append_right (by simp [strs])]
        simp [strs]
      have hB := hO.row 0 0 rfl
      refine LT_i (n := sB z) (by rw [at_mk, hB.cell, show 0 + (a.length : Int).toNat * 1 = a.length by simp]; exact hz) ?_
      have hex : ByteArray.extract (sB l) i.toNat (i + 1).toNat = sB [c] := by
        apply ByteArray.ext
        apply Array.ext'
        rw [show (i + 1).toNat = i.toNat + 1 by omega]
        simp only [ByteArray.data_extract, Array.toList_extract, List.extract_eq_take_drop]
        show (l.drop i.toNat).take (i.toNat + 1 - i.toNat) = [c]
        obtain ⟨hl2, he⟩ := List.getElem?_eq_some_iff.1 hc
        rw [List.drop_eq_getElem_cons hl2, he, show i.toNat + 1 - i.toNat = 1 by omega]
        rfl
      rw [hex]
      have hzl : z.length ≤ 1000 := by
        have h1 := join_splitS (l.take i.toNat)
        rw [e1] at h1
        have h2 := congrArg List.length h1
        have h3 : z.length ≤ (joinS (a ++ [z])).length := by
          cases a with
          | nil => simp [joinS, joinT]
          | cons x y =>
            simp only [List.cons_append, joinS, List.length_append]
            have : ∀ (y : List (List UInt8)), z.length ≤ (joinT (y ++ [z])).length := by
              intro y
              induction y with
              | nil => simp [joinT]
              | cons q y ih => simp only [List.cons_append, joinT, List.length_cons, List.length_append]; omega
            have := this y
            omega
        rw [List.length_take] at h2
        omega
      refine ⟨h0, by omega, by omega, by rw [sB_size, sB_size, List.length_singleton]; omega, by omega, by show (a.length : Int) < ((r.n : Nat) : Int); omega, ?_⟩
      refine nn_i ?_
      refine st_i hO (k := 0) (j := 0) rfl (by rw [at_mk]) (Nat.ble_eq_true_of_le (by rw [hxs]; simp [strs])) trivial fun _ hO => ?_
      try dsimp only [pick1, set2, List.set] at hO
      rw [sB_app] at hO
      have hset : (r.xs ++ r.sp).set (0 + (a.length : Int).toNat * 1) (.string (sB (z ++ [c]))) = (strs a ++ [.string (sB (z ++ [c]))]) ++ r.sp := by
        rw [hxs, show 0 + (a.length : Int).toNat * 1 = (strs a).length by simp [strs], List.append_assoc, List.set_append_right _ _ (Nat.le_refl _)]
        simp
      rw [hset] at hO
      let r' : Rw := ⟨some rb, r.n, r.c, strs a ++ [.string (sB (z ++ [c]))], r.sp⟩
      have hat' : r'.at_ = some ⟨rb, 0, none⟩ := rfl
      have hlx : (strs a ++ [Value.string (sB (z ++ [c]))]).length = r.xs.length := by rw [hxs]; simp
      refine ⟨⟨rfl, rfl, ?_, ?_, r', rfl, ⟨?_, ?_, hr.le, hr.max, fun h => by cases h⟩, ?_, ?_, ?_⟩, ?_⟩
      · show 0 ≤ i + 1; omega
      · show i + 1 ≤ l.length; omega
      · show (strs a ++ [_]).length = r.n * 1
        rw [hlx]; exact hr.len
      · show (strs a ++ [_]).length + r.sp.length = r.c * 1
        rw [hlx]; exact hr.cap
      · show strs a ++ [_] = strs (splitS (l.take (i + 1).toNat))
        rw [show (i + 1).toNat = i.toNat + 1 by omega, htk, e2]
        simp [strs]
      · show r.n ≤ 1 + (i + 1).toNat; omega
      · exact hO
      · show (l.length - (i + 1) : Int).toNat < (l.length - i : Int).toNat; omega
  · rw [List.take_of_length_le (by omega)] at hx
    exact hK r _ hr hx hO
end

end Go.Proofs.YtokpbanandikpaaDoor

set_option maxRecDepth 100000
set_option linter.unusedVariables false
set_option linter.unusedSimpArgs false
namespace Go.Proofs.YtokpbanandikpaaDoor
open Go Go.V Go.Proofs
open Go.Lib Go.RowKit Go.Sort
/-! ### a line, parsed by the document: the word, the numbers -/
def opE : Option (Int × List Int) → Int
  | none => 0
  | some (op, _) => op
def nsE : Option (Int × List Int) → List Int
  | none => [0, 0, 0, 0]
  | some (_, ns) => ns
section
variable {w0 w : World} {Ls : List (List Ent)} {K : Value → World → Prop}
theorem rparse_l1 {b1 rb n c : Nat} {cs : List Value} {h : List UInt8} {K2 : Tup f10_l1_o2 → World → Prop} (hn : 1 ≤ n) (hc0 : cs[0]? = some (.string (sB h))) (hO : Owns w0 w ([cl rb 9 cs] :: Ls))
    (hK : ∀ w', Owns w0 w' ([cl rb 9 cs] :: Ls) → K2 ⟨some ⟨b1, 0, none⟩, ⟨some ⟨rb, 0, none⟩, n, c⟩, opOf h, ()⟩ w') :
    LoopP Pg 90 f10_l1_B f10_l1_A ⟨some ⟨b1, 0, none⟩, ⟨some ⟨rb, 0, none⟩, n, c⟩, 0, 1, ()⟩ w (K2, ()) := by
  let Inv : Option Addr → Sl → Int → Int → World → Prop := fun p s o j w' => some ⟨b1, 0, none⟩ = p ∧ (⟨some ⟨rb, 0, none⟩, n, c⟩ : Sl) = s ∧ 1 ≤ j ∧ j ≤ 13 ∧ (∀ k : Int, 1 ≤ k → k < j → wordI k = h → o = k) ∧ (o = 0 ∨ (1 ≤ o ∧ o < j ∧ wordI o = h)) ∧ Owns w0 w' ([cl rb 9 cs] :: Ls)
  refine LoopP_intro (ann := f10_ann) follows (fun x w => Inv x.1 x.2.1 x.2.2.1 x.2.2.2.1 w) (fun x _ => (13 - x.2.2.2.1 : Int).toNat) ⟨rfl, rfl, Int.le_refl 1, by show (1 : Int) ≤ 13; omega, fun k h1 h2 => by have h1 : 1 ≤ k := h1; have h2 : k < 1 := h2; omega, .inl rfl, hO⟩ (fun x w h => (f10_l1_eq _ _ _ _ _ _ _).mpr ?_)
  suffices S : ∀ (p : Option Addr) (s : Sl) (o : Int) (j : Int), Inv p s o j w → f10_l1 p s o j w (fun x w => Inv x.1 x.2.1 x.2.2.1 x.2.2.2.1 w ∧ (13 - x.2.2.2.1 : Int).toNat < (13 - j : Int).toNat) _ from S _ _ _ _ h
  clear h x
  try clear hO
  rintro _ _ o j ⟨rfl, rfl, h1, h13, hu, hd, hO⟩
  unfold f10_l1
  refine bif_d (fun hlt => ?_) (fun hlt => ?_)
  · refine ⟨by omega, by show (0 : Int) < ((n : Nat) : Int); omega, ?_⟩
    refine nn_i ?_
    replace hO := hO.drew
    have hB := hO.row 0 0 rfl
    refine LT_i (n := sB h) (by rw [at_mk, hB.cell]; exact hc0) ?_
    refine word_ref fun w3 ho => ?_
    have hO3 := hO.after ho
    refine ⟨_, rfl, ho, ?_⟩
    rw [sB_beq, show IntKind.wrap .i64 (j + 1) = j + 1 from wrap64 (by omega) (by omega)]
    by_cases e : wordI j = h
    · rw [decide_eq_true e, cond_true]
      refine ⟨⟨rfl, rfl, ?_, ?_, ?_, ?_, hO3⟩, ?_⟩
      · show 1 ≤ j + 1; omega
      · show j + 1 ≤ 13; omega
      · intro k k1 k2 ek
        have a1 := opOf_unique (p := h) k1 (by have : k < j + 1 := k2; omega) ek
        have a2 := opOf_unique (p := h) h1 hlt e
        show j = k
        omega
      · exact .inr ⟨h1, by show j < j + 1; omega, e⟩
      · show (13 - (j + 1) : Int).toNat < (13 - j : Int).toNat; omega
    · rw [decide_eq_false e, cond_false]
      refine ⟨⟨rfl, rfl, ?_, ?_, ?_, ?_, hO3⟩, ?_⟩
      · show 1 ≤ j + 1; omega
      · show j + 1 ≤ 13; omega
      · intro k k1 k2 ek
        have k2 : k < j + 1 := k2
        by_cases hkj : k = j
        · rw [hkj] at ek; exact absurd ek e
        · exact hu k k1 (by omega) ek
      · rcases hd with hd | ⟨d1, d2, d3⟩
        · exact .inl hd
        · exact .inr ⟨d1, by show o < j + 1; omega, d3⟩
      · show (13 - (j + 1) : Int).toNat < (13 - j : Int).toNat; omega
  · have ho : o = opOf h := by
      rcases hd with hd | ⟨d1, d2, d3⟩
      · by_cases hz : opOf h = 0
        · omega
        · have hb := opOf_bound h
          exact hu _ (by omega) (by omega) (opOf_word hz)
      · exact (opOf_unique d1 (by omega) d3).symm
    rw [ho]
    exact hK _ hO
theorem strs_get {ts : List (List UInt8)} {i : Nat} {p : List UInt8} (h : ts[i]? = some p) (sp : List Value) : (strs ts ++ sp)[i]? = some (.string (sB p)) := by
  have hl := (List.getElem?_eq_some_iff.1 h).1
  rw [List.getElem?_append_left (by simp [strs]; exact hl)]
  simp [strs, h]
theorem all_take {ts : List (List UInt8)} {i : Nat} {p : List UInt8} (h : ts[i]? = some p) (ha : (ts.take i).all (fun p => (numR p).2) = true) : (ts.take (i + 1)).all (fun p => (numR p).2) = (numR p).2 := by
  rw [take_snoc h, List.all_append, ha]; simp
set_option maxHeartbeats 1000000 in
theorem parse_ref {l : List UInt8} (hl : l.length ≤ 1000) (hK : ∀ w', Old w w' → K (.tuple ⟨[.int .i64 (opE (parseR l)), .agg ⟨(nsE (parseR l)).map (.int .i64)⟩, .bool (parseR l).isSome]⟩) w') : Ret Pg 10 [.string (sB l)] w K := by
  refine f10_ret ?_
  unfold f10
  have hO := Owns.start (w := w)
  refine new_i hO fun b1 _ hO => ?_
  refine new_i hO fun b2 _ hO => ?_
  refine rparse_l0 (r0 := ⟨some b2, 1, 1, [.string (sB [])], []⟩) hl ⟨rfl, rfl, Nat.le_refl _, by show 1 ≤ maxLen; decide, fun h => by cases h⟩ rfl hO fun r w3 hr hx hO => ?_
  unfold f10_j1
  obtain ⟨h, t, e⟩ : ∃ h t, splitS l = h :: t := by
    cases e : splitS l with
    | nil => exact absurd e (splitS_ne l)
    | cons h t => exact ⟨h, t, rfl⟩
  unfold parseR at hK
  rw [e] at hK hx
  simp only [] at hK
  have hrn : r.n = t.length + 1 := by have := hr.len; rw [hx] at this; simp [strs] at this; omega
  have htl : t.length ≤ 1000 := by
    have h1 := join_splitS l
    rw [e] at h1
    have h2 : ∀ (ts : List (List UInt8)), ts.length ≤ (joinT ts).length := by
      intro ts
      induction ts with
      | nil => exact Nat.le_refl _
      | cons x r ih => simp only [joinT, List.length_cons, List.length_append]; omega
    have h3 := h2 t
    have h4 := congrArg List.length h1
    simp only [joinS, List.length_append] at h4
    omega
  obtain ⟨rb, hrb, hat, hO⟩ := Rw.block hO hr (n := 0) (by omega)
  dsimp only
  rw [hat]
  refine rparse_l1 (h := h) (by omega) (by rw [hx]; exact strs_get (i := 0) rfl _) hO fun w4 hO => ?_
  have fail : ∀ {w3 : World} {Ls : List (List Ent)}, Owns w w3 ([cl b1 23 [.int .i64 0, .int .i64 0, .int .i64 0, .int .i64 0]] :: Ls) → (parseRw (opOf h) t = none) → K (.tuple ⟨[.int .i64 0, .agg ⟨[.int .i64 0, .int .i64 0, .int .i64 0, .int .i64 0]⟩, .bool false]⟩) w3 := by
    intro w3 Ls hO hn
    rw [hn] at hK
    exact hK _ hO.old
  show f10_j2 (some ⟨b1, 0, none⟩) (some ⟨rb, 0, none⟩) r.n r.c (opOf h) _ _
  unfold f10_j2
  refine new_i hO fun b7 _ hO => ?_
  (refine st_i hO (k := 0) (j := 0) rfl rfl rfl trivial fun _ hO => ?_)
  (refine st_i hO (k := 0) (j := 0) rfl rfl rfl trivial fun _ hO => ?_)
  (refine st_i hO (k := 0) (j := 0) rfl rfl rfl trivial fun _ hO => ?_)
  (refine st_i hO (k := 0) (j := 0) rfl rfl rfl trivial fun _ hO => ?_)
  try dsimp only [pick1, set2, List.set] at hO
  have hob := opOf_bound h
  have hm := manyI_bound (opOf h)
  refine bif_d (fun hop => ?_) (fun hop => ?_)
  · have hn : parseRw (opOf h) t = none := by unfold parseRw; rw [if_pos (.inl hop)]
    replace hO := hO.drew
    (refine ⟨_, _, _, _, (by (refine ca_i hO (k := 0) (j := 0) rfl rfl)), rfl, ?_⟩)
    refine nn_i ?_
    refine st_i hO (k := 2) (j := 0) rfl rfl rfl trivial fun _ hO => ?_
    refine st_i hO (k := 2) (j := 0) rfl rfl rfl trivial fun _ hO => ?_
    refine st_i hO (k := 2) (j := 0) rfl rfl rfl trivial fun _ hO => ?_
    refine st_i hO (k := 2) (j := 0) rfl rfl rfl trivial fun _ hO => ?_
    refine nn_i ?_
    refine ⟨_, _, _, _, ca_i hO (k := 2) (j := 0) rfl rfl, rfl, ?_⟩
    try dsimp only [pick1, set2, List.set] at hO
    exact fail (hO.pick 2) hn
  refine rmany_spec ?_
  refine ⟨_, rfl, ?_⟩
  rw [show IntKind.wrap .i64 (1 + manyI (opOf h)) = 1 + manyI (opOf h) from wrap64 (by omega) (by omega)]
  refine bif_ne (fun hlen => ?_) (fun hlen => ?_)
  · have hn : parseRw (opOf h) t = none := by unfold parseRw; rw [if_pos (.inr (by omega))]
    replace hO := hO.drew
    (refine ⟨_, _, _, _, (by (refine ca_i hO (k := 0) (j := 0) rfl rfl)), rfl, ?_⟩)
    refine nn_i ?_
    refine st_i hO (k := 2) (j := 0) rfl rfl rfl trivial fun _ hO => ?_
    refine st_i hO (k := 2) (j := 0) rfl rfl rfl trivial fun _ hO => ?_
    refine st_i hO (k := 2) (j := 0) rfl rfl rfl trivial fun _ hO => ?_
    refine st_i hO (k := 2) (j := 0) rfl rfl rfl trivial fun _ hO => ?_
    refine nn_i ?_
    refine ⟨_, _, _, _, ca_i hO (k := 2) (j := 0) rfl rfl, rfl, ?_⟩
    try dsimp only [pick1, set2, List.set] at hO
    exact fail (hO.pick 2) hn
  have hml : (t.length : Int) = manyI (opOf h) := by omega
  unfold f10_j3
  have hPR : parseRw (opOf h) t = if (t.all fun p => (numR p).2) = true then some (opOf h, padI (t.map fun p => (numR p).1)) else none := by
    unfold parseRw
    rw [if_neg (by
      intro hc
      rcases hc with hc | hc
      · exact hop hc
      · exact hc hml)]
  let Inv : Option Addr → Sl → Int → Option Addr → Int → World → Prop := fun p s o q i w' => some ⟨b1, 0, none⟩ = p ∧ (⟨some ⟨rb, 0, none⟩, r.n, r.c⟩ : Sl) = s ∧ opOf h = o ∧ some ⟨b7, 0, none⟩ = q ∧ 1 ≤ i ∧ i ≤ t.length + 1 ∧ ((t.take (i - 1).toNat).all fun p => (numR p).2) = true ∧
    Owns w w' ([cl b7 23 ((padI ((t.take (i - 1).toNat).map fun p => (numR p).1)).map (.int .i64))] :: [cl rb 9 (r.xs ++ r.sp)] :: [cl b1 23 [.int .i64 0, .int .i64 0, .int .i64 0, .int .i64 0]] :: [])
  refine LoopP_intro (ann := f10_ann) follows (fun x w => Inv x.1 x.2.1 x.2.2.1 x.2.2.2.1 x.2.2.2.2.1 w) (fun x _ => (t.length + 1 - x.2.2.2.2.1 : Int).toNat) ⟨rfl, rfl, rfl, rfl, Int.le_refl 1, by show (1 : Int) ≤ t.length + 1; omega, by simp, hO⟩ (fun x w h => (f10_l2_eq _ _ _ _ _ _ _ _ _).mpr ?_)
  suffices S : ∀ (p : Option Addr) (s : Sl) (o : Int) (q : Option Addr) (i : Int), Inv p s o q i w → f10_l2 p s o q i w (fun x w => Inv x.1 x.2.1 x.2.2.1 x.2.2.2.1 x.2.2.2.2.1 w ∧ (t.length + 1 - x.2.2.2.2.1 : Int).toNat < (t.length + 1 - i : Int).toNat) _ _ from S _ _ _ _ _ h
  clear h x
  try clear hO
  rintro _ _ _ _ i ⟨rfl, rfl, rfl, rfl, h1, hi, hall, hO⟩
  unfold f10_l2
  refine bif_d (fun hlt => ?_) (fun hlt => ?_)
  · have hlt : i < ((r.n : Nat) : Int) := hlt
    obtain ⟨p, hp⟩ : ∃ p, t[(i - 1).toNat]? = some p := ⟨_, List.getElem?_eq_getElem (by omega)⟩
    refine ⟨by omega, hlt, ?_⟩
    refine nn_i ?_
    have hB := hO.row 1 0 rfl
    refine LT_i (n := sB p) (by rw [at_mk, hB.cell, hx, show 0 + i.toNat * 1 = (i - 1).toNat + 1 by omega]; exact strs_get (by rw [List.getElem?_cons_succ]; exact hp) _) ?_
    refine number_ref fun w5 ho => ?_
    replace hO := hO.after ho
    refine ⟨_, _, rfl, ?_⟩
    cases hok : (numR p).2 with
    | false =>
      have hn : parseRw (opOf h) t = none := by
        rw [hPR, if_neg]
        intro ha
        rw [List.all_eq_true] at ha
        have := ha p (List.mem_of_getElem? hp)
        rw [hok] at this
        cases this
      rw [Bool.not_false, cond_true]
      refine nn_i ?_
      refine st_i hO (k := 2) (j := 0) rfl rfl rfl trivial fun _ hO => ?_
      refine st_i hO (k := 2) (j := 0) rfl rfl rfl trivial fun _ hO => ?_
      refine st_i hO (k := 2) (j := 0) rfl rfl rfl trivial fun _ hO => ?_
      refine st_i hO (k := 2) (j := 0) rfl rfl rfl trivial fun _ hO => ?_
      refine nn_i ?_
      refine ⟨_, _, _, _, ca_i hO (k := 2) (j := 0) rfl rfl, rfl, ?_⟩
      try dsimp only [pick1, set2, List.set] at hO
      exact fail (hO.pick 2) hn
    | true =>
      rw [Bool.not_true, cond_false, show IntKind.wrap .i64 (i - 1) = i - 1 from wrap64 (by omega) (by omega), show IntKind.wrap .i64 (i + 1) = i + 1 from wrap64 (by omega) (by omega)]
      refine ⟨by omega, by omega, ?_⟩
      refine nn_i ?_
      have hlen2 : ((t.take (i - 1).toNat).map fun p => (numR p).1).length = (i - 1).toNat := by simp; omega
      have hpad : (padI ((t.take (i - 1).toNat).map fun p => (numR p).1)).length = 4 := padI_len (by omega)
      refine st_i hO (k := 0) (j := 0) rfl (by rw [at_mk]) (Nat.ble_eq_true_of_le (by simp only [List.length_map, hpad]; omega)) trivial fun _ hO => ?_
      refine ⟨⟨rfl, rfl, rfl, rfl, ?_, ?_, ?_, ?_⟩, ?_⟩
      · show 1 ≤ i + 1; omega
      · show i + 1 ≤ t.length + 1; omega
      · show ((t.take (i + 1 - 1).toNat).all fun p => (numR p).2) = true
        rw [show (i + 1 - 1).toNat = (i - 1).toNat + 1 by omega, all_take hp hall, hok]
      · show Owns _ _ ([cl b7 23 ((padI ((t.take (i + 1 - 1).toNat).map fun p => (numR p).1)).map (.int .i64))] :: _)
        rw [show (i + 1 - 1).toNat = (i - 1).toNat + 1 by omega, take_snoc hp, List.map_append, List.map_singleton, padI_snoc (by omega), hlen2]
        have hO' : Owns _ _ ([cl b7 23 (((padI ((t.take (i - 1).toNat).map fun p => (numR p).1)).map (.int .i64)).set (0 + (i - 1).toNat * 1) (.int .i64 (numR p).1))] :: [cl rb 9 (r.xs ++ r.sp)] :: [cl b1 23 [.int .i64 0, .int .i64 0, .int .i64 0, .int .i64 0]] :: []) := hO
        rw [show 0 + (i - 1).toNat * 1 = (i - 1).toNat by omega, ← List.map_set] at hO'
        exact hO'
      · show (t.length + 1 - (i + 1) : Int).toNat < (t.length + 1 - i : Int).toNat; omega
  · have hlt : ¬ i < ((r.n : Nat) : Int) := hlt
    have htk : t.take (i - 1).toNat = t := List.take_of_length_le (by omega)
    rw [htk] at hO hall
    have hpl : (padI (t.map fun p => (numR p).1)).length = 4 := padI_len (by simp; omega)
    obtain ⟨m0, m1, m2, m3, hpe⟩ := four hpl
    rw [hpe] at hO
    rw [hPR, if_pos hall, hpe] at hK
    refine nn_i ?_
    replace hO := hO.drew
    refine ⟨_, _, _, _, ca_i hO (k := 0) (j := 0) rfl rfl, rfl, ?_⟩
    refine nn_i ?_
    refine st_i hO (k := 2) (j := 0) rfl rfl rfl trivial fun _ hO => ?_
    refine st_i hO (k := 2) (j := 0) rfl rfl rfl trivial fun _ hO => ?_
    refine st_i hO (k := 2) (j := 0) rfl rfl rfl trivial fun _ hO => ?_
    refine st_i hO (k := 2) (j := 0) rfl rfl rfl trivial fun _ hO => ?_
    refine nn_i ?_
    refine ⟨_, _, _, _, ca_i hO (k := 2) (j := 0) rfl rfl, rfl, ?_⟩
    exact hK _ hO.old
end

end Go.Proofs.YtokpbanandikpaaDoor

set_option maxRecDepth 100000
set_option linter.unusedVariables false
set_option linter.unusedSimpArgs false
namespace Go.Proofs.YtokpbanandikpaaDoor
open Go Go.V Go.Proofs
open Go.Lib Go.RowKit Go.Sort
/-! ### the document's example; a line; an entry -/
theorem decDigits_small {u : Nat} (h : u < 10) : decDigits u = [UInt8.ofNat (48 + u)] := by rw [decDigits, dif_pos h]
theorem awake_text : textI 6 [0, 1, 2, 0] = [108, 105, 110, 107, 32, 48, 32, 49, 32, 50] := by
  have e0 : itoa 0 = [48] := by unfold itoa; rw [if_neg (by decide), decDigits_small (by decide)]; rfl
  have e1 : itoa 1 = [49] := by unfold itoa; rw [if_neg (by decide), decDigits_small (by decide)]; rfl
  have e2 : itoa 2 = [50] := by unfold itoa; rw [if_neg (by decide), decDigits_small (by decide)]; rfl
  have : ([0, 1, 2, 0] : List Int).take (manyI 6).toNat = [0, 1, 2] := by decide
  unfold textI
  rw [this]
  simp only [List.map_cons, List.map_nil, e0, e1, e2]
  decide
theorem awake_parse : parseP [108, 105, 110, 107, 32, 48, 32, 49, 32, 50] = some (6, [0, 1, 2, 0]) := by
  rw [← awake_text]
  exact parse_text rfl (by decide) (by decide)
section
variable {w : World} {K : Value → World → Prop}
theorem ca4_i {w0 : World} {Ls : List (List Ent)} {k j b : Nat} {T : TypeId} {x0 v0 v1 v2 v3 : Value} {r : List Value} (h : Owns w0 w Ls) (hk : at2 Ls k j = some (cl b T (x0 :: v0 :: v1 :: v2 :: v3 :: r))) : CellsAt w ((⟨b, 0, none⟩ : Addr).add 1) 0 [v0, v1, v2, v3] := by
  have hB := h.row k j hk
  refine ⟨?_, ?_, ?_, ?_, trivial⟩ <;> (rw [add_mk, add_mk, hB.cell]; rfl)
theorem awake_spec (hG : Glb w) (hK : ∀ w', Old w w' → K (.bool true) w') : Ret Pg 8 [] w K := by
  refine f8_ret ?_
  unfold f8
  refine parse_spec (by decide) hG fun w2 ho => ?_
  rw [awake_parse]
  have hO := (Owns.start (w := w)).after ho
  refine ⟨_, _, _, _, _, _, rfl, ?_⟩
  refine new_i hO fun b1 _ hO => ?_
  (refine st_i hO (k := 0) (j := 0) rfl rfl rfl trivial fun _ hO => ?_)
  (refine st_i hO (k := 0) (j := 0) rfl rfl rfl trivial fun _ hO => ?_)
  (refine st_i hO (k := 0) (j := 0) rfl rfl rfl trivial fun _ hO => ?_)
  (refine st_i hO (k := 0) (j := 0) rfl rfl rfl trivial fun _ hO => ?_)
  (refine st_i hO (k := 0) (j := 0) rfl rfl rfl trivial fun _ hO => ?_)
  show cond (((0 : Int)) == 0) _ _
  rw [show (((0 : Int)) == 0) = true from rfl, cond_true]
  (refine ⟨_, _, _, _, _, (by (refine ca_i hO (k := 0) (j := 0) rfl rfl)), rfl, ?_⟩)
  refine eqw_flat (xs := [6, 0, 1, 2, 0]) (ys := [6, 0, 1, 2, 0]) (by kernel_rfl) (by kernel_rfl) (by kernel_rfl) rfl rfl ?_
  exact hK _ hO.old
theorem lawParses {l : List UInt8} (hG : Glb w) (hK : ∀ w', Old w w' → K (.bool true) w') : Ret Pg 3 [.string (sB l)] w K := by
  refine f3_ret ?_
  unfold f3
  refine awake_spec hG fun w1 h1 => ?_
  refine ⟨_, rfl, ?_⟩
  rw [Bool.not_true, cond_false, sB_size]
  refine bif_d (fun hl => ?_) (fun hl => ?_)
  · exact awake_spec (hG.old h1) fun w2 h2 => ⟨_, rfl, hK _ (h1.trans h2)⟩
  unfold f3_j1
  have hO := (Owns.start (w := w)).after h1
  refine parse_spec (by omega) (hG.old h1) fun w2 h2 => ?_
  replace hO := hO.after h2
  have hpe := parse_eq l
  cases hp : parseP l with
  | none =>
    rw [hp] at hpe
    refine ⟨_, _, _, _, _, _, rfl, ?_⟩
    refine new_i hO fun b1 _ hO => ?_
    (refine st_i hO (k := 0) (j := 0) rfl rfl rfl trivial fun _ hO => ?_)
    (refine st_i hO (k := 0) (j := 0) rfl rfl rfl trivial fun _ hO => ?_)
    (refine st_i hO (k := 0) (j := 0) rfl rfl rfl trivial fun _ hO => ?_)
    (refine st_i hO (k := 0) (j := 0) rfl rfl rfl trivial fun _ hO => ?_)
    (refine st_i hO (k := 0) (j := 0) rfl rfl rfl trivial fun _ hO => ?_)
    refine parse_ref (by omega) fun w3 h3 => ?_
    replace hO := hO.after h3
    rw [← hpe]
    refine ⟨_, _, _, _, _, _, rfl, ?_⟩
    refine new_i hO fun b2 _ hO => ?_
    (refine st_i hO (k := 0) (j := 0) rfl rfl rfl trivial fun _ hO => ?_)
    (refine st_i hO (k := 0) (j := 0) rfl rfl rfl trivial fun _ hO => ?_)
    (refine st_i hO (k := 0) (j := 0) rfl rfl rfl trivial fun _ hO => ?_)
    (refine st_i hO (k := 0) (j := 0) rfl rfl rfl trivial fun _ hO => ?_)
    show cond (!false) (cond ((10 : Int) == 10) _ _) _
    rw [Bool.not_false, cond_true, show (((10 : Int)) == 10) = true from rfl, cond_true]
    try dsimp only [pick1, set2, List.set] at hO
    (refine ⟨_, _, _, _, _, (by (refine ca_i hO (k := 1) (j := 0) rfl rfl)), rfl, ?_⟩)
    refine eqw_flat (xs := [0, 0, 0, 0, 0]) (ys := [0, 0, 0, 0, 0]) (by kernel_rfl) (by kernel_rfl) (by kernel_rfl) rfl rfl ?_
    exact hK _ hO.old
  | some e =>
    obtain ⟨op, ns⟩ := e
    rw [hp] at hpe
    obtain ⟨hg, ht, h4, hb, ho1, ho2⟩ := parseR_some hpe.symm
    obtain ⟨m0, m1, m2, m3, rfl⟩ := four h4
    refine ⟨_, _, _, _, _, _, rfl, ?_⟩
    refine new_i hO fun b1 _ hO => ?_
    (refine st_i hO (k := 0) (j := 0) rfl rfl rfl trivial fun _ hO => ?_)
    (refine st_i hO (k := 0) (j := 0) rfl rfl rfl trivial fun _ hO => ?_)
    (refine st_i hO (k := 0) (j := 0) rfl rfl rfl trivial fun _ hO => ?_)
    (refine st_i hO (k := 0) (j := 0) rfl rfl rfl trivial fun _ hO => ?_)
    (refine st_i hO (k := 0) (j := 0) rfl rfl rfl trivial fun _ hO => ?_)
    refine parse_ref (by omega) fun w3 h3 => ?_
    replace hO := hO.after h3
    rw [← hpe]
    refine ⟨_, _, _, _, _, _, rfl, ?_⟩
    refine new_i hO fun b2 _ hO => ?_
    (refine st_i hO (k := 0) (j := 0) rfl rfl rfl trivial fun _ hO => ?_)
    (refine st_i hO (k := 0) (j := 0) rfl rfl rfl trivial fun _ hO => ?_)
    (refine st_i hO (k := 0) (j := 0) rfl rfl rfl trivial fun _ hO => ?_)
    (refine st_i hO (k := 0) (j := 0) rfl rfl rfl trivial fun _ hO => ?_)
    try dsimp only [pick1, set2, List.set] at hO
    show cond (!true) _ _
    rw [Bool.not_true, cond_false]
    unfold f3_j2
    show cond ((0 : Int) == 0) _ _
    rw [show (((0 : Int)) == 0) = true from rfl, cond_true]
    refine li_i hO (k := 1) (j := 0) rfl rfl rfl ?_
    show cond (op == op) _ _
    rw [beq_self_eq_true, cond_true]
    refine ⟨_, _, _, _, ca4_i hO (k := 1) (j := 0) rfl, rfl, ?_⟩
    (refine ⟨_, _, _, _, (by (refine ca_i hO (k := 0) (j := 0) rfl rfl)), rfl, ?_⟩)
    refine eqw_flat (xs := [m0, m1, m2, m3]) (ys := [m0, m1, m2, m3]) (by kernel_rfl) (by kernel_rfl) (by kernel_rfl) rfl rfl ?_
    rw [decide_eq_true rfl, cond_true]
    refine ⟨_, _, _, _, _, ca_i hO (k := 1) (j := 0) rfl rfl, rfl, ?_⟩
    refine good_spec (hG.old hO.old) fun w4 h4 => ?_
    replace hO := hO.after h4
    refine ⟨_, rfl, ?_⟩
    rw [hg, cond_true]
    refine ⟨_, _, _, _, _, ca_i hO (k := 1) (j := 0) rfl rfl, rfl, ?_⟩
    refine text_spec (hG.old hO.old) hb fun w5 h5 => ?_
    replace hO := hO.after h5
    refine ⟨_, rfl, ?_⟩
    rw [hg, if_pos rfl, ht, sB_beq, decide_eq_true rfl]
    exact hK _ hO.old
theorem parse_inj {o1 o2 : Int} {n1 n2 : List Int} (h1 : n1.length = 4) (h2 : n2.length = 4) (g1 : goodI o1 n1 = true) (g2 : goodI o2 n2 = true) (b1 : ∀ x ∈ n1, b64 x) (b2 : ∀ x ∈ n2, b64 x) (h : textI o1 n1 = textI o2 n2) : o1 = o2 ∧ n1 = n2 := by
  have e1 := parse_text h1 g1 b1
  have e2 := parse_text h2 g2 b2
  rw [h, e2] at e1
  injection e1 with e1
  injection e1 with e1 e2
  exact ⟨e1.symm, e2.symm⟩
theorem dropz_iff {xs : List Int} {m : Int} : (∀ (k : Nat) (x : Int), xs[k]? = some x → m ≤ (k : Int) → x = 0) ↔ ∀ x ∈ xs.drop m.toNat, x = 0 := by
  constructor
  · intro h x hx
    obtain ⟨i, hi⟩ := List.mem_iff_getElem?.1 hx
    rw [List.getElem?_drop] at hi
    exact h _ _ hi (by omega)
  · intro h k x hk hm
    refine h x (List.mem_iff_getElem?.2 ⟨k - m.toNat, ?_⟩)
    rw [List.getElem?_drop, show m.toNat + (k - m.toNat) = k by omega]
    exact hk
set_option maxHeartbeats 1000000 in
theorem lawTexts {op n0 n1 n2 n3 : Int} (hb : ∀ x ∈ [n0, n1, n2, n3], b64 x) (hG : Glb w) (hK : ∀ w', Old w w' → K (.bool true) w') : Ret Pg 4 [.agg ⟨[.int .i64 op, .int .i64 n0, .int .i64 n1, .int .i64 n2, .int .i64 n3]⟩] w K := by
  refine f4_ret ?_
  unfold f4
  have hO := Owns.start (w := w)
  refine new_i hO fun b1 _ hO => ?_
  refine awake_spec (hG.old hO.old) fun w1 h1 => ?_
  replace hO := hO.after h1
  refine ⟨_, rfl, ?_⟩
  rw [Bool.not_true, cond_false]
  (refine li_i hO (k := 0) (j := 0) rfl rfl rfl ?_)
  refine rmany_spec ?_
  refine ⟨_, rfl, ?_⟩
  have hm := manyI_bound op
  let Inv : Option Addr → Int → Bool → Int → World → Prop := fun p m b i w' => some ⟨b1, 0, none⟩ = p ∧ manyI op = m ∧ 0 ≤ i ∧ manyI op ≤ i ∧ i ≤ 4 ∧ (b = true ↔ 0 ≤ manyI op ∧ ∀ (k : Nat) (x : Int), [n0, n1, n2, n3][k]? = some x → manyI op ≤ (k : Int) → (k : Int) < i → x = 0) ∧
    Owns w w' ([cl b1 25 [.int .i64 op, .int .i64 n0, .int .i64 n1, .int .i64 n2, .int .i64 n3]] :: [])
  have hi0 : 0 ≤ (if 0 > manyI op then 0 else manyI op) ∧ manyI op ≤ (if 0 > manyI op then 0 else manyI op) ∧ (if 0 > manyI op then 0 else manyI op) ≤ 4 := by split <;> omega
  have hgd : decide (manyI op ≥ 0) = true ↔ (0 ≤ manyI op ∧ ∀ (k : Nat) (x : Int), [n0, n1, n2, n3][k]? = some x → manyI op ≤ (k : Int) → (k : Int) < (if 0 > manyI op then 0 else manyI op) → x = 0) := by
    rw [decide_eq_true_iff]
    constructor
    · intro h
      refine ⟨h, fun k x _ h1 h2 => ?_⟩
      rw [if_neg (by omega)] at h2
      omega
    · exact fun h => h.1
  refine LoopP_intro (ann := f4_ann) follows (fun x w => Inv x.1 x.2.1 x.2.2.1 x.2.2.2.1 w) (fun x _ => (4 - x.2.2.2.1 : Int).toNat) ⟨rfl, rfl, hi0.1, hi0.2.1, hi0.2.2, hgd, hO⟩ (fun x w h => (f4_l0_eq _ _ _ _ _ _ _).mpr ?_)
  suffices S : ∀ (p : Option Addr) (m : Int) (b : Bool) (i : Int), Inv p m b i w → f4_l0 p m b i w (fun x w => Inv x.1 x.2.1 x.2.2.1 x.2.2.2.1 w ∧ (4 - x.2.2.2.1 : Int).toNat < (4 - i : Int).toNat) _ from S _ _ _ _ h
  clear h x
  try clear hO
  rintro _ _ b i ⟨rfl, rfl, h0, h1, h4, hbv, hO⟩
  unfold f4_l0
  refine bif_d (fun hlt => ?_) (fun hlt => ?_)
  · have hei : IntKind.wrap .i64 (i + 1) = i + 1 := wrap64 (by omega) (by omega)
    rw [hei]
    obtain ⟨x, hx⟩ : ∃ x, [n0, n1, n2, n3][i.toNat]? = some x := ⟨_, List.getElem?_eq_getElem (show i.toNat < 4 by omega)⟩
    have step : ∀ c : Bool, (c = true ↔ (0 ≤ manyI op ∧ ∀ (k : Nat) (x : Int), [n0, n1, n2, n3][k]? = some x → manyI op ≤ (k : Int) → (k : Int) < i + 1 → x = 0)) → Inv (some ⟨b1, 0, none⟩) (manyI op) c (i + 1) _ ∧ (4 - (i + 1) : Int).toNat < (4 - i : Int).toNat := fun c hc => ⟨⟨rfl, rfl, by omega, by omega, by omega, hc, hO⟩, by omega⟩
    have hsplit : (0 ≤ manyI op ∧ ∀ (k : Nat) (x : Int), [n0, n1, n2, n3][k]? = some x → manyI op ≤ (k : Int) → (k : Int) < i + 1 → x = 0) ↔ ((0 ≤ manyI op ∧ ∀ (k : Nat) (x : Int), [n0, n1, n2, n3][k]? = some x → manyI op ≤ (k : Int) → (k : Int) < i → x = 0) ∧ x = 0) := by
      constructor
      · rintro ⟨a, c⟩
        exact ⟨⟨a, fun k y k1 k2 k3 => c k y k1 k2 (by omega)⟩, c _ _ hx (by omega) (by omega)⟩
      · rintro ⟨⟨a, c⟩, d⟩
        refine ⟨a, fun k y k1 k2 k3 => ?_⟩
        by_cases hk : k = i.toNat
        · subst hk; rw [hx] at k1; injection k1 with k1; omega
        · exact c k y k1 k2 (by omega)
    cases b with
    | true =>
      rw [cond_true]
      refine nn_i ?_
      refine ⟨h0, by omega, ?_⟩
      have hB := hO.row 0 0 rfl
      refine LI_i (n := x) (by
        rw [add_mk, at_mk, hB.cell, show 0 + 1 + i.toNat * 1 = i.toNat + 1 by omega, List.getElem?_cons_succ]
        have : [Value.int .i64 n0, Value.int .i64 n1, Value.int .i64 n2, Value.int .i64 n3] = [n0, n1, n2, n3].map (.int .i64) := rfl
        rw [this, List.getElem?_map, hx]; rfl) ?_
      refine step _ ?_
      have hbv' := hbv.1 rfl
      rw [hsplit, beq_iff_eq]
      exact ⟨fun h => ⟨hbv', h⟩, fun h => h.2⟩
    | false =>
      rw [cond_false]
      refine step _ ?_
      rw [hsplit]
      constructor
      · intro h; exact absurd h (by simp)
      · intro h; exact hbv.2 h.1
  · have hi4 : i = 4 := by omega
    have hgb : b = goodI op [n0, n1, n2, n3] := by
      rw [Bool.eq_iff_iff, hbv]
      unfold goodI
      rw [decide_eq_true_iff, ← dropz_iff]
      constructor
      · rintro ⟨a, c⟩
        refine ⟨a, fun k x k1 k2 => c k x k1 k2 ?_⟩
        have := (List.getElem?_eq_some_iff.1 k1).1
        simp at this
        omega
      · rintro ⟨a, c⟩
        exact ⟨a, fun k x k1 k2 _ => c k x k1 k2⟩
    rw [hgb]
    unfold f4_j1
    refine nn_i ?_
    (refine ⟨_, _, _, _, _, (by (refine ca_i hO (k := 0) (j := 0) rfl rfl)), rfl, ?_⟩)
    refine good_spec (hG.old hO.old) fun w4 h4 => ?_
    replace hO := hO.after h4
    refine ⟨_, rfl, ?_⟩
    rw [show (goodI op [n0, n1, n2, n3] == goodI op [n0, n1, n2, n3]) = true from beq_self_eq_true _, Bool.not_true, cond_false]
    refine nn_i ?_
    (refine li_i hO (k := 0) (j := 0) rfl rfl rfl ?_)
    refine smany_spec (hG.old hO.old) ?_
    refine ⟨_, rfl, ?_⟩
    rw [show (manyI op != manyI op) = false by simp, cond_false]
    unfold f4_j2
    cases hg : goodI op [n0, n1, n2, n3] with
    | false =>
      rw [Bool.not_false, cond_true]
      refine nn_i ?_
      (refine ⟨_, _, _, _, _, (by (refine ca_i hO (k := 0) (j := 0) rfl rfl)), rfl, ?_⟩)
      refine text_spec (hG.old hO.old) hb fun w5 h5 => ?_
      refine ⟨_, rfl, ?_⟩
      rw [hg, if_neg (by decide), sB_beq, decide_eq_true rfl]
      exact hK _ (hO.old.trans h5)
    | true =>
      rw [Bool.not_true, cond_false]
      refine nn_i ?_
      (refine ⟨_, _, _, _, _, (by (refine ca_i hO (k := 0) (j := 0) rfl rfl)), rfl, ?_⟩)
      refine text_spec (hG.old hO.old) hb fun w5 h5 => ?_
      replace hO := hO.after h5
      refine ⟨_, rfl, ?_⟩
      rw [hg, if_pos rfl]
      have hlen := textI_len (op := op) (ns := [n0, n1, n2, n3]) rfl hb (manyI op).toNat
      refine parse_spec (by unfold textI; omega) (hG.old hO.old) fun w6 h6 => ?_
      replace hO := hO.after h6
      rw [parse_text rfl hg hb]
      refine ⟨_, _, _, _, _, _, rfl, ?_⟩
      refine new_i hO fun b2 _ hO => ?_
      (refine st_i hO (k := 0) (j := 0) rfl rfl rfl trivial fun _ hO => ?_)
      (refine st_i hO (k := 0) (j := 0) rfl rfl rfl trivial fun _ hO => ?_)
      (refine st_i hO (k := 0) (j := 0) rfl rfl rfl trivial fun _ hO => ?_)
      (refine st_i hO (k := 0) (j := 0) rfl rfl rfl trivial fun _ hO => ?_)
      (refine st_i hO (k := 0) (j := 0) rfl rfl rfl trivial fun _ hO => ?_)
      replace hO := hO.drew
      try dsimp only [pick1, set2, List.set] at hO
      refine nn_i ?_
      refine ⟨_, _, _, _, _, ca_i hO (k := 1) (j := 0) rfl rfl, rfl, ?_⟩
      refine nn_i ?_
      refine li_i hO (k := 1) (j := 0) rfl rfl rfl ?_
      refine nn_i ?_
      refine ⟨_, _, _, _, ca4_i hO (k := 1) (j := 0) rfl, rfl, ?_⟩
      refine text_spec (hG.old hO.old) hb fun w7 h7 => ?_
      refine ⟨_, rfl, h7, ?_⟩
      refine rtext_spec hb fun w8 h8 => ?_
      refine ⟨_, rfl, h8, ?_⟩
      rw [hg, if_pos rfl, sB_beq, decide_eq_true rfl, cond_true]
      show cond ((0 : Int) == 0) _ _
      rw [show (((0 : Int)) == 0) = true from rfl, cond_true]
      refine ⟨_, _, _, _, _, ca_i hO (k := 0) (j := 0) rfl rfl, rfl, ?_⟩
      refine nn_i ?_
      refine ⟨_, _, _, _, _, ca_i hO (k := 1) (j := 0) rfl rfl, rfl, ?_⟩
      refine eqw_flat (xs := [op, n0, n1, n2, n3]) (ys := [op, n0, n1, n2, n3]) (by kernel_rfl) (by kernel_rfl) (by kernel_rfl) rfl rfl ?_
      rw [decide_eq_true rfl]
      exact hK _ ((hO.old.trans h7).trans h8)
end

end Go.Proofs.YtokpbanandikpaaDoor

set_option maxRecDepth 100000
set_option linter.unusedVariables false
set_option linter.unusedSimpArgs false
namespace Go.Proofs.YtokpbanandikpaaDoor
open Go Go.V Go.Proofs
open Go.Lib Go.RowKit Go.Sort
/-! ### a text's lines -/
def linesS : List UInt8 → List (List UInt8) × List UInt8
  | [] => ([], [])
  | c :: r => if c = 10 then ([] :: (linesS r).1, (linesS r).2) else match (linesS r).1 with
    | [] => ([], c :: (linesS r).2)
    | h :: q => ((c :: h) :: q, (linesS r).2)
def noNl (l : List UInt8) : Prop := ∀ c ∈ l, c ≠ 10
theorem linesS_nl (r : List UInt8) : linesS (10 :: r) = ([] :: (linesS r).1, (linesS r).2) := by
  rw [linesS, if_pos rfl]
theorem linesS_cons {c : UInt8} (hc : c ≠ 10) (r : List UInt8) : linesS (c :: r) = match (linesS r).1 with
    | [] => ([], c :: (linesS r).2)
    | h :: q => ((c :: h) :: q, (linesS r).2) := by
  rw [linesS, if_neg hc]
theorem linesS_free : ∀ {p : List UInt8}, noNl p → linesS p = ([], p)
  | [], _ => rfl
  | c :: p, h => by
    have h1 : c ≠ 10 := h c (by simp)
    have h2 := linesS_free (p := p) fun x hx => h x (by simp [hx])
    rw [linesS_cons h1, h2]
theorem linesS_app : ∀ {p r : List UInt8}, noNl p → linesS (p ++ 10 :: r) = (p :: (linesS r).1, (linesS r).2)
  | [], r, _ => by simp [linesS]
  | c :: p, r, h => by
    have h1 : c ≠ 10 := h c (by simp)
    have h2 := linesS_app (p := p) (r := r) fun x hx => h x (by simp [hx])
    rw [List.cons_append, linesS_cons h1, h2]
theorem linesS_join : ∀ {a b : List UInt8}, (linesS a).2 = [] → linesS (a ++ b) = ((linesS a).1 ++ (linesS b).1, (linesS b).2)
  | [], b, _ => rfl
  | c :: r, b, h => by
    rw [List.cons_append]
    by_cases hc : c = 10
    · subst hc
      rw [linesS_nl] at h
      rw [linesS_nl, linesS_nl, linesS_join h]
      rfl
    · rw [linesS_cons hc] at h
      rw [linesS_cons hc, linesS_cons hc]
      cases e : (linesS r).1 with
      | nil => rw [e] at h; simp at h
      | cons x q =>
        rw [e] at h
        have h : (linesS r).2 = [] := h
        have ih := linesS_join (b := b) h
        rw [e] at ih
        rw [ih]
        rfl
theorem index10 : ∀ (l : List UInt8), (index l [10] = -1 ∧ noNl l) ∨ ∃ p r, l = p ++ 10 :: r ∧ noNl p ∧ index l [10] = (p.length : Nat)
  | [] => .inl ⟨rfl, fun c hc => (by cases hc)⟩
  | b :: l => by
    by_cases hb : b = 10
    · subst hb
      exact .inr ⟨[], l, rfl, fun c hc => (by cases hc), by simp [index, List.isPrefixOf]⟩
    · have h0 : ([10] : List UInt8).isPrefixOf (b :: l) = false := by
        simp only [List.isPrefixOf, Bool.and_true]
        exact beq_eq_false_iff_ne.2 fun e => hb e.symm
      rcases index10 l with ⟨h1, h2⟩ | ⟨p, r, h1, h2, h3⟩
      · refine .inl ⟨?_, fun c hc => ?_⟩
        · unfold index
          rw [h0, h1]; rfl
        · rcases List.mem_cons.1 hc with rfl | hc
          · exact hb
          · exact h2 c hc
      · refine .inr ⟨b :: p, r, by rw [h1]; rfl, fun c hc => ?_, ?_⟩
        · rcases List.mem_cons.1 hc with rfl | hc
          · exact hb
          · exact h2 c hc
        · unfold index
          rw [h0, h3]
          have : (((p.length : Nat) : Int) == -1) = false := by rw [beq_eq_false_iff_ne]; omega
          rw [this]
          simp
theorem cut10 (l : List UInt8) : (noNl l ∧ Lib.cut l [10] = (l, [], false)) ∨ ∃ p r, l = p ++ 10 :: r ∧ noNl p ∧ Lib.cut l [10] = (p, r, true) := by
  rcases index10 l with ⟨h1, h2⟩ | ⟨p, r, h1, h2, h3⟩
  · refine .inl ⟨h2, ?_⟩
    unfold Lib.cut
    rw [h1, if_neg (by decide)]
  · refine .inr ⟨p, r, h1, h2, ?_⟩
    unfold Lib.cut
    rw [h3, if_pos (by omega), Int.toNat_natCast, List.length_singleton]
    have hd : l.drop (p.length + 1) = r := by
      rw [h1, show p.length + 1 = (p ++ [10]).length by simp, show p ++ 10 :: r = (p ++ [10]) ++ r by simp]
      exact List.drop_left' rfl
    have ht : l.take p.length = p := by rw [h1]; exact List.take_left' rfl
    rw [hd, ht]
def entV (x : List UInt8) : List Value := (entL (parseP x)).map (.int .i64)
def entsV (ls : List (List UInt8)) : List Value := ls.flatMap entV
/-- The number of the first line that is no entry's; 0: there is none. -/
def badAt : List (List UInt8) → List UInt8 → Nat
  | [], t => if t = [] then 0 else 1
  | x :: r, t => match parseP x with
    | none => 1
    | some _ => if badAt r t = 0 then 0 else badAt r t + 1
theorem badAt_pre {ls : List (List UInt8)} {t : List UInt8} : ∀ {pre : List (List UInt8)}, (∀ x ∈ pre, (parseP x).isSome = true) → badAt (pre ++ ls) t = if badAt ls t = 0 then 0 else pre.length + badAt ls t
  | [], _ => by
    rw [List.nil_append]
    split <;> simp_all
  | x :: pre, h => by
    have ih := badAt_pre (ls := ls) (t := t) (pre := pre) fun y hy => h y (by simp [hy])
    obtain ⟨e, he⟩ := Option.isSome_iff_exists.1 (h x (by simp))
    rw [List.cons_append]
    simp only [badAt]
    rw [he]
    simp only []
    rw [ih]
    split
    · simp
    · rw [if_neg (by omega), List.length_cons]; omega
theorem badAt_none {x : List UInt8} {r : List (List UInt8)} {t : List UInt8} (h : parseP x = none) : badAt (x :: r) t = 1 := by simp only [badAt]; rw [h]
theorem parseP_four {x : List UInt8} {op : Int} {ns : List Int} (h : parseP x = some (op, ns)) : ∃ a b c d, ns = [a, b, c, d] := by
  rw [parse_eq] at h
  exact four (parseR_some h).2.2.1
section
variable {w0 w : World} {Ls : List (List Ent)} {K : Value → World → Prop}
theorem cut_lib {l : List UInt8} (hl : l.length ≤ 100000) (hG : Glb w) (hK : ∀ w', Old w w' → K (.tuple ⟨[.string (sB (Lib.cut l [10]).1), .string (sB (Lib.cut l [10]).2.1), .bool (Lib.cut l [10]).2.2]⟩) w') : Ret Pg 26 [.string (sB l), .string (sB [10])] w K := by
  obtain ⟨m, hm⟩ := hG.ml
  refine Calls.mono (Tryd.strings_Cut (sB l) (sB [10]) m w (by rw [sB_size]; omega) hm) ?_
  rintro e w' ⟨rfl, n, rfl⟩
  exact ⟨_, rfl, hK _ ⟨Nat.le_refl _, fun _ _ => rfl, rfl, rfl⟩⟩
theorem apEntry {r : Rw} {K : Option Addr → Nat → Nat → World → Prop} {x : Option Addr} {m c : Nat} {news : List Value} (hO : Owns w0 w (r.ent 25 :: Ls)) (hr : r.ok 5) (hl : news.length = m * 5) (hx : x = none → m = 0) (hnews : ∀ a, x = some a → ∀ j u, news[j]? = some u → w.cell? (a.add j) = some u) (h1 : ∀ u ∈ news, u.oneCell' = true) (hb : r.n + m ≤ 1000000000)
    (hK : ∀ (r' : Rw) (w' : World), r'.ok 5 → r'.xs = r.xs ++ news → r'.n = r.n + m → Owns w0 w' (r'.ent 25 :: Ls) → (r.sp = [] → Old w w') → K r'.at_ r'.n r'.c w') : ApW Pg 37 37 (.slice r.at_ r.n r.c) (.slice x m c) w K :=
  ap_i (e := 25) rfl rfl rfl rfl hO hr hl hx hnews h1 (by simp only [maxLen]; omega) (by show (r.n + m) * 40 ≤ _; omega) hK
theorem entV_one {x : List UInt8} : ∀ u ∈ entV x, u.oneCell' = true := by
  intro u hu
  obtain ⟨y, _, rfl⟩ := List.mem_map.1 hu
  rfl
set_option maxHeartbeats 1000000 in
theorem all_spec {l : List UInt8} (hl : l.length ≤ 700) (hG : Glb w)
    (hOK : badAt (linesS l).1 (linesS l).2 = 0 → ∀ (r : Rw) w', r.ok 5 → r.xs = entsV (linesS l).1 → r.n = (linesS l).1.length → Owns w w' [r.ent 25] → K (.tuple ⟨[.slice r.at_ r.n r.c, .int .i64 0, .int .i64 0]⟩) w')
    (hBad : badAt (linesS l).1 (linesS l).2 ≠ 0 → ∀ w', Old w w' → K (.tuple ⟨[.slice none 0 0, .int .i64 (badAt (linesS l).1 (linesS l).2), .int .i64 10]⟩) w') : Ret Pg 16 [.string (sB l)] w K := by
  refine f16_ret ?_
  unfold f16
  have hO : Owns w w [Rw.none_.ent 25] := (Owns.start (w := w)).sub (by simp [Rw.none_, Rw.ent])
  let w1 := w
  let Inv : ByteArray → Sl → Int → World → Prop := fun t s n w' => ∃ (rest : List UInt8) (pre : List (List UInt8)) (r : Rw), sB rest = t ∧ (⟨r.at_, r.n, r.c⟩ : Sl) = s ∧ ((pre.length + 1 : Nat) : Int) = n ∧ linesS l = (pre ++ (linesS rest).1, (linesS rest).2) ∧ (∀ x ∈ pre, (parseP x).isSome = true) ∧ r.ok 5 ∧ r.xs = entsV pre ∧ r.n = pre.length ∧ pre.length + rest.length ≤ l.length ∧ Owns w w' [r.ent 25]
  refine LoopP_intro (ann := f16_ann) follows (fun x w => Inv x.1 x.2.1 x.2.2.1 w) (fun x _ => x.1.size) ⟨l, [], Rw.none_, rfl, rfl, rfl, rfl, fun x hx => (by cases hx), Rw.none_ok, rfl, rfl, by simp, hO⟩ (fun x w h => (f16_l0_eq _ _ _ _ _ _ _).mpr ?_)
  suffices S : ∀ (t : ByteArray) (s : Sl) (n : Int), Inv t s n w → f16_l0 t s n w (fun x w => Inv x.1 x.2.1 x.2.2.1 w ∧ x.1.size < t.size) _ _ from S _ _ _ h
  clear h x
  try clear hO
  rintro _ _ _ ⟨rest, pre, r, rfl, rfl, rfl, hlin, hpre, hr, hx, hrn, hlen, hO⟩
  unfold f16_l0
  rw [sB_beq]
  have hl1 : (linesS l).1 = pre ++ (linesS rest).1 := by rw [hlin]
  have hl2 : (linesS l).2 = (linesS rest).2 := by rw [hlin]
  by_cases hre : rest = []
  · subst hre
    rw [decide_eq_true rfl, Bool.not_true, cond_false]
    have h1 : (linesS l).1 = pre := by rw [hl1]; exact List.append_nil _
    have hb : badAt (linesS l).1 (linesS l).2 = 0 := by
      rw [hl1, hl2, badAt_pre hpre]
      rfl
    exact hOK hb r _ hr (by rw [h1]; exact hx) (by rw [h1]; exact hrn) hO
  · rw [decide_eq_false hre, Bool.not_false, cond_true]
    refine cut_lib (by omega) (hG.old hO.old) fun w2 h2 => ?_
    replace hO := hO.after h2
    rcases cut10 rest with ⟨hnn, hc⟩ | ⟨p, q, hpq, hnn, hc⟩
    · rw [hc]
      refine ⟨_, _, _, rfl, ?_⟩
      have hb : badAt (linesS l).1 (linesS l).2 = pre.length + 1 := by
        have hb1 : badAt [] rest = 1 := by simp only [badAt]; rw [if_neg hre]
        rw [hl1, hl2, badAt_pre hpre, linesS_free hnn]
        simp [hb1]
      refine parse_spec (l := rest) (by omega) (hG.old hO.old) fun w3 h3 => ?_
      replace hO := hO.after h3
      have fin : ∀ {w4 : World}, Old w1 w4 → K (.tuple ⟨[.slice none 0 0, .int .i64 ((pre.length + 1 : Nat) : Int), .int .i64 10]⟩) w4 := fun ho => by
        have := hBad (by omega) _ ho
        rw [hb] at this
        exact this
      cases hp : parseP rest with
      | none =>
        refine ⟨_, _, _, _, _, _, rfl, ?_⟩
        refine new_i hO fun b1 _ hO => ?_
        (refine st_i hO (k := 0) (j := 0) rfl rfl rfl trivial fun _ hO => ?_)
        (refine st_i hO (k := 0) (j := 0) rfl rfl rfl trivial fun _ hO => ?_)
        (refine st_i hO (k := 0) (j := 0) rfl rfl rfl trivial fun _ hO => ?_)
        (refine st_i hO (k := 0) (j := 0) rfl rfl rfl trivial fun _ hO => ?_)
        (refine st_i hO (k := 0) (j := 0) rfl rfl rfl trivial fun _ hO => ?_)
        exact fin hO.old
      | some e =>
        obtain ⟨op, ns⟩ := e
        obtain ⟨m0, m1, m2, m3, rfl⟩ := parseP_four hp
        refine ⟨_, _, _, _, _, _, rfl, ?_⟩
        refine new_i hO fun b1 _ hO => ?_
        (refine st_i hO (k := 0) (j := 0) rfl rfl rfl trivial fun _ hO => ?_)
        (refine st_i hO (k := 0) (j := 0) rfl rfl rfl trivial fun _ hO => ?_)
        (refine st_i hO (k := 0) (j := 0) rfl rfl rfl trivial fun _ hO => ?_)
        (refine st_i hO (k := 0) (j := 0) rfl rfl rfl trivial fun _ hO => ?_)
        (refine st_i hO (k := 0) (j := 0) rfl rfl rfl trivial fun _ hO => ?_)
        exact fin hO.old
    · rw [hc]
      refine ⟨_, _, _, rfl, ?_⟩
      have hpl : rest.length = p.length + 1 + q.length := by rw [hpq]; simp; omega
      have hls : linesS rest = (p :: (linesS q).1, (linesS q).2) := by rw [hpq]; exact linesS_app hnn
      refine parse_spec (l := p) (by omega) (hG.old hO.old) fun w3 h3 => ?_
      replace hO := hO.after h3
      cases hp : parseP p with
      | none =>
        have hb : badAt (linesS l).1 (linesS l).2 = pre.length + 1 := by
          rw [hl1, hl2, badAt_pre hpre, hls]
          simp [badAt_none hp]
        refine ⟨_, _, _, _, _, _, rfl, ?_⟩
        refine new_i hO fun b1 _ hO => ?_
        (refine st_i hO (k := 0) (j := 0) rfl rfl rfl trivial fun _ hO => ?_)
        (refine st_i hO (k := 0) (j := 0) rfl rfl rfl trivial fun _ hO => ?_)
        (refine st_i hO (k := 0) (j := 0) rfl rfl rfl trivial fun _ hO => ?_)
        (refine st_i hO (k := 0) (j := 0) rfl rfl rfl trivial fun _ hO => ?_)
        (refine st_i hO (k := 0) (j := 0) rfl rfl rfl trivial fun _ hO => ?_)
        have := hBad (by omega) _ hO.old
        rw [hb] at this
        exact this
      | some e =>
        obtain ⟨op, ns⟩ := e
        obtain ⟨m0, m1, m2, m3, rfl⟩ := parseP_four hp
        refine ⟨_, _, _, _, _, _, rfl, ?_⟩
        refine new_i hO fun b1 _ hO => ?_
        (refine st_i hO (k := 0) (j := 0) rfl rfl rfl trivial fun _ hO => ?_)
        (refine st_i hO (k := 0) (j := 0) rfl rfl rfl trivial fun _ hO => ?_)
        (refine st_i hO (k := 0) (j := 0) rfl rfl rfl trivial fun _ hO => ?_)
        (refine st_i hO (k := 0) (j := 0) rfl rfl rfl trivial fun _ hO => ?_)
        (refine st_i hO (k := 0) (j := 0) rfl rfl rfl trivial fun _ hO => ?_)
        show cond (!true) _ _
        rw [Bool.not_true, cond_false]
        show cond ((0 : Int) != 0) _ _
        rw [show (((0 : Int)) != 0) = false from rfl, cond_false]
        try dsimp only [pick1, set2, List.set] at hO
        refine ⟨_, _, _, _, _, ca_i hO (k := 0) (j := 0) rfl rfl, rfl, ?_⟩
        refine new_i hO fun b2 _ hO => ?_
        refine apEntry (r := r) (m := 1) (news := entV p) (hO.pick 2) hr (by unfold entV; rw [hp]; rfl) (fun h => by cases h) (fun a ha j u hu => by
          cases ha
          rw [add_mk, Nat.zero_add, (hO.row 0 0 rfl).cell]
          unfold entV at hu
          rw [hp] at hu
          exact hu) entV_one (by omega) fun r' w' hr' hx' hn' hO _ => ?_
        refine ⟨⟨q, pre ++ [p], r', rfl, rfl, ?_, ?_, ?_, hr', ?_, ?_, ?_, hO.cut 1 2⟩, ?_⟩
        · show (((pre ++ [p]).length + 1 : Nat) : Int) = IntKind.wrap .i64 (((pre.length + 1 : Nat) : Int) + 1)
          rw [wrap64 (by omega) (by omega), List.length_append]; simp
        · rw [hlin, hls]; simp
        · intro x hx
          rcases List.mem_append.1 hx with hx | hx
          · exact hpre x hx
          · rw [List.mem_singleton.1 hx, hp]; rfl
        · rw [hx', hx]; simp [entsV]
        · rw [hn', hrn]; simp
        · simp; omega
        · show (sB q).size < (sB rest).size
          rw [sB_size, sB_size]; omega
end

end Go.Proofs.YtokpbanandikpaaDoor

set_option maxRecDepth 100000
set_option linter.unusedVariables false
set_option linter.unusedSimpArgs false
namespace Go.Proofs.YtokpbanandikpaaDoor
open Go Go.V Go.Proofs
open Go.Lib Go.RowKit Go.Sort
/-! ### a text's entries, line by line -/
theorem entL_five (x : List UInt8) : ∃ a b c d e, entL (parseP x) = [a, b, c, d, e] := by
  cases h : parseP x with
  | none => exact ⟨_, _, _, _, _, rfl⟩
  | some e =>
    obtain ⟨op, ns⟩ := e
    obtain ⟨a, b, c, d, rfl⟩ := parseP_four h
    exact ⟨_, _, _, _, _, rfl⟩
theorem entV_five (x : List UInt8) : ∃ a b c d e, entV x = [.int .i64 a, .int .i64 b, .int .i64 c, .int .i64 d, .int .i64 e] := by
  obtain ⟨a, b, c, d, e, h⟩ := entL_five x
  exact ⟨a, b, c, d, e, by unfold entV; rw [h]; rfl⟩
theorem entV_len (x : List UInt8) : (entV x).length = 5 := by
  obtain ⟨a, b, c, d, e, h⟩ := entV_five x
  rw [h]; rfl
theorem entsV_get : ∀ {A : List (List UInt8)} {i j : Nat} {x : List UInt8} {v : Value}, A[i]? = some x → (entV x)[j]? = some v → (entsV A)[i * 5 + j]? = some v
  | [], i, j, x, v, h, _ => by simp at h
  | y :: A, 0, j, x, v, h, hv => by
    have h : y = x := by simpa using h
    subst h
    have hj := (List.getElem?_eq_some_iff.1 hv).1
    show (entV y ++ entsV A)[0 * 5 + j]? = _
    rw [List.getElem?_append_left (by omega), show 0 * 5 + j = j by omega]
    exact hv
  | y :: A, i + 1, j, x, v, h, hv => by
    have h : A[i]? = some x := by simpa using h
    show (entV y ++ entsV A)[(i + 1) * 5 + j]? = _
    rw [List.getElem?_append_right (by rw [entV_len]; omega), entV_len, show (i + 1) * 5 + j - 5 = i * 5 + j by omega]
    exact entsV_get h hv
theorem entsV_len (A : List (List UInt8)) : (entsV A).length = A.length * 5 := by
  induction A with
  | nil => rfl
  | cons x A ih =>
    show (entV x ++ entsV A).length = _
    rw [List.length_append, ih, entV_len, List.length_cons]; omega
theorem entsV_app (A C : List (List UInt8)) : entsV (A ++ C) = entsV A ++ entsV C := by simp [entsV]
theorem entsV_one {A : List (List UInt8)} : ∀ u ∈ entsV A, u.oneCell' = true := by
  intro u hu
  obtain ⟨x, _, hx⟩ := List.mem_flatMap.1 hu
  exact entV_one u hx
theorem Rw.blkN {r : Rw} {sz n : Nat} (T : TypeId) (hr : r.ok sz) (hn : n < r.n) : ∃ b, r.p = some b ∧ r.at_ = some ⟨b, 0, none⟩ ∧ r.ent T = [cl b T (r.xs ++ r.sp)] := by
  cases hp : r.p with
  | none => have := hr.nil hp; have := hr.le; omega
  | some b => exact ⟨b, rfl, by simp [Rw.at_, hp], by simp [Rw.ent, hp]⟩
section
variable {w0 w : World} {Ls : List (List Ent)} {K : Value → World → Prop}
theorem ents_cells {k j b : Nat} {T : TypeId} {A : List (List UInt8)} {x : List UInt8} {sp : List Value} {i : Int} (hO : Owns w0 w Ls) (hk : at2 Ls k j = some (cl b T (entsV A ++ sp))) (hx : A[i.toNat]? = some x) : CellsAt w (Addr.at_ ⟨b, 0, none⟩ i 5) 0 (entV x) := by
  rw [at_mk]
  refine cells_of_blk (hO.row k j hk) fun q v hv => ?_
  have h := entsV_get hx hv
  rw [show 0 + i.toNat * 5 + (0 + q) = i.toNat * 5 + q by omega, List.getElem?_append_left (List.getElem?_eq_some_iff.1 h).1]
  exact h
/-- All's answer, both ways in one. -/
theorem all_spec' {l : List UInt8} (hl : l.length ≤ 700) (hG : Glb w)
    (hK : ∀ (r : Rw) w', r.ok 5 → (badAt (linesS l).1 (linesS l).2 = 0 → r.xs = entsV (linesS l).1 ∧ r.n = (linesS l).1.length) → (badAt (linesS l).1 (linesS l).2 ≠ 0 → r.n = 0) → Owns w w' [r.ent 25] → K (.tuple ⟨[.slice r.at_ r.n r.c, .int .i64 (badAt (linesS l).1 (linesS l).2), .int .i64 (if badAt (linesS l).1 (linesS l).2 = 0 then 0 else 10)]⟩) w') : Ret Pg 16 [.string (sB l)] w K := by
  refine all_spec hl hG (fun h0 r w' hr hx hn hO => ?_) (fun h0 w' ho => ?_)
  · have := hK r w' hr (fun _ => ⟨hx, hn⟩) (fun h => absurd h0 h) hO
    rw [if_pos h0, h0] at this
    exact this
  · have := hK Rw.none_ w' Rw.none_ok (fun h => absurd h h0) (fun _ => rfl) ((((Owns.start (w := w)).after ho)).sub (by simp [Rw.none_, Rw.ent]))
    rw [if_neg h0] at this
    exact this
theorem badAt_zero {t : List UInt8} : ∀ {A : List (List UInt8)}, badAt A t = 0 → t = [] ∧ ∀ x ∈ A, (parseP x).isSome = true
  | [], h => by
    simp only [badAt] at h
    split at h
    · exact ⟨‹_›, fun x hx => by cases hx⟩
    · cases h
  | x :: A, h => by
    simp only [badAt] at h
    cases hp : parseP x with
    | none => rw [hp] at h; cases h
    | some e =>
      rw [hp] at h
      simp only [] at h
      split at h
      · rename_i h0
        obtain ⟨a, b⟩ := badAt_zero h0
        refine ⟨a, fun y hy => ?_⟩
        rcases List.mem_cons.1 hy with rfl | hy
        · rw [hp]; rfl
        · exact b y hy
      · omega
theorem linesS_take {l : List UInt8} {n : Nat} {pre : List (List UInt8)} (h : linesS (l.take n) = (pre, [])) : linesS l = (pre ++ (linesS (l.drop n)).1, (linesS (l.drop n)).2) := by
  have := linesS_join (a := l.take n) (b := l.drop n) (by rw [h])
  rw [List.take_append_drop, h] at this
  exact this
theorem sB_extract (l : List UInt8) (a b : Nat) : ByteArray.extract (sB l) a b = sB ((l.take b).drop a) := by
  apply ByteArray.ext
  apply Array.ext'
  simp only [ByteArray.data_extract, Array.toList_extract, List.extract_eq_take_drop]
  show (l.drop a).take (b - a) = (l.take b).drop a
  rw [List.drop_take]
theorem nsE_four (x : List UInt8) : ∃ a b c d, nsE (parseR x) = [a, b, c, d] := by
  cases h : parseR x with
  | none => exact ⟨_, _, _, _, rfl⟩
  | some e =>
    obtain ⟨op, ns⟩ := e
    exact four (parseR_some h).2.2.1
set_option maxHeartbeats 1000000 in
theorem lawAlls {l : List UInt8} (hG : Glb w) (hK : ∀ w', Old w w' → K (.bool true) w') : Ret Pg 6 [.string (sB l)] w K := by
  refine f6_ret ?_
  unfold f6
  refine awake_spec hG fun w1 h1 => ?_
  refine ⟨_, rfl, ?_⟩
  rw [Bool.not_true, cond_false, sB_size]
  refine bif_d (fun hl => ?_) (fun hl => ?_)
  · exact awake_spec (hG.old h1) fun w2 h2 => ⟨_, rfl, hK _ (h1.trans h2)⟩
  unfold f6_j1
  have hO := (Owns.start (w := w)).after h1
  refine all_spec' (l := l) (by omega) (hG.old h1) fun Ra w2 hra hgood hbad hO2 => ?_
  replace hO := hO.join hO2
  refine ⟨_, _, _, _, _, rfl, ?_⟩
  let ws := w
  let B := badAt (linesS l).1 (linesS l).2
  have hO0 : Owns ws w2 (Rw.none_.ent 25 :: Ra.ent 25 :: []) := hO.sub (by simp [Rw.none_, Rw.ent])
  let Inv : ByteArray → Sl → Int → Int → Sl → Int → Int → Int → Int → World → Prop := fun t s n f q fr ln m i w' => sB l = t ∧ (⟨Ra.at_, Ra.n, Ra.c⟩ : Sl) = s ∧ (B : Int) = n ∧ (if B = 0 then (0 : Int) else 10) = f ∧ (l.length : Int) = m ∧ 0 ≤ fr ∧ fr ≤ i ∧ i ≤ l.length ∧ noNl ((l.take i.toNat).drop fr.toNat) ∧
    ∃ (pre : List (List UInt8)) (r : Rw), (⟨r.at_, r.n, r.c⟩ : Sl) = q ∧ ((pre.length + 1 : Nat) : Int) = ln ∧ linesS (l.take fr.toNat) = (pre, []) ∧ (∀ x ∈ pre, (parseP x).isSome = true) ∧ r.ok 5 ∧ r.xs = entsV pre ∧ r.n = pre.length ∧ pre.length ≤ fr.toNat ∧ Owns ws w' (r.ent 25 :: Ra.ent 25 :: [])
  clear hO hO2
  refine LoopP_intro (ann := f6_ann) follows (fun x w => Inv x.1 x.2.1 x.2.2.1 x.2.2.2.1 x.2.2.2.2.1 x.2.2.2.2.2.1 x.2.2.2.2.2.2.1 x.2.2.2.2.2.2.2.1 x.2.2.2.2.2.2.2.2.1 w) (fun x _ => (l.length - x.2.2.2.2.2.2.2.2.1 : Int).toNat) ⟨rfl, rfl, rfl, rfl, rfl, Int.le_refl 0, Int.le_refl 0, Int.natCast_nonneg _, fun c hc => (by simp at hc), [], Rw.none_, rfl, rfl, rfl, fun x hx => (by cases hx), Rw.none_ok, rfl, rfl, Nat.zero_le _, hO0⟩ (fun x w h => (f6_l0_eq _ _ _ _ _ _ _ _ _ _ _ _ _).mpr ?_)
  suffices S : ∀ (t : ByteArray) (s : Sl) (n : Int) (f : Int) (q : Sl) (fr : Int) (ln : Int) (m : Int) (i : Int), Inv t s n f q fr ln m i w → f6_l0 t s n f q fr ln m i w (fun x w => Inv x.1 x.2.1 x.2.2.1 x.2.2.2.1 x.2.2.2.2.1 x.2.2.2.2.2.1 x.2.2.2.2.2.2.1 x.2.2.2.2.2.2.2.1 x.2.2.2.2.2.2.2.2.1 w ∧ (l.length - x.2.2.2.2.2.2.2.2.1 : Int).toNat < (l.length - i : Int).toNat) _ _ from S _ _ _ _ _ _ _ _ _ h
  clear h x
  try clear hO
  rintro _ _ _ _ _ fr _ _ i ⟨rfl, rfl, rfl, rfl, rfl, hf0, hfi, hil, hnn, pre, r, rfl, rfl, hpl, hpre, hr, hx, hrn, hpf, hO⟩
  unfold f6_l0
  have hlin := linesS_take hpl
  have hl1 : (linesS l).1 = pre ++ (linesS (l.drop fr.toNat)).1 := by rw [hlin]
  have hl2 : (linesS l).2 = (linesS (l.drop fr.toNat)).2 := by rw [hlin]
  refine bif_d (fun hlt => ?_) (fun hlt => ?_)
  · obtain ⟨u, hu⟩ : ∃ u, l[i.toNat]? = some u := ⟨_, List.getElem?_eq_getElem (by omega)⟩
    have hei : IntKind.wrap .i64 (i + 1) = i + 1 := wrap64 (by omega) (by omega)
    refine ⟨u, ⟨by omega, by rw [sB_get]; exact hu⟩, ?_⟩
    rw [hei]
    have htk := take_snoc hu
    have hdr : (l.take (i + 1).toNat).drop fr.toNat = (l.take i.toNat).drop fr.toNat ++ [u] := by
      rw [show (i + 1).toNat = i.toNat + 1 by omega, htk, List.drop_append_of_le_length (by rw [List.length_take]; omega)]
    refine bif_ne (fun h10 => ?_) (fun h10 => ?_)
    · have hu10 : u ≠ 10 := fun e => h10 (by subst e; rfl)
      refine ⟨⟨rfl, rfl, rfl, rfl, rfl, hf0, ?_, ?_, ?_, pre, r, rfl, rfl, hpl, hpre, hr, hx, hrn, hpf, hO⟩, ?_⟩
      · show fr ≤ i + 1; omega
      · show i + 1 ≤ l.length; omega
      · show noNl ((l.take (i + 1).toNat).drop fr.toNat)
        rw [hdr]
        intro c hc
        rcases List.mem_append.1 hc with hc | hc
        · exact hnn c hc
        · rw [List.mem_singleton.1 hc]; exact hu10
      · show (l.length - (i + 1) : Int).toNat < (l.length - i : Int).toNat; omega
    · have hu10 : u = 10 := UInt8.toNat_inj.1 (by simp; omega)
      subst hu10
      refine ⟨hf0, hfi, by rw [sB_size]; omega, ?_⟩
      rw [sB_extract]
      have hsp : l.drop fr.toNat = (l.take i.toNat).drop fr.toNat ++ 10 :: l.drop (i.toNat + 1) := by
        obtain ⟨hl2, he⟩ := List.getElem?_eq_some_iff.1 hu
        conv => lhs; rw [← List.take_append_drop i.toNat l, List.drop_append_of_le_length (by rw [List.length_take]; omega), List.drop_eq_getElem_cons hl2, he]
      have hls : linesS (l.drop fr.toNat) = ((l.take i.toNat).drop fr.toNat :: (linesS (l.drop (i.toNat + 1))).1, (linesS (l.drop (i.toNat + 1))).2) := by rw [hsp]; exact linesS_app hnn
      have hlen : ((l.take i.toNat).drop fr.toNat).length ≤ 1000 := by simp; omega
      generalize hq : (l.take i.toNat).drop fr.toNat = q at *
      have hpe := parse_eq q
      refine parse_ref hlen fun w5 h5 => ?_
      replace hO := hO.after h5
      rw [← hpe]
      cases hp : parseP q with
      | none =>
        have hB : B = pre.length + 1 := by
          show badAt (linesS l).1 (linesS l).2 = _
          rw [hl1, hl2, badAt_pre hpre, hls]
          simp [badAt_none hp]
        refine ⟨_, _, _, _, _, _, rfl, ?_⟩
        refine new_i hO fun b1 _ hO => ?_
        (refine st_i hO (k := 0) (j := 0) rfl rfl rfl trivial fun _ hO => ?_)
        (refine st_i hO (k := 0) (j := 0) rfl rfl rfl trivial fun _ hO => ?_)
        (refine st_i hO (k := 0) (j := 0) rfl rfl rfl trivial fun _ hO => ?_)
        (refine st_i hO (k := 0) (j := 0) rfl rfl rfl trivial fun _ hO => ?_)
        show cond (!false) _ _
        rw [Bool.not_false, cond_true, hB, if_neg (by omega)]
        show cond ((10 : Int) == 10) _ _
        rw [show (((10 : Int)) == 10) = true from rfl, cond_true, beq_self_eq_true, cond_true]
        have h0 : Ra.n = 0 := hbad (by show B ≠ 0; omega)
        show K (.bool (((Ra.n : Nat) : Int) == 0)) _
        rw [h0]
        exact hK _ hO.old
      | some e =>
        obtain ⟨op, ns⟩ := e
        obtain ⟨m0, m1, m2, m3, rfl⟩ := parseP_four hp
        refine ⟨_, _, _, _, _, _, rfl, ?_⟩
        refine new_i hO fun b1 _ hO => ?_
        (refine st_i hO (k := 0) (j := 0) rfl rfl rfl trivial fun _ hO => ?_)
        (refine st_i hO (k := 0) (j := 0) rfl rfl rfl trivial fun _ hO => ?_)
        (refine st_i hO (k := 0) (j := 0) rfl rfl rfl trivial fun _ hO => ?_)
        (refine st_i hO (k := 0) (j := 0) rfl rfl rfl trivial fun _ hO => ?_)
        show cond (!true) _ _
        rw [Bool.not_true, cond_false]
        unfold f6_j2
        try dsimp only [pick1, set2, List.set] at hO
        refine ⟨_, _, _, _, ca_i hO (k := 0) (j := 0) rfl rfl, rfl, ?_⟩
        refine new_i hO fun b2 _ hO => ?_
        refine apEntry (r := r) (m := 1) (news := entV q) (hO.pick 2) hr (by unfold entV; rw [hp]; rfl) (fun h => by cases h) (fun a ha j u hu => by
          cases ha
          rw [add_mk, Nat.zero_add, (hO.row 0 0 rfl).cell]
          unfold entV at hu
          rw [hp] at hu
          exact hu) entV_one (by omega) fun r' w' hr' hx' hn' hO _ => ?_
        rw [hei]
        have hpl2 : linesS (l.take (i.toNat + 1)) = (pre ++ [q], []) := by
          have e1 : l.take (i.toNat + 1) = l.take fr.toNat ++ (q ++ 10 :: []) := by
            rw [htk, ← hq]
            conv => lhs; rw [← List.take_append_drop fr.toNat (l.take i.toNat)]
            rw [List.take_take, Nat.min_eq_left (by omega)]
            simp
          rw [e1, linesS_join (by rw [hpl]), hpl, linesS_app hnn]
          rfl
        refine ⟨⟨rfl, rfl, rfl, rfl, rfl, ?_, ?_, ?_, ?_, pre ++ [q], r', rfl, ?_, ?_, ?_, hr', ?_, ?_, ?_, hO.cut 1 2⟩, ?_⟩
        · show 0 ≤ i + 1; omega
        · exact Int.le_refl _
        · show i + 1 ≤ l.length; omega
        · show noNl ((l.take (i + 1).toNat).drop (i + 1).toNat)
          rw [List.drop_eq_nil_of_le (by rw [List.length_take]; omega)]
          intro c hc; cases hc
        · show (((pre ++ [q]).length + 1 : Nat) : Int) = IntKind.wrap .i64 (((pre.length + 1 : Nat) : Int) + 1)
          rw [wrap64 (by omega) (by omega), List.length_append]; simp
        · show linesS (l.take (i + 1).toNat) = _
          rw [show (i + 1).toNat = i.toNat + 1 by omega]
          exact hpl2
        · intro x hx
          rcases List.mem_append.1 hx with hx | hx
          · exact hpre x hx
          · rw [List.mem_singleton.1 hx, hp]; rfl
        · rw [hx', hx]; simp [entsV]
        · rw [hn', hrn]; simp
        · show (pre ++ [q]).length ≤ (i + 1).toNat
          rw [List.length_append, List.length_singleton]; omega
        · show (l.length - (i + 1) : Int).toNat < (l.length - i : Int).toNat; omega
  · rw [List.take_of_length_le (by omega)] at hnn
    show f6_j3 _ _ _ _ _ _ _ _ _ _ _ _ _
    unfold f6_j3
    rw [sB_size]
    refine bif_d (fun hfl => ?_) (fun hfl => ?_)
    · have hfl : fr < (l.length : Int) := hfl
      have hne : l.drop fr.toNat ≠ [] := by
        intro h
        have := List.drop_eq_nil_iff.1 h
        omega
      have hB : B = pre.length + 1 := by
        have hb1 : badAt [] (l.drop fr.toNat) = 1 := by simp only [badAt]; rw [if_neg hne]
        show badAt (linesS l).1 (linesS l).2 = _
        rw [hl1, hl2, badAt_pre hpre, linesS_free hnn]
        simp [hb1]
      rw [hB, if_neg (by omega)]
      show cond ((10 : Int) == 10) _ _
      rw [show (((10 : Int)) == 10) = true from rfl, cond_true, beq_self_eq_true, cond_true]
      have h0 : Ra.n = 0 := hbad (by show B ≠ 0; omega)
      show K (.bool (((Ra.n : Nat) : Int) == 0)) _
      rw [h0]
      exact hK _ hO.old
    · have hfl : ¬ fr < (l.length : Int) := hfl
      have he : l.drop fr.toNat = [] := List.drop_eq_nil_of_le (by omega)
      have h1 : (linesS l).1 = pre := by rw [hl1, he]; exact List.append_nil _
      have h2 : (linesS l).2 = [] := by rw [hl2, he]; rfl
      have hB : B = 0 := by
        show badAt (linesS l).1 (linesS l).2 = _
        rw [hl1, hl2, badAt_pre hpre, he]; rfl
      obtain ⟨hax, han⟩ := hgood hB
      rw [h1] at hax han
      unfold f6_j4
      rw [hB, if_pos rfl]
      show cond ((0 : Int) != 0) _ (cond ((0 : Int) != 0) _ (cond (((Ra.n : Nat) : Int) != ((r.n : Nat) : Int)) _ _))
      rw [show (((0 : Int)) != 0) = false from rfl, cond_false, cond_false, han, hrn, show ((((pre.length : Nat) : Int)) != ((pre.length : Nat) : Int)) = false by simp, cond_false]
      unfold f6_j5
      let Inv2 : Sl → Sl → Int → Int → World → Prop := fun s q m i w' => (⟨Ra.at_, pre.length, Ra.c⟩ : Sl) = s ∧ (⟨r.at_, pre.length, r.c⟩ : Sl) = q ∧ (pre.length : Int) = m ∧ 0 ≤ i ∧ i ≤ pre.length ∧ Owns ws w' (r.ent 25 :: Ra.ent 25 :: [])
      have hOk := hO
      clear Inv
      let Inv := Inv2
      clear hlt
      refine LoopP_intro (ann := f6_ann) follows (fun x w => Inv x.1 x.2.1 x.2.2.1 x.2.2.2.1 w) (fun x _ => (pre.length - x.2.2.2.1 : Int).toNat) ⟨rfl, rfl, rfl, Int.le_refl 0, Int.natCast_nonneg _, hOk⟩ (fun x w h => (f6_l1_eq _ _ _ _ _ _ _ _).mpr ?_)
      suffices S : ∀ (s : Sl) (q : Sl) (m : Int) (i : Int), Inv s q m i w → f6_l1 s q m i w (fun x w => Inv x.1 x.2.1 x.2.2.1 x.2.2.2.1 w ∧ (pre.length - x.2.2.2.1 : Int).toNat < (pre.length - i : Int).toNat) _ _ from S _ _ _ _ h
      clear h x
      try clear hO
      rintro _ _ _ i ⟨rfl, rfl, rfl, h0, hi, hO⟩
      unfold f6_l1
      refine bif_d (fun hlt => ?_) (fun hlt => ?_)
      · obtain ⟨x, hxi⟩ : ∃ x, pre[i.toNat]? = some x := ⟨_, List.getElem?_eq_getElem (by omega)⟩
        obtain ⟨a0, a1, a2, a3, a4, he5⟩ := entV_five x
        obtain ⟨ba, _, hata, hea⟩ := Rw.blkN 25 hra (n := i.toNat) (by omega)
        obtain ⟨br, _, hatr, her⟩ := Rw.blkN 25 hr (n := i.toNat) (by omega)
        have hOo := hO.drew
        rw [hea, her, hax, hx] at hO
        refine ⟨h0, hlt, ?_⟩
        rw [hata]
        refine nn_i ?_
        replace hO := hO.drew
        refine ⟨a0, a1, a2, a3, a4, by rw [← he5]; exact ents_cells hO (k := 1) (j := 0) rfl hxi, rfl, h0, hlt, ?_⟩
        rw [hatr]
        refine nn_i ?_
        refine ⟨a0, a1, a2, a3, a4, by rw [← he5]; exact ents_cells hO (k := 0) (j := 0) rfl hxi, rfl, ?_⟩
        refine eqw_flat (xs := [a0, a1, a2, a3, a4]) (ys := [a0, a1, a2, a3, a4]) (by kernel_rfl) (by kernel_rfl) (by kernel_rfl) rfl rfl ?_
        rw [decide_eq_true rfl, Bool.not_true, cond_false, show IntKind.wrap .i64 (i + 1) = i + 1 from wrap64 (by omega) (by omega)]
        refine ⟨⟨by rw [hata], by rw [hatr], rfl, ?_, ?_, hOo⟩, ?_⟩
        · show 0 ≤ i + 1; omega
        · show i + 1 ≤ pre.length; omega
        · show (pre.length - (i + 1) : Int).toNat < (pre.length - i : Int).toNat; omega
      · exact hK _ hO.old
end

end Go.Proofs.YtokpbanandikpaaDoor

set_option maxRecDepth 100000
set_option linter.unusedVariables false
set_option linter.unusedSimpArgs false
namespace Go.Proofs.YtokpbanandikpaaDoor
open Go Go.V Go.Proofs
open Go.Lib Go.RowKit Go.Sort
/-! ### two texts, one behind the other -/
theorem badAt_left {C : List (List UInt8)} {t : List UInt8} : ∀ {A : List (List UInt8)}, badAt A [] ≠ 0 → badAt (A ++ C) t ≠ 0
  | [], h => absurd rfl h
  | x :: A, h => by
    rw [List.cons_append]
    simp only [badAt] at h ⊢
    cases hp : parseP x with
    | none => simp
    | some e =>
      rw [hp] at h
      simp only [] at h ⊢
      by_cases h0 : badAt A [] = 0
      · rw [if_pos h0] at h; exact absurd rfl h
      · have := badAt_left (C := C) (t := t) h0
        rw [if_neg this]; omega
theorem linesS_last : ∀ (m : List UInt8), (linesS (m ++ [10])).1 ≠ [] ∧ (linesS (m ++ [10])).2 = []
  | [] => by constructor <;> simp [linesS]
  | c :: m => by
    obtain ⟨h1, h2⟩ := linesS_last m
    rw [List.cons_append]
    by_cases hc : c = 10
    · subst hc
      rw [linesS_nl]
      exact ⟨by simp, h2⟩
    · rw [linesS_cons hc]
      cases e : (linesS (m ++ [10])).1 with
      | nil => exact absurd e h1
      | cons x q => exact ⟨by simp, h2⟩
theorem linesS_len : ∀ (l : List UInt8), (linesS l).1.length ≤ l.length
  | [] => Nat.le_refl _
  | c :: r => by
    have ih := linesS_len r
    by_cases hc : c = 10
    · subst hc
      rw [linesS_nl]
      simp only [List.length_cons]; omega
    · rw [linesS_cons hc]
      cases e : (linesS r).1 with
      | nil => simp
      | cons x q => rw [e] at ih; simp only [List.length_cons] at ih ⊢; omega
theorem at2_get : ∀ {Ls : List (List Ent)} {k j : Nat} {s : List Ent}, Ls[k]? = some s → at2 Ls k j = s[j]?
  | [], _, _, _, h => by simp at h
  | s' :: _, 0, j, s, h => by
    have h : s' = s := by simpa using h
    subst h
    rfl
  | _ :: r, k + 1, j, s, h => by
    have h : r[k]? = some s := by simpa using h
    exact at2_get (Ls := r) h
section
variable {w0 w : World} {Ls : List (List Ent)} {K : Value → World → Prop}
theorem Rw.cells {r : Rw} {T : TypeId} {k : Nat} (hO : Owns w0 w Ls) (hk : Ls[k]? = some (r.ent T)) : ∀ a, r.at_ = some a → ∀ (j : Nat) u, r.xs[j]? = some u → w.cell? (a.add j) = some u := by
  intro a ha j u hu
  cases hp : r.p with
  | none => simp [Rw.at_, hp] at ha
  | some b =>
    have ha : (⟨b, 0, none⟩ : Addr) = a := by simpa [Rw.at_, hp] using ha
    subst ha
    have h2 : at2 Ls k 0 = some (cl b T (r.xs ++ r.sp)) := by rw [at2_get hk]; simp [Rw.ent, hp]
    rw [add_mk, Nat.zero_add, (hO.row k 0 h2).cell, List.getElem?_append_left (List.getElem?_eq_some_iff.1 hu).1]
    exact hu
set_option maxHeartbeats 1000000 in
theorem lawJoins {a b : List UInt8} (hG : Glb w) (hK : ∀ w', Old w w' → K (.bool true) w') : Ret Pg 7 [.string (sB a), .string (sB b)] w K := by
  refine f7_ret ?_
  unfold f7
  refine awake_spec hG fun w1 h1 => ?_
  refine ⟨_, rfl, ?_⟩
  rw [Bool.not_true, cond_false, sB_size, sB_size]
  refine bif_d (fun hl => ?_) (fun hl => ?_)
  · exact awake_spec (hG.old h1) fun w2 h2 => ⟨_, rfl, hK _ (h1.trans h2)⟩
  refine bif_d (fun hl2 => ?_) (fun hl2 => ?_)
  · exact awake_spec (hG.old h1) fun w2 h2 => ⟨_, rfl, hK _ (h1.trans h2)⟩
  unfold f7_j1
  have hO := (Owns.start (w := w)).after h1
  refine all_spec' (l := a) (by omega) (hG.old hO.old) fun R1 w2 hr1 hgood1 hbad1 hO2 => ?_
  replace hO := hO.join hO2
  refine ⟨_, _, _, _, _, rfl, ?_⟩
  refine all_spec' (l := b) (by omega) (hG.old hO.old) fun R2 w3 hr2 hgood2 hbad2 hO3 => ?_
  replace hO := hO.join hO3
  refine ⟨_, _, _, _, _, rfl, ?_⟩
  refine ⟨by rw [sB_size, sB_size]; omega, ?_⟩
  rw [sB_app]
  refine all_spec' (l := a ++ b) (by rw [List.length_append]; omega) (hG.old hO.old) fun R3 w4 hr3 hgood3 hbad3 hO4 => ?_
  replace hO := hO.join hO4
  refine ⟨_, _, _, _, _, rfl, ?_⟩
  have hO : Owns w w4 (R3.ent 25 :: R2.ent 25 :: R1.ent 25 :: []) := hO
  have hl1 := linesS_len a
  have hl2' := linesS_len b
  by_cases hB1 : badAt (linesS a).1 (linesS a).2 = 0
  · obtain ⟨ht1, hp1⟩ := badAt_zero hB1
    have hj := linesS_join (b := b) ht1
    have hj1 : (linesS (a ++ b)).1 = (linesS a).1 ++ (linesS b).1 := by rw [hj]
    have hj2 : (linesS (a ++ b)).2 = (linesS b).2 := by rw [hj]
    have hB3 : badAt (linesS (a ++ b)).1 (linesS (a ++ b)).2 = if badAt (linesS b).1 (linesS b).2 = 0 then 0 else (linesS a).1.length + badAt (linesS b).1 (linesS b).2 := by rw [hj1, hj2, badAt_pre hp1]
    obtain ⟨hx1, hn1⟩ := hgood1 hB1
    rw [if_pos hB1, show (((0 : Int)) != 0) = false from rfl, cond_false]
    by_cases hB2 : badAt (linesS b).1 (linesS b).2 = 0
    · rw [if_pos hB2] at hB3
      obtain ⟨hx2, hn2⟩ := hgood2 hB2
      obtain ⟨hx3, hn3⟩ := hgood3 hB3
      rw [hj1] at hx3 hn3
      rw [if_pos hB2, show (((0 : Int)) != 0) = false from rfl, cond_false, if_pos hB3]
      unfold f7_j2
      rw [show (((0 : Int)) != 0) = false from rfl, cond_false, hn1, hn2, hn3, wrap64 (by omega) (by omega), show ((((((linesS a).1 ++ (linesS b).1).length : Nat) : Int)) != ((((linesS a).1.length : Nat) : Int) + (((linesS b).1.length : Nat) : Int))) = false by simp, cond_false]
      unfold f7_j3
      refine new_i hO fun bz _ hO => ?_
      let rz : Rw := ⟨some bz, 0, 0, [], []⟩
      have hrz : rz.ok 5 := ⟨rfl, rfl, Nat.le_refl _, Nat.zero_le _, fun _ => rfl⟩
      have nn : ∀ {r : Rw}, r.ok 5 → r.at_ = none → r.n = 0 := fun {r} hr h => by
        cases hp : r.p with
        | none => have := hr.nil hp; have := hr.le; omega
        | some q => simp [Rw.at_, hp] at h
      rw [← hn1, ← hn2]
      refine apEntry (r := rz) (m := R1.n) (news := R1.xs) hO hrz hr1.len (nn hr1) (Rw.cells hO (k := 3) rfl) (by rw [hx1]; exact entsV_one) (by show 0 + R1.n ≤ _; omega) fun r1 w5 hq1 hqx1 hqn1 hO _ => ?_
      refine apEntry (r := r1) (m := R2.n) (news := R2.xs) hO hq1 hr2.len (nn hr2) (Rw.cells hO (k := 2) rfl) (by rw [hx2]; exact entsV_one) (by rw [hqn1]; show 0 + R1.n + R2.n ≤ _; omega) fun r2 w6 hq2 hqx2 hqn2 hO _ => ?_
      let A3 := (linesS a).1 ++ (linesS b).1
      have hx : r2.xs = entsV A3 := by
        rw [hqx2, hqx1, hx1, hx2]
        show [] ++ _ ++ _ = _
        rw [List.nil_append, ← entsV_app]
      have hn : r2.n = A3.length := by
        rw [hqn2, hqn1, hn1, hn2]
        show 0 + _ + _ = _
        rw [Nat.zero_add, ← List.length_append]
      have hn3' : R3.n = A3.length := hn3
      rw [hn]
      let ws := w
      have hOk : Owns ws w6 (r2.ent 25 :: R3.ent 25 :: R2.ent 25 :: R1.ent 25 :: []) := hO
      have hA3 : A3.length ≤ 1000 := by
        show ((linesS a).1 ++ (linesS b).1).length ≤ _
        rw [List.length_append]; omega
      let Inv : Sl → Sl → Int → Int → World → Prop := fun s q m i w' => (⟨R3.at_, A3.length, R3.c⟩ : Sl) = s ∧ (⟨r2.at_, A3.length, r2.c⟩ : Sl) = q ∧ (A3.length : Int) = m ∧ 0 ≤ i ∧ i ≤ A3.length ∧ Owns ws w' (r2.ent 25 :: R3.ent 25 :: R2.ent 25 :: R1.ent 25 :: [])
      refine LoopP_intro (ann := f7_ann) follows (fun x w => Inv x.1 x.2.1 x.2.2.1 x.2.2.2.1 w) (fun x _ => (A3.length - x.2.2.2.1 : Int).toNat) ⟨rfl, rfl, rfl, Int.le_refl 0, Int.natCast_nonneg _, hOk⟩ (fun x w h => (f7_l0_eq _ _ _ _ _ _ _ _).mpr ?_)
      suffices S : ∀ (s : Sl) (q : Sl) (m : Int) (i : Int), Inv s q m i w → f7_l0 s q m i w (fun x w => Inv x.1 x.2.1 x.2.2.1 x.2.2.2.1 w ∧ (A3.length - x.2.2.2.1 : Int).toNat < (A3.length - i : Int).toNat) _ _ from S _ _ _ _ h
      clear h x
      try clear hO
      rintro _ _ _ i ⟨rfl, rfl, rfl, h0, hi, hO⟩
      unfold f7_l0
      refine bif_d (fun hlt => ?_) (fun hlt => ?_)
      · obtain ⟨x, hxi⟩ : ∃ x, A3[i.toNat]? = some x := ⟨_, List.getElem?_eq_getElem (by omega)⟩
        obtain ⟨a0, a1, a2, a3, a4, he5⟩ := entV_five x
        obtain ⟨b3, _, hat3, he3⟩ := Rw.blkN 25 hr3 (n := i.toNat) (by omega)
        obtain ⟨br, _, hatr, her⟩ := Rw.blkN 25 hq2 (n := i.toNat) (by omega)
        refine ⟨h0, hlt, ?_⟩
        rw [hatr]
        refine nn_i ?_
        refine ⟨a0, a1, a2, a3, a4, by rw [← he5]; exact ents_cells (T := 25) (b := br) (sp := r2.sp) hO (k := 0) (j := 0) (by show (r2.ent _)[0]? = _; rw [her, hx]; rfl) hxi, rfl, ?_⟩
        refine new_i hO fun bn _ hO => ?_
        (refine st_i hO (k := 0) (j := 0) rfl rfl rfl trivial fun _ hO => ?_)
        (refine st_i hO (k := 0) (j := 0) rfl rfl rfl trivial fun _ hO => ?_)
        (refine st_i hO (k := 0) (j := 0) rfl rfl rfl trivial fun _ hO => ?_)
        (refine st_i hO (k := 0) (j := 0) rfl rfl rfl trivial fun _ hO => ?_)
        (refine st_i hO (k := 0) (j := 0) rfl rfl rfl trivial fun _ hO => ?_)
        refine ⟨h0, hlt, ?_⟩
        rw [hat3]
        refine nn_i ?_
        replace hO := hO.drew
        refine ⟨a0, a1, a2, a3, a4, by rw [← he5]; exact ents_cells (T := 25) (b := b3) (sp := R3.sp) hO (k := 2) (j := 0) (by show (R3.ent _)[0]? = _; rw [he3, hx3]; rfl) hxi, rfl, ?_⟩
        refine ⟨_, _, _, _, _, ca_i hO (k := 0) (j := 0) rfl rfl, rfl, ?_⟩
        refine eqw_flat (xs := [a0, a1, a2, a3, a4]) (ys := [a0, a1, a2, a3, a4]) (by kernel_rfl) (by kernel_rfl) (by kernel_rfl) rfl rfl ?_
        rw [decide_eq_true rfl, Bool.not_true, cond_false, show IntKind.wrap .i64 (i + 1) = i + 1 from wrap64 (by omega) (by omega)]
        replace hO := hO.dropn 1 rfl
        refine ⟨⟨by rw [hat3], by rw [hatr], rfl, ?_, ?_, hO⟩, ?_⟩
        · show 0 ≤ i + 1; omega
        · show i + 1 ≤ A3.length; omega
        · show (A3.length - (i + 1) : Int).toNat < (A3.length - i : Int).toNat; omega
      · exact hK _ hO.old
    · rw [if_neg hB2] at hB3
      have h3 : badAt (linesS (a ++ b)).1 (linesS (a ++ b)).2 ≠ 0 := by omega
      have e2 := hbad2 hB2
      have e3 := hbad3 h3
      have hbl : badAt (linesS b).1 (linesS b).2 ≤ 1000 := by
        have key : ∀ (A : List (List UInt8)) (t : List UInt8), badAt A t ≤ A.length + 1 := by
          intro A
          induction A with
          | nil => intro t; simp only [badAt]; split <;> simp
          | cons x A ih =>
            intro t
            simp only [badAt]
            split
            · simp
            · have := ih t
              split
              · omega
              · simp only [List.length_cons]; omega
        have := key (linesS b).1 (linesS b).2
        omega
      rw [if_neg hB2, if_neg h3, show (((10 : Int)) != 0) = true from rfl, cond_true, show (((10 : Int)) == 10) = true from rfl, cond_true, hB3, hn1, wrap64 (by omega) (by omega), show (((((linesS a).1.length + badAt (linesS b).1 (linesS b).2 : Nat) : Int)) == ((((linesS a).1.length : Nat) : Int) + ((badAt (linesS b).1 (linesS b).2 : Nat) : Int))) = true by simp, cond_true, e3, show (((0 : Nat) : Int) == 0) = true from rfl, cond_true, e2, show (((0 : Nat) : Int) == 0) = true from rfl]
      exact hK _ hO.old
  · have e1 := hbad1 hB1
    rw [if_neg hB1, show (((10 : Int)) != 0) = true from rfl, cond_true, e1, show (((0 : Nat) : Int) == 0) = true from rfl, cond_true, decide_eq_true (show ((badAt (linesS a).1 (linesS a).2 : Nat) : Int) > 0 by omega), cond_true]
    by_cases hB3 : badAt (linesS (a ++ b)).1 (linesS (a ++ b)).2 = 0
    · rw [if_pos hB3, show (((0 : Int)) != 0) = false from rfl, cond_false]
      obtain ⟨m, u, rfl⟩ : ∃ m u, a = m ++ [u] := by
        rcases List.eq_nil_or_concat a with h | ⟨m, u, h⟩
        · subst h; exact absurd rfl hB1
        · exact ⟨m, u, by rw [h]; simp⟩
      have hu : u ≠ 10 := by
        intro hu
        subst hu
        have ht := (linesS_last m).2
        have hj := linesS_join (b := b) ht
        rw [ht] at hB1
        rw [hj] at hB3
        exact badAt_left hB1 hB3
      have hm : (m ++ [u]).length = m.length + 1 := by simp
      rw [sB_size, hm, wrap64 (by omega) (by omega)]
      refine ⟨u, ⟨by omega, ?_⟩, ?_⟩
      · rw [sB_get, show (((m.length + 1 : Nat) : Int) - 1).toNat = m.length by omega]
        simp
      · have : (((u.toNat : Nat) : Int) != 10) = true := by
          rw [bne_iff_ne]
          intro h
          exact hu (UInt8.toNat_inj.1 (by simp; omega))
        rw [this]
        exact hK _ hO.old
    · rw [if_neg hB3, show (((10 : Int)) != 0) = true from rfl, cond_true]
      exact hK _ hO.old
end

end Go.Proofs.YtokpbanandikpaaDoor

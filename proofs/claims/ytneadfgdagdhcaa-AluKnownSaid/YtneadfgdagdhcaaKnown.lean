/-
The walk of AluKnown, and that its answer is true: the examples at the ends answer as told. A closed statement.
-/
import Derived.Test.YtneadfgdagdhcaaAlu
import Derived.Test.YtneadfgdagdhcaaPAluTestsx1
namespace Go.Proofs.Ytneadfgdagdhcaa.Known
open Go Go.RowKit Go.Proofs.Ytneadfgdagdhcaa.PAluDivides Go.Proofs.YtneadfgdagdhcaaW.PrintWords Go.Proofs.YtneadfgdagdhcaaW.PrintLast Go.Proofs.YtneadfgdagdhcaaW.PrintMore
set_option linter.unusedSimpArgs false
set_option linter.unusedVariables false
open Go.Proofs.Ytneadfgdagdhcaa.Alu
set_option maxRecDepth 100000 in
set_option maxHeartbeats 2000000 in
theorem known_walk (w : World) : Calls Try.prog 10 #[] w fun e w' => e = .returned (.bool true) ∧ Below w.heap.size w w' := by
  have k0 : PAluTests.alu_Do.f (-1) 1 1 = some (0, 1) := by decide +kernel
  have h0 := Aside0.mk k0
  clear k0
  have k1 : PAluTests.alu_Test.f 2 1 1 = some (false, 1) := by decide +kernel
  have h1 := Aside0.mk k1
  clear k1
  have k2 : PAluTests.alu_Test.f 4 4294967295 0 = some (true, 0) := by decide +kernel
  have h2 := Aside0.mk k2
  clear k2
  have k3 : PAluTests.alu_Test.f 6 4294967295 0 = some (false, 0) := by decide +kernel
  have h3 := Aside0.mk k3
  clear k3
  have k4 : PAluTests.tincturelaw1_do.f 14 2147483648 4294967295 = some 2147483648 := by decide +kernel
  have h4 := Aside0.mk k4
  clear k4
  have k5 : PAluTests.tincturelaw1_do.f 16 2147483648 4294967295 = some 0 := by decide +kernel
  have h5 := Aside0.mk k5
  clear k5
  have k6 : PAluTests.tincturelaw1_do.f 17 9 0 = some 9 := by decide +kernel
  have h6 := Aside0.mk k6
  clear k6
  have k7 : PAluTests.tincturelaw1_do.f 11 2147483648 2147483648 = some 1073741824 := by decide +kernel
  have h7 := Aside0.mk k7
  clear k7
  have k8 : PAluTests.tincturelaw1_do.f 12 4294967295 4294967295 = some 4294967295 := by decide +kernel
  have h8 := Aside0.mk k8
  clear k8
  have k9 : PAluTests.tincturelaw1_do.f 13 4294967295 4294967295 = some 4294967294 := by decide +kernel
  have h9 := Aside0.mk k9
  clear k9
  have k10 : PAluTests.tincturelaw1_do.f 7 2147483648 31 = some 4294967295 := by decide +kernel
  have h10 := Aside0.mk k10
  clear k10
  have k11 : PAluTests.tincturelaw1_do.f 2 1 32 = some 1 := by decide +kernel
  have h11 := Aside0.mk k11
  clear k11
  have k12 : PAluTests.tincturelaw1_do.f 3 4294967295 0 = some 1 := by decide +kernel
  have h12 := Aside0.mk k12
  clear k12
  have k13 : PAluTests.tincturelaw1_do.f 4 4294967295 0 = some 0 := by decide +kernel
  have h13 := Aside0.mk k13
  clear k13
  have k14 : PAluTests.alu_Extend.f 32768 16 = some 4294934528 := by decide +kernel
  have h14 := Aside0.mk k14
  clear k14
  have k15 : PAluTests.alu_Extend.f 300 9 = some 300 := by decide +kernel
  have h15 := Aside0.mk k15
  clear k15
  go_enter Try.func10, Try.ntmps10
  go_wp2_with fail
  refine (tincturelaw1_awake.calls true _ awake_at).mono ?_
  rintro e w' ⟨rfl, ⟨nd, rfl⟩⟩
  go_wp2_with fail
  refine (PAluTests.alu_Do.calls _ _ _ _ _ _ h0.out).mono ?_
  rintro e w' ⟨rfl, ⟨nd, rfl⟩⟩
  go_wp2_with fail
  refine (PAluTests.alu_Test.calls _ _ _ _ _ _ h1.out).mono ?_
  rintro e w' ⟨rfl, ⟨nd, rfl⟩⟩
  go_wp2_with fail
  refine (PAluTests.alu_Test.calls _ _ _ _ _ _ h2.out).mono ?_
  rintro e w' ⟨rfl, ⟨nd, rfl⟩⟩
  go_wp2_with fail
  refine (PAluTests.alu_Test.calls _ _ _ _ _ _ h3.out).mono ?_
  rintro e w' ⟨rfl, ⟨nd, rfl⟩⟩
  go_wp2_with fail
  refine (PAluTests.tincturelaw1_do.calls _ _ _ _ _ h4.out).mono ?_
  rintro e w' ⟨rfl, ⟨nd, rfl⟩⟩
  go_wp2_with fail
  refine (PAluTests.tincturelaw1_do.calls _ _ _ _ _ h5.out).mono ?_
  rintro e w' ⟨rfl, ⟨nd, rfl⟩⟩
  go_wp2_with fail
  refine (PAluTests.tincturelaw1_do.calls _ _ _ _ _ h6.out).mono ?_
  rintro e w' ⟨rfl, ⟨nd, rfl⟩⟩
  go_wp2_with fail
  refine (PAluTests.tincturelaw1_do.calls _ _ _ _ _ h7.out).mono ?_
  rintro e w' ⟨rfl, ⟨nd, rfl⟩⟩
  go_wp2_with fail
  refine (PAluTests.tincturelaw1_do.calls _ _ _ _ _ h8.out).mono ?_
  rintro e w' ⟨rfl, ⟨nd, rfl⟩⟩
  go_wp2_with fail
  refine (PAluTests.tincturelaw1_do.calls _ _ _ _ _ h9.out).mono ?_
  rintro e w' ⟨rfl, ⟨nd, rfl⟩⟩
  go_wp2_with fail
  refine (PAluTests.tincturelaw1_do.calls _ _ _ _ _ h10.out).mono ?_
  rintro e w' ⟨rfl, ⟨nd, rfl⟩⟩
  go_wp2_with fail
  refine (PAluTests.tincturelaw1_do.calls _ _ _ _ _ h11.out).mono ?_
  rintro e w' ⟨rfl, ⟨nd, rfl⟩⟩
  go_wp2_with fail
  refine (PAluTests.tincturelaw1_do.calls _ _ _ _ _ h12.out).mono ?_
  rintro e w' ⟨rfl, ⟨nd, rfl⟩⟩
  go_wp2_with fail
  refine (PAluTests.tincturelaw1_do.calls _ _ _ _ _ h13.out).mono ?_
  rintro e w' ⟨rfl, ⟨nd, rfl⟩⟩
  go_wp2_with fail
  refine (PAluTests.alu_Extend.calls _ _ _ _ h14.out).mono ?_
  rintro e w' ⟨rfl, ⟨nd, rfl⟩⟩
  go_wp2_with fail
  refine (PAluTests.alu_Extend.calls _ _ _ _ h15.out).mono ?_
  rintro e w' ⟨rfl, ⟨nd, rfl⟩⟩
  go_wp2_with fail
  go_ret
  exact ⟨rfl, (Drawn0.mk ⟨_, rfl⟩).below⟩
end Go.Proofs.Ytneadfgdagdhcaa.Known

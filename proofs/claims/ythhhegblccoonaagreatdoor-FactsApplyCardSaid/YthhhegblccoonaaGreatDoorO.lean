/- The functions that the law reaches, as the evaluator's oracle; the scripts of their evaluations. -/
import Derived.Test.YthhhegblccoonaaGreatDoorT
import Derived.Test.YthhhegblccoonaaGreatDoorPr
namespace Go.Vm
open Go.Proofs Go.Proofs.YthhhegblccoonaaGreatDoor Go.Proofs.YthhhegblccoonaaGreatDoor.P Go.RowKit Go.Proofs.YthhhegblccoonaaGreatDoorW.PrintWords Go.Proofs.YthhhegblccoonaaGreatDoorW.PrintLast Go.Proofs.YthhhegblccoonaaGreatDoorW.PrintMore
set_option linter.unusedVariables false
set_option linter.unusedSimpArgs false
set_option maxRecDepth 100000
set_option maxHeartbeats 40000000
def hz : Hint := (false, none, false, none)
def ht : Hint := (true, none, false, none)
def ha : Hint := (false, none, true, none)
def hg (t : Nat) : Hint := (false, some (t, true), false, none)
def hn (t : Nat) : Hint := (false, some (t, false), false, none)
def hG (t : Nat) : Hint := (true, some (t, true), false, none)
def hN (t : Nat) : Hint := (true, some (t, false), false, none)
def h18 : Hints := ⟨fun n => match n with | 0 => [hz, hz] | 1 => [hz, hz, hz, hz, hz, hz] | _ => [], fun _ => []⟩
def h19 : Hints := ⟨fun n => match n with | 0 => [hz, hz] | 1 => [hz, hz, hz, hz, hz, hz, hz, hz, hz, hz] | _ => [], fun _ => []⟩
def h65 : Hints := ⟨fun n => match n with | 0 => [hz] | 1 => [hz, hz] | 2 => [hz] | 3 => [hz, hz, hz, hz, hz] | _ => [], fun _ => []⟩
def h96 : Hints := ⟨fun n => match n with | 0 => [hz] | 1 => [hz, hz, hz, hg 5, hg 5, hz, hz] | _ => [], fun _ => []⟩
def h35 : Hints := ⟨fun n => match n with | 0 => [hz, hz] | 1 => [hz, hz, hz, hG 7, hg 7, hG 7, hg 7, hG 7, hG 7, hG 7, hg 7, hg 7, hz, hz, hG 18, hg 18, hG 18, hg 18, hg 18, hg 18, hz, hz] | _ => [], fun _ => []⟩
def h99 : Hints := ⟨fun n => match n with | 0 => [hz] | 1 => [hz, hz, hz, hz] | _ => [], fun _ => []⟩
def h47 : Hints := ⟨fun n => match n with | 0 => [hz] | 1 => [hz, hz, hz] | 2 => [hz, hz] | 3 => [hz] | 4 => [hz, hz, hz, hz] | _ => [], fun _ => []⟩
def h68 : Hints := ⟨fun n => match n with | 0 => [hz, hz] | 1 => [hz, hz, hz, hz, hz, hz, hz, hz, hz] | _ => [], fun _ => []⟩
def h97 : Hints := ⟨fun n => match n with | 0 => [hz] | 1 => [hz, hz, hz, hg 5, hg 5, hz, hz] | _ => [], fun _ => []⟩
def h36 : Hints := ⟨fun n => match n with | 0 => [hz, hz] | 1 => [hz, hz, hz] | 2 => [hz] | 3 => [hz, hz, hz, hz, hz, hz, hz] | 4 => [ht, hz, ht, hz, hz, hz, hG 20, hg 20, hG 20, hG 20, hg 20, hz, hz, hG 27, hg 27, hg 27, hg 27, hz, hz, hG 33, hg 33, hG 33, hg 33, hg 33, hz, hz, hg 40, hg 40, hG 40, hg 40, hz, hz] | _ => [], fun _ => []⟩
def h13 : Hints := ⟨fun n => match n with | 0 => [hz, hz] | 1 => [hz, hz, hz, hz, hz, hg 9, hg 9, hg 9, hg 9, hz, hz] | _ => [], fun _ => []⟩
def h21 : Hints := ⟨fun n => match n with | 0 => [hz, hz, hz] | 1 => [hz, hz, hz, hz, hz, hz, hz, hz, hz, hz, hz, hz, hz, hz] | _ => [], fun _ => []⟩
def h44 : Hints := ⟨fun n => match n with | 0 => [hz] | 1 => [hz, hz, hz] | 2 => [hz, hz] | 3 => [hz, hz, hz, hz, hz, hz, hz, hz, hz, hz, hz] | _ => [], fun _ => []⟩
def h98 : Hints := ⟨fun n => match n with | 0 => [hz] | 1 => [hz, hz, hz, hz, hz] | _ => [], fun _ => []⟩
def h100 : Hints := ⟨fun n => match n with | 0 => [hz] | 1 => [hz, hz, hz] | 2 => [hz, hz, hz, hg 9, hg 9, hg 9, hg 9, hg 9, hg 9, hz, hz] | _ => [], fun _ => []⟩
def h48 : Hints := ⟨fun n => match n with | 0 => [hz] | 1 => [hz, hz, hz, hz] | 2 => [hz, hz, hz] | 3 => [hz, hz, hz, hz, hz, hz] | 4 => [hz, hz, hz] | _ => [], fun _ => []⟩
def h45 : Hints := ⟨fun n => match n with | 0 => [hz] | 1 => [hz, hz, hz] | 2 => [hz, hz] | 3 => [hz, hz, hz, hz, hz, hz, hz, hz] | 4 => [hz, hz, hz, hz, hz, hz] | _ => [], fun _ => []⟩
def h16 : Hints := ⟨fun n => match n with | 0 => [hz] | 1 => [hz, hz, hz, hz, hz, hz, hz, hz] | _ => [], fun _ => []⟩
def h46 : Hints := ⟨fun n => match n with | 0 => [hz] | 1 => [hz, hz, hz] | 2 => [hz, hz] | 3 => [hz, hz, hz, hz, hz, hz, hz] | 4 => [hz, hz, hz, hz, hz, hz] | _ => [], fun _ => []⟩
def h17 : Hints := ⟨fun n => match n with | 0 => [hz] | 1 => [hz, hz, hz, hz, hz] | _ => [], fun _ => []⟩
def h5 : Hints := ⟨fun n => match n with | 0 => [hz] | 1 => [hz, hz, hz, hz, hg 4, hg 4, hz, hz] | _ => [], fun _ => []⟩
def h6 : Hints := ⟨fun n => match n with | 0 => [hz, hz] | 1 => [hz, hz, hz, hz, hz, hg 7, hg 7, hg 7, hg 7, hz, hz] | _ => [], fun _ => []⟩
def h101 : Hints := ⟨fun n => match n with | 0 => [hz] | 1 => [hz, hz, hz, hz, hz] | _ => [], fun _ => []⟩
def h49 : Hints := ⟨fun n => match n with | 0 => [hz, hz, hz] | 1 => [hz, hz, hz, hz] | 2 => [hz, hz, hz] | 3 => [hz, hz, hz, hz, hz, hz, hz] | 4 => [hz, hz, hz] | 5 => [ht, hz, ht, hz, ht, hz] | 7 => [hz, hz, hz, hz, hz, hn 33, hn 33, hn 33, hz, hz] | 8 => [hz, hz, hz] | 9 => [hz, hz, hz] | 10 => [ht, ht, hz, ht, ht, ht, ht, ht, hz, ht, ht, ht, hz] | 11 => [hz, hz, hz, hz, hz, hn 58, hn 58, hn 58, hz, hz] | 12 => [hz, hz, hz, hz, hz, hz, hz, hz, hz] | 13 => [hz, hz, hz] | 14 => [hz, hz, hz, hz, hz, hz, hz] | 6 => [hz, hz, hz] | 15 => [hz, hz, hz] | 16 => [hz, hz, hz] | 17 => [hz, hz, hz, hz, hz, hz, hz, hz, hz, hz, hz] | _ => [], fun _ => []⟩
def h50 : Hints := ⟨fun n => match n with | 0 => [hz] | 1 => [hz, hz] | 2 => [hz, hz, hz] | 3 => [hz] | 4 => [hz, hz] | 5 => [hz, hz, hz] | 6 => [hz, hz, hz] | 7 => [hz, hz] | 8 => [hz, hz, hz] | 9 => [hz, hz, hz] | 10 => [hz, hz, hz, hz, hz, hz, hz] | _ => [], fun _ => []⟩
def h20 : Hints := ⟨fun n => match n with | 0 => [hz, hz, hz] | 1 => [hz, hz, hz, hz] | 2 => [hz, hz, hz] | 3 => [hz, hz, ht, ht, ht, hz, hz] | 4 => [ht, hz, ht, ht, hz, ht, ht, hz] | 5 => [hz, hz, hz, hz, hz, hz, hz, hz, hz, hz, hz, hz] | 6 => [hz, hz, hz, hz, hz] | 7 => [hz, hz, hz, hz] | 8 => [hz, hz, hz, hz, hz] | 9 => [hz, hz, hz, hz] | 10 => [ht, hz, ht, ht, ht, ht, ht, hz, ht, ht, ht, ht, ht, hz, hz, hz] | 11 => [hz, hz, hz, hz, hz, hz, hn 75, hn 75, hn 75, hn 75, hn 75, hz] | 12 => [hz, hz, hz] | 13 => [hz, hz, hz, hz, hz, hz, hz, hz, hz, hz] | 14 => [hz, hz] | 15 => [hz, hz, hz] | 16 => [hz, hz, hz, hz, hz, hz, hz, hz, hz, hz] | 17 => [hz, hz, hz, hz, hz, hz, hz, hz, hz, hz, hz, hz, hz, hz, hz, hz, hz, hz] | 18 => [hz, hz, hz, hz, hz, hz] | 19 => [hz, hz, hz] | 20 => [hz, hz, hz, hz, hz] | _ => [], fun _ => []⟩
def h51 : Hints := ⟨fun n => match n with | 0 => [hz] | 1 => [hz, hz, hz] | 2 => [hz] | 3 => [hz, hz, hz] | 4 => [hz] | 5 => [hz, hz, hz] | 6 => [hz, hz, hz] | 7 => [hz] | 8 => [hz, hz] | 9 => [hz, hz, hz] | 10 => [hz, hz, hz] | 11 => [hz, hz, hz] | 12 => [hz, hz, hz, hg 33, hg 33, hz, hz] | 13 => [hz, hz, hz, hg 39, hg 39, hg 39, hg 39, hg 39, hz, hz, hg 46, hg 46, hg 46, hg 46, hg 46, hz, hz] | 14 => [hz, hz, hz, hg 56, hg 56, hz, hz] | 15 => [hz, hz, hz, hG 62, hG 62, hg 62, hG 62, hG 62, hg 62, hg 62, hz, hz, hg 71, hg 71, hz, hz] | 16 => [hz, hz, hz] | 17 => [hz, hz, hz, hg 80, hg 80, hg 80, hg 80, hz, hz, hg 86, hg 86, hg 86, hg 86, hg 86, hz, hz, hg 93, hg 93, hg 93, hg 93, hg 93, hz, hz] | 18 => [hz, hz, hz, hn 103, hn 103, hz, hz] | 19 => [hz, hz, hz, hg 109, hg 109, hg 109, hg 109, hg 109, hz, hz] | 20 => [hz, hz, hz] | 21 => [hz, hz, hz, hg 121, hg 121, hg 121, hg 121, hg 121, hz, hz] | 22 => [hz] | _ => [], fun n => match n with | 4 => [0, 1, 2, 6, 13, 14, 15] | _ => []⟩
def h52 : Hints := ⟨fun n => match n with | 0 => [hz, hz, hz] | 1 => [ht, hz, hz, hz, hz, hN 10, hn 10, hN 10, hn 10, hN 10, hN 10, hN 10, hn 10, hz] | 2 => [hz, hz] | 3 => [hz, hz, hz, hz] | _ => [], fun _ => []⟩
def h104 : Hints := ⟨fun n => match n with | 0 => [hz] | 1 => [hz, hz, hz, hz, hz, hz, hz, hz, hz] | _ => [], fun _ => []⟩
def h102 : Hints := ⟨fun n => match n with | 0 => [hz] | 1 => [hz, hz, hz, hz, hz, hz, hz, hz] | 2 => [hz, hz, hz, hg 20, hg 20, hz, hz, hn 24, hn 24, hn 24, hg 27, hg 27, hn 24, hz, hz] | 3 => [hz, hz, hz] | 4 => [hz, hz, hz] | 5 => [hz, hz] | 6 => [hz, hz, hz] | 7 => [hz, hz, hz, hz] | 8 => [hz, hz, hz] | 9 => [hz, hz, hz, hz] | 10 => [hz, hz, hz, hg 53, hg 53, hz, hz] | 11 => [hz, hz, hz] | 12 => [hz, hz, hz] | 13 => [hz] | 14 => [hz, hz, hz] | 15 => [hz, hz, hz, hz, hz] | 16 => [hz, hz, hz, hz, hz] | _ => [], fun _ => []⟩
def h103 : Hints := ⟨fun n => match n with | 0 => [hz] | 1 => [hz, hz] | 2 => [hz, hz, hz, hz, hz, hz, hz, hz, hz, hz, hz] | 3 => [hz, hz, hz, hz] | 4 => [hz] | 5 => [hz, hz] | 6 => [hz, hz, hz, hz] | 7 => [hz, hz, hz, hz] | _ => [], fun _ => []⟩
def h61 : Hints := ⟨fun n => match n with | 0 => [hz] | 1 => [hz] | 2 => [hz] | 3 => [hz] | _ => [], fun _ => []⟩
def h105 : Hints := ⟨fun n => match n with | 0 => [hz] | 1 => [hz] | 2 => [hz, hz] | 3 => [hz, hz, hz, hz, hz] | 4 => [hz, hz] | 5 => [hz, hz, hz, hz, hz] | 6 => [hz, hz] | 7 => [hz, hz, hz, hz, hz] | 8 => [hz, hz] | 9 => [hz, hz, hz, hz, hz] | 10 => [hz, hz] | 11 => [hz, hz, hz, hz, hz, hz, hz, hz, hz] | 12 => [hz, hz, hz, hz, hz, hz, hz, hz, hz] | _ => [], fun _ => []⟩
def h53 : Hints := ⟨fun n => match n with | 0 => [hz] | 1 => [hz] | 2 => [hz, hz] | 3 => [hz, hz] | 4 => [hz, hz] | 5 => [ht, ht, hz, ht, ht, hz, hz, hz] | 6 => [hz, hz] | 7 => [ht, ht, hz, ht, ht, hz, hz, hz] | 8 => [hz, hz] | 9 => [ht, ht, hz, ht, ht, hz, hz, hz] | 10 => [hz, hz] | 11 => [hz, hz] | 12 => [hz, hz] | 13 => [hz, hz] | 14 => [ht, ht, ht, ht, hz, ht, ht, hz, hz, hz] | 15 => [hz, hz] | 16 => [ht, ht, hz, ht, ht, hz, hz, hz] | 17 => [hz, hz] | 18 => [ht, ht, hz, ht, ht, hz, hz, hz] | 19 => [hz, hz] | 20 => [ht, ht, hz, ht, ht, hz, hz, hz] | 21 => [hz, hz] | 22 => [hz, hz] | 23 => [hz, hz] | 24 => [ht, ht, ht, ht, hz, ht, ht, hz, hz, hz] | 25 => [hz, hz] | 26 => [hz, hz, hz, hz] | 27 => [hz, hz, hz, hz] | 28 => [hz, hz, hz, hz] | 29 => [hz, hz] | 30 => [hz, hz] | 31 => [hz, hz, hz, hz] | 32 => [hz, hz] | 33 => [ht, ht, hz, ht, ht, hz, hz, hz, hz] | 34 => [ht, ht, ht, hz, ht, ht, hz, ht, ht, hz, hz, hz] | _ => [], fun _ => []⟩
def h54 : Hints := ⟨fun n => match n with | 0 => [hz, hz, hz] | 1 => [hz] | 2 => [hz, hz] | 3 => [hz] | 4 => [hz, hz] | 5 => [hz, hz, hz] | 6 => [ht, hz, ht, ht, ht, ht, hz, ht, ht, ht, ht, ht, ht, hz, ht, ht, ht, ht, hz, ht, ht, ht, ht, ht, ht, hz] | 7 => [hz] | 8 => [hz, hz] | 9 => [hz, hz, hz] | 10 => [hz, hz] | 11 => [hz, hz, hz] | 12 => [hz, hz, hz, hz] | 13 => [hz, hz, hz] | 14 => [hz, hz, hz, hz, hz, hz] | 15 => [hz, hz, hz, hz, hz, hz] | 17 => [hz, hz, hz] | 18 => [hz] | 19 => [hz, hz, hz] | 20 => [hz] | 16 => [hz] | 21 => [hz, hz] | 22 => [hz, hz] | _ => [], fun n => match n with | 3 => [3, 5, 6, 8, 9, 14, 15] | _ => []⟩
def h106 : Hints := ⟨fun n => match n with | 0 => [hz] | 1 => [hz, hz] | 2 => [hz] | 3 => [hz, hz, hz, hz, hz, hz, hz, hz, hz, hz] | _ => [], fun _ => []⟩
def h107 : Hints := ⟨fun n => match n with | 0 => [hz, hz] | 1 => [hz, hz, hz, hz, hz] | _ => [], fun _ => []⟩
def h55 : Hints := ⟨fun n => match n with | 0 => [hz, hz, hz] | 1 => [ht, hz, ht, hz, ht, ht, ht, ht, hz, ht, hz, ht, ht, hz, ht, hz, hz] | 2 => [hz, hz, hz] | 3 => [hz, hz, hz, hz, hz, hz, hz, hz, hz, hz] | 4 => [hz, ht, hz, hz, hz, ht, hz, hz, hz] | 5 => [hz, hz, hz, hz, hz, hz, hz, hz, hz, hz, hz, hz, hz] | _ => [], fun _ => []⟩
def h56 : Hints := ⟨fun n => match n with | 0 => [hz] | 1 => [hz, hz, hz, hz, hz, hz, hz, hz] | _ => [], fun _ => []⟩
def h108 : Hints := ⟨fun n => match n with | 0 => [hz] | 1 => [hz, hz, hz, hz] | _ => [], fun _ => []⟩
def h57 : Hints := ⟨fun n => match n with | 0 => [hz] | 1 => [hz, hz, hz, hz, hz, hz, hz] | _ => [], fun _ => []⟩
def h109 : Hints := ⟨fun n => match n with | 0 => [hz] | 1 => [hz, hz, hz, hz, hz, hz, hz] | 2 => [hz, hz, hz, hz, hz, hz, hz] | 3 => [hz, hz, hz, hz, hz, hz] | 4 => [hz, hz, hz, hz, hz] | 5 => [hz, hz, hz, hz, hz] | 6 => [hz, hz, hz, hz, hz] | 7 => [hz, hz, hz, hz] | _ => [], fun _ => []⟩
def h58 : Hints := ⟨fun n => match n with | 0 => [hz, hz, hz] | 1 => [hz, hz, hz, hz, hz, hz, hz, hz, hz] | 2 => [hz, hz, hz, hz, hz, hz, hz, hz] | 3 => [hz, hz, hg 24, hg 24, hg 24, hz] | 4 => [ht, hz, ht, ht, ht, ht, ht, ht, hz, ht, ht, ht, ht, hz, hz, hz] | 5 => [hz, hz, hz, hz, hz, hz, hz] | 6 => [hz, hz] | _ => [], fun _ => []⟩
def h59 : Hints := ⟨fun n => match n with | 0 => [hz, hz] | 1 => [hz, hz, hz] | 2 => [hz, hz] | 3 => [hz, hz, hz, hz, hz, hz] | 4 => [hz, hz, hz, hz] | 5 => [hz, hz, hz, hz, hz, hz, hz, hz, hz, hz, hz] | 6 => [hz, hz, hz, hz, hz] | 7 => [ht, hz, ht, ht, ht, ht, hz, hz, hz] | 8 => [hz, hz, hz, hz, hz] | 9 => [ht, hz, ht, ht, ht, ht, hz, hz, hz] | 10 => [hz, hz] | 11 => [hz, hz, hz, hz] | 12 => [hz, hz, hz] | 13 => [hz, hz] | 14 => [ht, hz, ht, ht, ht, ht, ht, ht, ht, ht, ht, hz, ht, ht, ht, ht, hz, hz] | 15 => [ht, hz, ht, ht, ht, ht, ht, ht, ht, ht, hz, ht, ht, hz, hz] | _ => [], fun _ => []⟩
def h60 : Hints := ⟨fun n => match n with | 0 => [hz, hz] | 1 => [hz] | 2 => [hz, hz] | 3 => [hz, hz, hz, hz, hz, hz, hz] | 4 => [hz, hz] | 5 => [hz, hz, hz, hz, hz, hz, hz, hz] | 6 => [ht, ht, ht, hz, ht, ht, ht, ht, ht, hz, hz, hz, hz, hz] | _ => [], fun _ => []⟩
def h110 : Hints := ⟨fun n => match n with | 0 => [hz, hz] | 1 => [ht, ht, ht, hz, hz, hz] | _ => [], fun _ => []⟩
def h111 : Hints := ⟨fun n => match n with | 0 => [hz, hz] | 1 => [hz, hz, hz] | _ => [], fun _ => []⟩
def h62 : Hints := ⟨fun n => match n with | 0 => [hz, hz, hz] | 1 => [ht, hz, ht, hz, hz, hz, hz, hn 17, hn 17, hG 19, hg 19, hG 19, hg 19, hg 19, hg 19, hn 17, hz, hz] | 2 => [hz, ht, ht, hz, hz, hz, hz, hn 34, hn 34, hn 34, hg 37, hG 37, hG 37, hg 37, hg 37, hg 37, hn 34, hz, hz] | 3 => [hz, hz, hz, hz, hz, hz] | _ => [], fun _ => []⟩
def h63 : Hints := ⟨fun n => match n with | 0 => [hz, hz] | 1 => [hz, hz, hz, hz] | 2 => [hz, hz, hz, hz, hz, hz, hz, hz, hz, hz, hz, hz, hz, hz, hz, hz, hz, hz, hz, hz] | _ => [], fun _ => []⟩
def h64 : Hints := ⟨fun n => match n with | 0 => [hz, hz, hz] | 1 => [hz, hz, hz, hz, hz, hz, hz, hz, hz, hz, hz, hz] | _ => [], fun _ => []⟩
def h22 : Hints := ⟨fun n => match n with | 0 => [hz] | 1 => [hz, hz, hz, hz, hz, hz, hn 31, hn 31, hn 31, hn 31, hn 31, hz] | 2 => [hz, hz] | 3 => [hz] | 4 => [hz] | 5 => [hz, hz, hz] | 6 => [hz] | 7 => [hz, hz, hz, hz, hz, hz] | 8 => [ht, ht, ht, hz, hz, hz, hz] | 9 => [hz, hz] | 10 => [ht, ht, ht, hz, hz, hz, hz, hz, hz, hz, hz] | 11 => [ha, hz, hz, hz, hz] | 12 => [hz, hz, hg 68, hz, hz] | 13 => [hz, hz] | 14 => [hz] | 15 => [hz, hz, hz, hz, hz, hz, hz, hz, hz] | 16 => [hz, hz, hz, hz, hz] | 17 => [hz, hz, hz, hz, hz, hz, hz, hz, hz] | 18 => [hz] | 19 => [hz, hz] | 20 => [hz, hz, hz, hz, hz, hz, hz, hz, hz, hz, hz, hz] | 21 => [hz, hz] | 22 => [hz, hz, hz, hz, hz, hz, hz, hz, hz, hz, hz, hz] | 23 => [hz, hz] | 24 => [hz, hz, hz, hz, hz, hz, hz, hz, hz, hz, hz, hz, hz, hz, hz, hz, hz, hz, hz, hz, hz, hz, hz, hz] | 25 => [hz, hz] | 26 => [hz, hz, hz, hz, hz] | 27 => [hz, hz] | 28 => [hz, hz, hz, hz, hz, hz, hz, hz, hz] | 29 => [hz, hz] | 30 => [hz, hz, hz, hz, hz] | 31 => [hz, hz] | 32 => [hz, hz, hz] | 33 => [hz, hz, hz, hz, hz, hz, hz, hz] | 34 => [hz, hz] | 35 => [hz, hz, hz, hz, hz] | 36 => [hz, hz] | 37 => [hz, hz] | 38 => [hz, hz] | 39 => [hz, hz, hz, hz, hz, hz, hz, hz] | 40 => [hz] | 41 => [hz, hz, hz, hz, hz, hz] | 42 => [hz, hz, hz, hz, hz] | 43 => [hz, hz] | 44 => [hz, hz] | 45 => [hz, hz, hz, hz, hz, hz, hz, hz, hz, hz, hz, hz] | 46 => [hz, hz, hz, hz, hz] | 47 => [hz, hz] | 48 => [hz, hz] | 49 => [ht, ht, hz, hz, hz, ht, ht, hz, hz] | 50 => [hz, hz] | 51 => [hz, hz] | 52 => [ht, ht, hz, ht, ht, hz, hz, ht, ht, ht, hz, hz, ht, ht, ht, hz, hz] | 53 => [hz, hz] | 54 => [hz, hz, hz, hz, hz, hz, hz] | 55 => [hz] | 56 => [hz, hz, hz, hz, hz, hz] | 57 => [hz, ht, ht, hz, hz, hz] | 58 => [hz, hz] | 59 => [ht, hz, ht, ht, ht, ht, hz, ht, ht, ht, ht, hz, hz, hz] | 60 => [hz, hz] | 61 => [hz, hz, hz, hz, hz, hz] | 62 => [hz, ht, ht, ht, ht, hz, ht, ht, ht, hz, hz] | 63 => [hz, hz, hz, hz, hz] | 64 => [hz, hz, hz, hz, hz, hz] | 65 => [hz, hz, hz, hz, hz] | 66 => [hz, hz, hz, hz, hz, hz] | 67 => [hz, hz] | 68 => [hz, hz] | 69 => [ht, hz, ht, ht, ht, ht, hz, ht, ht, ht, hz, hz] | 70 => [hz, hz] | _ => [], fun n => match n with | 6 => [0, 1, 2, 3, 4, 10, 11, 12, 39, 40, 41] | _ => []⟩
def h112 : Hints := ⟨fun n => match n with | 0 => [hz] | 1 => [hz, hz, hz, hg 5, hg 5, hz, hz] | _ => [], fun _ => []⟩
def h113 : Hints := ⟨fun n => match n with | 0 => [hz] | 1 => [hz, hz, hz, hg 5, hg 5, hz, hz] | _ => [], fun _ => []⟩
def h66 : Hints := ⟨fun n => match n with | 0 => [hz] | 1 => [hz, hz, hz] | 2 => [hz] | 3 => [hz, hz, hz] | 4 => [hz] | 5 => [hz, hz, hz] | 6 => [hz, hz, hz] | 7 => [hz] | 8 => [hz, hz] | 9 => [hz, hz, hz] | 10 => [hz] | 11 => [hz, hz] | 12 => [hz, hz, hz] | 13 => [hz, hz] | 14 => [hz, hz, hz, hg 34, hg 34, hg 34, hg 34, hz, hz, hg 40, hg 40, hg 40, hg 40, hg 40, hz, hz, hg 47, hg 47, hg 47, hg 47, hg 47, hz, hz] | 15 => [hz, hz] | 16 => [hz, hz] | 17 => [hz, hz, hz, hg 59, hg 59, hg 59, hg 59, hg 59, hz, hz] | 18 => [hz, hz] | 19 => [hz, hz, hz, hg 70, hg 70, hg 70, hg 70, hg 70, hz, hz] | 20 => [hz, hz] | 21 => [hz, hz, hz, hG 81, hG 81, hg 81, hG 81, hG 81, hg 81, hg 81, hz, hz, hg 90, hg 90, hz, hz] | 22 => [hz, hz, hz, hg 96, hg 96, hz, hz, hg 100, hg 100, hg 100, hg 100, hg 100, hz, hz, hg 107, hg 107, hg 107, hg 107, hg 107, hz, hz] | _ => [], fun n => match n with | 4 => [0, 1, 2, 6, 13, 14, 15] | _ => []⟩
def h114 : Hints := ⟨fun n => match n with | 0 => [hz] | 1 => [hz] | 2 => [hz, hz, hz, hz, hz, hz] | 3 => [hz, hz, hz, hz, hz, hz] | _ => [], fun _ => []⟩
def h151 : Hints := ⟨fun n => match n with | 0 => [hz, hz] | 1 => [hz, hz, hz, hz, hz, hz, hz, hz] | 2 => [hz] | 3 => [hz, hz] | 4 => [hz, hz, hz, hz, hz] | 5 => [hz, hz] | 6 => [hz, hz, hz, hz, hz, hz] | 7 => [hz, hz, hz, hz, hz, ht, ht, ht, ht, hz, hz, hz] | _ => [], fun _ => []⟩
def h138 : Hints := ⟨fun n => match n with | 0 => [hz] | 1 => [hz] | 2 => [hz, hz] | 3 => [hz, hz] | 4 => [hz, hz, hz] | 5 => [hz, hz, hz, hz] | 6 => [hz, hz] | 7 => [hz, hz] | 8 => [hz, hz] | 9 => [hz, hz, hz, hz] | 10 => [hz, hz, hz, hz, hz, hz, hz, hz, hz] | 11 => [hz, hz] | 12 => [hz, hz] | 13 => [hz, hz] | _ => [], fun _ => []⟩
def h139 : Hints := ⟨fun n => match n with | 0 => [hz] | 1 => [hz, hz, hz, hz] | 2 => [hz, hz, hz, hg 15, hg 15, hg 15, hz] | 3 => [hz, hz, hz] | 4 => [hz] | 5 => [hz] | 6 => [hz, hz] | 7 => [hz, hz, hz, hz, hz, hz] | 8 => [hz, hz] | 9 => [hz, hz, hz, hz] | 10 => [hz, hz, hz, hz, hz, hz, hz, hz] | _ => [], fun _ => []⟩
def h152 : Hints := ⟨fun n => match n with | 0 => [hz] | 1 => [hz] | 2 => [hz] | 3 => [hz] | _ => [], fun _ => []⟩
def h140 : Hints := ⟨fun n => match n with | 0 => [hz] | 1 => [hz] | 2 => [hz, hz] | 3 => [hz, hz, hz, hz, hz] | 4 => [hz, hz] | 5 => [hz, hz, hz, hz, hz] | 6 => [hz, hz] | 7 => [hz, hz, hz, hz, hz] | 8 => [hz, hz] | 9 => [hz, hz, hz, hz, hz] | 10 => [hz, hz] | 11 => [hz, hz, hz, hz, hz, hz, hz, hz, hz] | 12 => [hz, hz, hz, hz, hz, hz, hz, hz, hz] | _ => [], fun _ => []⟩
def h115 : Hints := ⟨fun n => match n with | 0 => [hz, hz] | 1 => [hz, hz, hz, hz, hn 13, hn 13, hz, hz, hn 17, hn 17, hz] | 2 => [hz, hz] | 3 => [hz, hz, hz, hz, hz, hz, hz, hz] | 4 => [hz] | 5 => [hz, hz] | 6 => [hz, hz, hz, hz, hz, hz, hz] | 7 => [hz, hz] | 8 => [hz, hz, hz, hz, hz, hz, hz] | 9 => [hz, hz] | 10 => [hz, hz, hz, hz, hz, hz, hz] | 11 => [hz, hz] | 12 => [hz, hz] | 13 => [hz, hz] | 14 => [hz, hz] | 15 => [hz, hz, hz, hz, hz, hz, hz] | 16 => [hz, hz] | 17 => [hz, hz, hz, hz, hz] | 18 => [hz, hz] | 19 => [hz, hz, hz, hz, hz] | 20 => [hz, hz] | 21 => [hz, hz, hz, hz, hz] | 22 => [hz, hz] | 23 => [hz, hz] | 24 => [hz, hz] | 25 => [hz, hz, hz, hz, hz, hz, hz] | 26 => [hz, hz, hz, hz, hz, hz, hz] | _ => [], fun _ => []⟩
def h67 : Hints := ⟨fun n => match n with | 0 => [hz] | 1 => [hz, hz, hz, hz, hz] | 2 => [hz] | 3 => [hz, hz] | 4 => [hz, hz, hz, hz, hz, hz, hz] | 5 => [hz, hz] | 6 => [hz, hz] | 7 => [hz, hz] | 8 => [hz, hz] | 9 => [hz, hz, hz, hz, hz, hz, hz] | 10 => [ht, ht, ht, hz, ht, ht, ht, ht, hz, hz, hz, hz, hz, hz, hz] | 11 => [hz, hz] | _ => [], fun _ => []⟩
def h120 : Hints := ⟨fun n => match n with | 0 => [hz, hz, hz, hz, hz, hz, hz, hz, hz, hz, hz, hz] | _ => [], fun _ => []⟩
def h148 : Hints := ⟨fun n => match n with | 0 => [hz] | 1 => [hz, hz, hz, hz, hz, hz, hz, hg 11, hg 11, hg 11, hg 11, hg 11, hg 11, hz, hz] | _ => [], fun _ => []⟩
def h142 : Hints := ⟨fun n => match n with | 0 => [hz, hz] | 1 => [hz, hz, hz, hz] | 2 => [hz, hz, hz, hz, hz, hz, hz, hz, hg 19, hg 19, hg 19, hz, hz, hz] | _ => [], fun _ => []⟩
def h143 : Hints := ⟨fun n => match n with | 0 => [hz, hz, hz, hz, hz, hz, hz, hz, hz, hz, hz, hz] | _ => [], fun _ => []⟩
def h116 : Hints := ⟨fun n => match n with | 0 => [hz, hz] | 1 => [hz, hz, hz, hz, hz, hz, hz, hz, hz, hz] | 2 => [hz, hz, hz, hz, hz, hz, hz, hz, hz, hz] | 3 => [hz, hz, hz, hg 33, hg 33, hg 33, hg 33, hg 33, hg 33, hz, hz] | 4 => [hz, hz, hz, hz] | 5 => [hz, hz, hz, hn 48, hn 48, hn 48, hn 48, hn 48, hn 48, hz, hz] | 6 => [ht, ht, ht, ht, ht, hz, ht, ht, ht, ht, ht, hz, ht, hz] | 7 => [hz, hz, hz, hz, hz, hz, hz, hz, hz, hz, hz] | 8 => [hz, hz, hz, hz, hz, hz, hz, hz, hz, hz, hz] | 9 => [hz, hz, hg 89, hz] | 10 => [hz, hz, hz, hz] | _ => [], fun _ => []⟩
def h144 : Hints := ⟨fun n => match n with | 0 => [hz, hz] | 1 => [hz, hz, hz, hz] | 2 => [hz, hz, hz, hz, hz, hz, hz, hz, hg 19, hg 19, hg 19, hz, hz, hz] | _ => [], fun _ => []⟩
def h117 : Hints := ⟨fun n => match n with | 0 => [hz, hz] | 1 => [hz, hz, hz, hz, hz, hz, hn 15, hn 15, hn 15, hn 15, hn 15, hz] | 2 => [ht, ht, hz, ht, hz, ht, ht, ht, ht, hz, ht, ht, hz, ht, hz, ht, ht, ht, ht, hz, ht, hz] | 3 => [hz, hz, hz, hz, hz, hz, hz, hz, hz, hz, hz] | 4 => [hz, hz, hz, hz, hz, hz, hz, hz, hz, hz, hz] | 5 => [hz, hz, hg 63, hz] | 6 => [hz, hz, hz, hz] | _ => [], fun _ => []⟩
def h145 : Hints := ⟨fun n => match n with | 0 => [hz, hz] | 1 => [hz, hz, hz] | 2 => [hz, hz, hz] | 3 => [hz, hz, hz] | 4 => [hz, hz, hz] | 5 => [hz, hz, hz, hz] | 6 => [hz, hz, hz, hz, hz, hz, hz] | 7 => [hz, hz, hz] | 8 => [hz, hz, hz] | 9 => [hz, hz, hz, hz, hz, hz] | 10 => [hz, hz, hz, hz, hz, hz, hz, hz, hz] | 11 => [hz, hz, hz, hz] | _ => [], fun _ => []⟩
def h146 : Hints := ⟨fun n => match n with | 0 => [hz, hz] | 1 => [hz, hz, hz, hz] | 2 => [hz, hz, hz, hz, hn 15, hn 15, hn 15, hn 15, hn 15, hn 15, hg 21, hg 21, hg 21, hg 24, hg 24, hg 21, hg 21, hn 15, hz, hz, hg 31, hg 31, hg 31, hz, hz, hz] | _ => [], fun _ => []⟩
def h147 : Hints := ⟨fun n => match n with | 0 => [hz, hz, hz, hz] | 1 => [hz, hz, hz] | 2 => [hz] | 3 => [hz, hz, hz] | 4 => [hz, hz, hz, hz, hz, hz, hz, hz] | 5 => [hz, hz] | 6 => [hz, hz, hz, hz] | _ => [], fun n => match n with | 2 => [0, 6, 7, 12, 13, 14] | _ => []⟩
def h118 : Hints := ⟨fun n => match n with | 0 => [hz, hz] | 1 => [hz, hz, hz, hz, hz, hz, hz, hz, hz, hz] | 2 => [hz, hz, hz, hg 26, hg 26, hg 26, hg 26, hg 26, hg 26, hz] | 3 => [hz, hz, hz, hz, hz, hz, hz, hz] | 4 => [hz, hz, hz, hz, hz, hz, hz, hz, hz, hz, hz] | 5 => [hz, hz, hz, hz, hz, hz, hz, hz, hz, hz, hz] | 6 => [hz, hz, hz, hz, hz, hz, hz, hz, hz, hz, hz] | 7 => [hz, hz, hz, hz, hz, hz, hz, hz, hz, hz, hz] | 8 => [hz, hz, hg 79, hz, hz, hg 82, hz, hz, hg 85, hz] | 9 => [hz, hz, hz, hz, hz, hz, hz] | _ => [], fun _ => []⟩
def h119 : Hints := ⟨fun n => match n with | 0 => [hz, hz] | 1 => [hz, hz, hz, hg 13, hg 13, hg 13, hz, hz] | 2 => [ht, ht, hz, ht, hz, ht, ht, hz, ht, hz, ht, hz] | 3 => [hz, hz, hz, hg 33, hg 33, hg 33, hz, hz, hg 38, hg 38, hg 38, hg 38, hg 38, hz, hz] | 4 => [hz, hz, hz, hz, hz, hz] | 5 => [hz, hz, hz, hg 54, hg 54, hg 54, hz, hz] | 6 => [hz, hz, hz, hz, hz, hz, hz, hz] | 7 => [hz, hz, hz] | 8 => [hz, hz, hz, hz] | 9 => [hz, hz, hz, hg 77, hg 77, hg 77, hg 77, hn 81, hn 81, hn 81, hg 77, hz, hz, hG 87, hg 87, hG 87, hG 87, hG 87, hg 87, hg 87, hg 87, hn 95, hn 95, hn 95, hg 87, hg 87, hn 100, hn 100, hn 100, hg 87, hz, hz] | 10 => [ht, ht, hz, ht, hz, ht, ht, hz, ht, hz, ht, ht, hz, ht, hz, ht, ht, hz, ht, hz, ht, ht, hz] | 11 => [hz, hz, hz, hg 132, hg 132, hg 132, hz, hz] | 12 => [hz, hz] | 13 => [hz, hz, hz] | 14 => [hz, hz, hz, hz, hz, hz, hz] | 15 => [hz, hz, hz] | 16 => [hz, hz, hz, hz, hz, hz, hz] | 17 => [hz, hz, hz, hz] | 18 => [hz, hz, hz] | 19 => [hz, hz, hz, hz, hz, hz, hz, hz] | _ => [], fun _ => []⟩
def h121 : Hints := ⟨fun n => match n with | 0 => [hz, hz] | 1 => [hz, hz, hz, hz, hz, hz, hz] | 2 => [hz] | 11 => [hz, hz] | 12 => [hz, hz, hz, hz, hz, hz, hz, hz, hz, hz, hz, hz] | 13 => [hz, hz] | 14 => [ht, hz, ht, ht, ht, hz, ht, ht, ht, hz] | 15 => [hz, hz, hz, hz, hz, hz, hz, hz, hz, hz, hz, hz, hz, hz, hz, hz, hz, hz, hz] | 3 => [hz, hz, hz] | 8 => [hz, hz, hz, hz, hz] | 9 => [hz, hz, hz, hz] | 10 => [hz, hz] | 4 => [ht, hz, ht, ht, ht, hz, ht, ht, hz] | 5 => [hz, hz, hz, hz, hz, hz, hz, hz, hz, hz] | 6 => [ht, hz, ht, ht, ht, hz, ht, ht, hz, hz, hG 49, hg 49, hG 49, hG 49, hG 49, hg 49, hG 49, hG 49, hg 49, hz] | 7 => [hz, hz, hz, hz, hz, hz, hz, hz, hz, hz] | _ => [], fun _ => []⟩
def h122 : Hints := ⟨fun n => match n with | 0 => [hz, hz, hz] | 1 => [hz, hz, hz, hz, hz, hz, hz, hz, hz, hz, hz, hz, hz, hz, hz, hz, hz, hz, hz, hz, hz, hz] | _ => [], fun _ => []⟩
def h123 : Hints := ⟨fun n => match n with | 0 => [hz] | 1 => [hz] | 6 => [hz, hz] | 7 => [hz, hz, hz, hz, hz, hz] | 8 => [hz, hz, hz, hz, hz, hz] | 9 => [hz, hz, hz, hz, hz, hz, hz, hz] | 10 => [hz, hz, hz, hz, hz, hz] | 11 => [hz, hz] | 12 => [hz, hz, hz, hz, hz, hz] | 13 => [hz, hz, hz, hz, hz, hz] | 14 => [hz, hz, hz, hz, hz, hz] | 2 => [ht, hz, ht, ht, ht, hz, hz] | 3 => [hz, hz, hz, hz, hz, hz] | 4 => [hz, hz, hz, hz, hz, hg 26, hg 26, hg 26, hg 26, hz] | 5 => [hz, hz, hz, hz, hz, hz] | _ => [], fun _ => []⟩
def h149 : Hints := ⟨fun n => match n with | 0 => [hz, hz, hn 8, hz] | 1 => [hz] | 2 => [hz] | 3 => [hz] | 4 => [hz, hz, hz, hz, hz, hz] | _ => [], fun _ => []⟩
def h124 : Hints := ⟨fun n => match n with | 0 => [hz, hz] | 1 => [hz, hz, hz, hz, hz, hz, hn 14, hn 14, hn 14, hn 14, hn 14, hz, hz, hn 21, hn 21, hn 21, hn 21, hn 21, hz, hz, hn 28, hn 28, hn 28, hn 28, hn 28, hz, hz] | 2 => [hz] | 4 => [hz, hz] | 5 => [hz, hz, hz] | 6 => [hz, hz] | 7 => [hz, hz, hz] | 8 => [hz, hz] | 9 => [hz, hz, hz, hz, hz, hz, hz, hz, hz, hz, hz, hz] | 10 => [hz, hz] | 11 => [hz, hz, hz, hz, hz, hz, hz, hz, hz, hz, hz, hz] | 12 => [hz, hz] | 13 => [hz, hz, hz, hz, hz, hz, hz, hz, hz, hz, hz, hz] | 3 => [hz, hz, hz, hz, hz, hz, hz, hz, hz, hz, hz, hz] | _ => [], fun _ => []⟩
def h69 : Hints := ⟨fun n => match n with | 0 => [ht, ht, hz, ht, ht, ht, ht, ht, ht, ht, ht, ht, ht, hz] | 1 => [hz] | 3 => [hz, hz] | 4 => [hz, hz, hz, hz] | 5 => [hz, hz] | 6 => [hz, hz, hz, hz] | 7 => [hz, hz] | 8 => [hz, hz, hz, hz] | 9 => [hz, hz] | 10 => [hz, hz] | 11 => [hz, hz] | 12 => [hz, hz] | 13 => [hz, hz, hz, hz, hz] | 14 => [hz, hz] | 15 => [hz, hz, hz, hz, hz, hz, hz] | 16 => [hz, hz] | 17 => [ht, ht, hz, ht, hz, ht, ht, hz, ht, hz, ht, ht, ht, hz] | 18 => [hz, hz] | 19 => [hz, hz, hz, hz, hz, hz, hz, hz, hz] | 20 => [hz, hz] | 21 => [hz, hz] | 22 => [hz, hz] | 23 => [hz, hz, hz, hz, hz] | 24 => [hz, hz] | 26 => [hz, hz, hz, hz, hz, hz] | 27 => [ht, hz, ht, ht, hz, hz, hz, hz, hz] | 28 => [hz, hz, hz, hz] | 29 => [hz, hz, hz, hz, hz] | 25 => [hz, hz, hz, hz, hz, hz, hz] | 30 => [hz, hz] | 31 => [hz, hz] | 32 => [hz, hz] | 33 => [ht, ht, ht, ht, hz, hz, hz] | 2 => [hz, hz, hz, hz, hz] | _ => [], fun _ => []⟩
def h23 : Hints := ⟨fun n => match n with | 0 => [hz] | 1 => [hz, hz, hz, hz, hz, hz, hn 27, hn 27, hn 27, hn 27, hn 27, hz] | 2 => [hz, hz, hz] | 3 => [hz, hz] | 4 => [hz, hz, hz, hz] | 5 => [hz] | 6 => [hz] | 7 => [hz, hz, hz] | 8 => [hz] | 9 => [hz, hz, hz, hz, hz, hz] | 10 => [ht, ht, ht, hz, hz, hz, hz, hz, ht, ht, hz, hz] | 11 => [hz, hz] | 12 => [hz, hz, hz] | 13 => [ha, hz, hz, hz, hz] | 14 => [hz, hz, hg 66, hg 66, hg 66, hg 66, hg 66, hz, hz] | 15 => [hz, hz] | 16 => [hz] | 17 => [hz, hz, hz, hz, hz, hz, hz, hz] | 18 => [hz, hz, hz, hz, hz, hz, hz] | 19 => [hz, hz, hz, hz, hz, hz, hz, hz, hz, hz] | 20 => [hz, hz, hz, hz, hz] | 21 => [hz, hz, hz, hz, hz, hz, hz, hz, hz, hz, hz, hz] | 22 => [hz] | 23 => [hz, hz] | 24 => [hz, hz, hz] | _ => [], fun n => match n with | 8 => [0, 1, 2, 10, 11, 12, 41, 42, 43] | _ => []⟩
def h7 : Hints := ⟨fun n => match n with | 0 => [hz] | 1 => [hz, hz, hz, hz, hz] | 2 => [hz, hz, hz] | 3 => [hz] | 4 => [hz] | 5 => [hz, hz, hz] | 6 => [hz] | 7 => [hz, hz, hz, hz, hz, hz] | 8 => [ht, ht, ht, hz, hz, hz, hz] | 9 => [hz, hz, hz] | 10 => [(true, none, true, none), hz, ht, ht, ht, (true, none, true, none), hz, hz, hz, hz, hz, hz] | 11 => [hz, hz] | 12 => [hz, hz, hz, hz, hz, hz, hz, hz, hz, hz, hz, hz, hz, hz, hz, hz, hz, hz, hz, hz, hz] | 13 => [hz, hz] | 14 => [hz, hz, hz] | 15 => [hz, hz] | _ => [], fun n => match n with | 6 => [0, 1, 2, 4, 10, 11, 12, 24, 25, 26] | _ => []⟩
def h9 : Hints := ⟨fun n => match n with | 0 => [hz] | 1 => [hz, hz, hz, hn 11, hn 11, hz] | 2 => [hz] | 3 => [hz] | 4 => [hz, hz, hz, hz] | 6 => [hz, hz, hz, hz, hz, hz, hn 26, hn 26, hn 26, hn 26, hn 26, hz] | 7 => [hz] | 5 => [hz, hz, hz] | 8 => [hz, hz, hz] | 9 => [hz, hz, hz] | 10 => [hz, hz, hz] | 11 => [hz, hz, hz, hg 43, hg 43, hz, hz] | 12 => [hz, hz, hz, hg 49, hg 49, hg 49, hg 49, hg 49, hz, hz, hg 56, hg 56, hg 56, hg 56, hg 56, hz, hz] | 13 => [hz, hz, hz, hg 66, hg 66, hz, hz] | 14 => [hz, hz, hz, hG 72, hG 72, hg 72, hG 72, hG 72, hg 72, hg 72, hz, hz, hg 81, hg 81, hz, hz] | 15 => [hz, hz, hz] | 16 => [hz, hz, hz, hg 90, hg 90, hg 90, hg 90, hz, hz, hg 96, hg 96, hg 96, hg 96, hg 96, hz, hz, hg 103, hg 103, hg 103, hg 103, hg 103, hz, hz] | 17 => [hz, hz, hz, hn 113, hn 113, hz, hz] | 18 => [hz, hz, hz, hg 119, hg 119, hg 119, hg 119, hg 119, hz, hz] | 19 => [hz, hz, hz] | 20 => [hz, hz, hz, hg 131, hg 131, hg 131, hg 131, hg 131, hz, hz] | 21 => [hz] | _ => [], fun n => match n with | 4 => [0, 1, 2, 6, 7] | _ => []⟩
def h25 : Hints := ⟨fun n => match n with | 0 => [hz, hz] | 1 => [hz, hz, hz, hz, hz, hz] | _ => [], fun _ => []⟩
def h26 : Hints := ⟨fun n => match n with | 0 => [hz, hz] | 1 => [hz, hz, hz, hz, hz, hz, hz, hz, hz, hz] | _ => [], fun _ => []⟩
def h10 : Hints := ⟨fun n => match n with | 0 => [hz] | 1 => [hz] | 2 => [hz] | 3 => [hz, hz, hz] | 5 => [hz, hz, hz, hz] | 4 => [hz, hz, hz] | 6 => [hz, hz] | _ => [], fun n => match n with | 3 => [0, 2, 3, 4] | _ => []⟩
def h31 : Hints := ⟨fun n => match n with | 0 => [hz, hz] | 1 => [hz, hz, hz, hg 7, hg 7, hz, hz, hG 11, hg 11, hG 11, hg 11, hG 11, hG 11, hG 11, hg 11, hg 11, hz, hz, hG 22, hg 22, hG 22, hg 22, hg 22, hg 22, hz, hz] | _ => [], fun _ => []⟩
def h93 : Hints := ⟨fun n => match n with | 0 => [hz] | 1 => [hz, hz, hz] | _ => [], fun _ => []⟩
def h95 : Hints := ⟨fun n => match n with | 0 => [hz] | 1 => [hz, hz, hz, hz, hz] | _ => [], fun _ => []⟩
def h94 : Hints := ⟨fun n => match n with | 0 => [hz] | 1 => [hz, hz, hz, hz, hz] | _ => [], fun _ => []⟩
def h32 : Hints := ⟨fun n => match n with | 0 => [hz, hz] | 1 => [hz, hz, hz, hg 7, hg 7, hz, hz, hG 11, hg 11, hG 11, hg 11, hg 11, hz, hz, hG 18, hg 18, hG 18, hG 18, hg 18, hz, hz, hG 25, hG 25, hG 25, hg 25, hg 25, hz, hz, hG 32, hg 32, hG 32, hg 32, hg 32, hz, hz, hG 39, hg 39, hG 39, hG 39, hg 39, hz, hz] | _ => [], fun _ => []⟩
def h11 : Hints := ⟨fun n => match n with | 0 => [hz, hz] | 1 => [hz, hz, hz, hz, hz, hg 9, hg 9, hg 9, hg 9, hz, hz] | _ => [], fun _ => []⟩
def h28 : Hints := ⟨fun n => match n with | 0 => [hz, hz, hz] | 1 => [hz, hz, hz, hz, hz, hz, hz, hz, hz, hz, hz, hz, hz, hz] | _ => [], fun _ => []⟩
def h70 : Hints := ⟨fun n => match n with | 0 => [hz] | 1 => [hz, hz, hz, hn 5, hn 5, hz] | 2 => [hz, hz] | 3 => [hz, hz, hz, hz, hz, hz, hz, hz] | _ => [], fun _ => []⟩
def h24 : Hints := ⟨fun n => match n with | 0 => [hz] | 1 => [hz, hz, hz, hz, hz] | _ => [], fun _ => []⟩
def h41 : Hints := ⟨fun n => match n with | 0 => [hz] | 1 => [hz, hz, hz, hz, hz, hz] | _ => [], fun _ => []⟩
def h71 : Hints := ⟨fun n => match n with | 0 => [hz, hz, hz] | 1 => [ht, hz, ht, ht, ht, hz, ht, ht, hz] | _ => [], fun _ => []⟩
def h43 : Hints := ⟨fun n => match n with | 0 => [hz] | 1 => [hz, hz, hz, hz, hz] | 2 => [hz, hz, hz, hz, hz, hz, hz] | 3 => [hz, hz, hz] | _ => [], fun _ => []⟩
def h85 : Hints := ⟨fun n => match n with | 0 => [hz, hz] | 1 => [hz, hz, hz, hz, hz] | 2 => [hz] | 3 => [hz, hz, hz, hz, hz] | 4 => [hz] | 5 => [hz] | _ => [], fun _ => []⟩
def h72 : Hints := ⟨fun n => match n with | 0 => [hz, hz, hz] | 1 => [hz, hz, hz] | 2 => [ht, ht, ht, hz, hz, hz] | 3 => [hz, hz, hz, hz, hz] | 4 => [hz, hz, hz, hz, hz, hz] | 5 => [hz, hz, hz, hz, hz, hz] | 6 => [hz, hz, hz, hz, hz, hz, hz, hz] | _ => [], fun _ => []⟩
def h125 : Hints := ⟨fun n => match n with | 0 => [hz, hz] | 1 => [hz, hz, hz] | 2 => [hz, hz, hz] | 3 => [hz, hz, hz, hz, hz, hz, hz, hz, hz, hz, hz] | _ => [], fun _ => []⟩
def h73 : Hints := ⟨fun n => match n with | 0 => [hz, hz, hz] | 1 => [hz, hz, hz, hz] | 2 => [hz, hz, hz] | 3 => [hz, hz, hz, hz] | 4 => [hz, hz, hz, hz, hz, hn 22, hn 22, hn 22, hz] | 5 => [hz, hz, hz] | 6 => [hz, hz, hz] | 7 => [hz, hz, hz] | 8 => [hz, hz, hz] | 9 => [hz, hz, hz, hz, hz, hz] | 10 => [hz, hz, hz, hz, hz, hz, hz, hz, hz, hz, hz, hz, hz] | 11 => [hz, hz, hz, hz, hz, hn 56, hn 56, hn 56, hz] | 12 => [ht, hz, ht, ht, ht, hz, ht, ht, ht, ht, hz, hz] | 13 => [hz, hz, hz] | 14 => [hz, hz, hz] | 15 => [ht, ht, hz, ht, ht, ht, hz, hz, hz] | 16 => [hz, hz, hz, hz, hz, hz, hz, hz] | 17 => [hz, hz, hz] | _ => [], fun _ => []⟩
def h27 : Hints := ⟨fun n => match n with | 0 => [hz, hz, hz] | 1 => [hz] | 2 => [hz, hz, hz, hz] | 3 => [hz, hz, hz] | 4 => [hz, hz, hz, hz, hz, hz, hz, hz, hz] | 5 => [hz, hz, hz, hz, hz, hz, hz, hz, hz] | 6 => [hz, hz, hz, hz, hz, hz, hz, hz, hz, hz, hz, hz, hz, hz, hz, hz, hz, hz, hz] | 7 => [hz, hz, hz, hz, hz, hz, hz, hz, hz] | 8 => [hz, hz] | 9 => [hz, hz, hz] | 10 => [hz, hz, hz, hz] | 11 => [hz, hz, hz] | 12 => [hz, hz, hz, hG 67, hg 67, hG 67, hG 67, hG 67, hg 67, hG 67, hg 67, hg 67, hz] | 14 => [hz, hz, hz, hz, hz] | 15 => [hz, hz, ht, ht, hz, hz, hz] | 16 => [hz, hz, ht, ht, hz, hz, hz] | 13 => [hz, hz, hz] | 17 => [hz, hz, hz, hz, hz, hz] | 18 => [hz, hz, hz] | 19 => [hz, hz, hz, hz, hz] | _ => [], fun n => match n with | 12 => [4, 5, 6, 12, 14, 15] | _ => []⟩
def h39 : Hints := ⟨fun n => match n with | 0 => [hz, hz] | 1 => [hz, hz, hz, hz] | 2 => [hz, hz, hz, hz] | 3 => [hz, hz] | 4 => [hz, hz, hz, hz, hz] | 5 => [hz, hz] | 6 => [hz, hz, hz, hz, hz, hz, hz] | 7 => [ht, ht, ht, ht, hz, hz, ht, ht, ht, ht, ht, ht, hz, hz, hz, hz] | _ => [], fun _ => []⟩
def h40 : Hints := ⟨fun n => match n with | 0 => [hz] | 1 => [hz] | 2 => [hz] | 3 => [hz, hz, hz] | 5 => [hz, hz] | 6 => [hz, hz, hz, hz, hz, hg 22, hg 22, hg 22, hg 22, hg 22, hg 22, hz] | 7 => [hz, hz, hz, hz, hz, hz, hz] | 8 => [hz, hz, hz, hz, hz, hz, hz] | 4 => [hz, hz, hz] | 9 => [hz, hz] | _ => [], fun n => match n with | 3 => [0, 1, 2, 3, 8, 9, 10] | _ => []⟩
def h42 : Hints := ⟨fun n => match n with | 0 => [hz] | 1 => [hz] | 2 => [hz] | 3 => [hz] | _ => [], fun _ => []⟩
def h15 : Hints := ⟨fun n => match n with | 0 => [hz] | 1 => [hz, hz] | 2 => [hz, hz, hz, hz, hz] | 3 => [hz, hz, hz, hz] | 4 => [hz] | 5 => [hz, hz, hz] | 6 => [hz, hz, hz, hz] | 7 => [hz] | 8 => [hz, hz] | 9 => [hz, hz, hz, hz, hz, hz, hz] | 10 => [hz, hz] | 11 => [hz, hz, hz, hz, hz, hz, hz] | 12 => [hz, hz] | 13 => [hz, hz, hz, hz, hz, hz, hz] | 14 => [hz, hz] | 15 => [hz, hz] | 16 => [hz, hz, hz] | 17 => [hz, hz, hz, hz] | 18 => [hz, hz] | 19 => [hz, hz] | 20 => [hz, hz] | 21 => [hz, hz, hz, hz] | 22 => [hz, hz] | 23 => [hz, hz, hz, hz, hz, hz, hz, hz, hz] | 24 => [hz, hz] | 25 => [hz, hz] | 26 => [hz, hz, hz, hz, hz, hz, hz, hz, hz] | 27 => [hz, hz] | 28 => [hz, hz] | 29 => [hz, hz, hz, hz] | 30 => [hz, hz] | 31 => [hz, hz, hz, hz] | 32 => [hz, hz] | 33 => [hz, hz, hz, hz] | 34 => [hz, hz] | 35 => [hz, hz, hz, hz] | 36 => [hz] | 37 => [hz, hz, hz, hz, hz, hz, hz] | 38 => [hz, hz] | 39 => [hz, hz, hz, hz, hz] | 40 => [hz, hz] | 41 => [hz, hz, hz, hz, hz, hz, hz, hz, hz] | 42 => [hz, hz] | 43 => [hz, hz, hz, hz, hz] | 44 => [hz, hz] | 45 => [hz, hz, hz, hz, hz] | 46 => [hz, hz] | 47 => [hz, hz, hz, hz, hz] | 48 => [hz, hz] | 49 => [hz, hz, hz, hz, hz] | 50 => [hz, hz] | 51 => [ht, ht, hz, ht, ht, ht, ht, hz, ht, hz, hz, hz, hz] | 52 => [hz, hz] | 53 => [ht, ht, hz, ht, ht, ht, ht, hz, ht, hz, hz, hz, hz] | 54 => [hz, hz] | 55 => [hz, hz] | 56 => [hz, hz] | 57 => [hz, hz, hz, hz] | 58 => [hz, hz] | 59 => [hz, hz, hz, hz, hz, hz, hz, hz, hz, hz] | 60 => [hz, hz, hz, hz, hz] | _ => [], fun _ => []⟩
def h74 : Hints := ⟨fun n => match n with | 0 => [hz, hz] | 1 => [ht, hz, hz, hz, hG 8, hg 8, hG 8, hg 8, hG 8, hG 8, hG 8, hg 8, hz, hz] | _ => [], fun _ => []⟩
def h75 : Hints := ⟨fun n => match n with | 0 => [hz] | 1 => [hz, hz, hz, hz, hz, hz, hz, hz, hz, hz] | _ => [], fun _ => []⟩
def h84 : Hints := ⟨fun n => match n with | 0 => [hz, hz] | 1 => [hz, hz] | 2 => [hz, hz, ht, ht, hz, hz, hz] | 3 => [hz, hz] | 4 => [hz, hz, ht, ht, hz, hz, hz] | 5 => [hz, hz] | _ => [], fun _ => []⟩
def h76 : Hints := ⟨fun n => match n with | 0 => [hz, hz, hz] | 1 => [hz] | 2 => [hz] | 3 => [hz, hz, hz] | 5 => [hz, hz, hz, hz] | 6 => [hz, hz, hz, hz] | 7 => [hz, hz, hz, hg 26, hg 26, hz, hz, hg 30, hg 30, hz] | 8 => [hz, hz, hz, hz, hz, hz, hz, hz, hz, hz] | 9 => [hz, hz, hz, hz, hn 46, hn 46, hn 46, hz] | 10 => [hz, hz] | 11 => [hz, hz, hz] | 12 => [hz] | 4 => [hz, hz, hz] | 13 => [hz, hz] | _ => [], fun n => match n with | 3 => [0, 3, 5, 6, 8, 9, 10] | _ => []⟩
def h78 : Hints := ⟨fun n => match n with | 0 => [hz] | 1 => [hz] | 2 => [hz] | 3 => [hz, hz, hz] | 5 => [hz, hz, hz, hz, hn 17, hn 17, hn 17, hn 17, hn 17, hz] | 6 => [hz, hz, hz, hz] | 4 => [hz, hz, hz] | 7 => [hz, hz] | _ => [], fun n => match n with | 3 => [0, 1, 2, 6, 7, 8] | _ => []⟩
def h83 : Hints := ⟨fun n => match n with | 0 => [hz, hz, hz] | 1 => [hz, hz, hz, hz, hz, hz, hz, hz, hz, hz, hz, hz] | _ => [], fun _ => []⟩
def h126 : Hints := ⟨fun n => match n with | 0 => [hz, hz] | 1 => [hz] | 2 => [hz, hz, hz, hz, hg 9, hg 9, hg 9, hg 9, hz] | 3 => [hz, hz, hz] | 4 => [hz, hz] | _ => [], fun n => match n with | 2 => [0, 3, 4, 5] | _ => []⟩
def h127 : Hints := ⟨fun n => match n with | 0 => [hz, hz] | 1 => [hz] | 2 => [hz, hz, hz, hz, hg 9, hg 9, hg 9, hg 9, hz] | 3 => [hz, hz, hz] | 4 => [hz, hz] | _ => [], fun n => match n with | 2 => [0, 3, 4, 5] | _ => []⟩
def h77 : Hints := ⟨fun n => match n with | 0 => [hz, hz, hz] | 1 => [ht, ht, ht, hz, ht, ht, hz, hz, hz, hz, hz, ht, hz] | 2 => [ht, hz, ht, ht, hz, hz, hz, hz] | 3 => [ht, hz, ht, ht, ht, ht, hz, ht, ht, ht, hz, hz] | 4 => [hz] | 5 => [hz, hz, hz] | 7 => [hz, ht, ht, ht, ht, ht, ht, hz, hz] | 6 => [hz, hz, hz] | 8 => [hz, hz] | _ => [], fun n => match n with | 5 => [6, 7, 8, 9, 10] | _ => []⟩
def h79 : Hints := ⟨fun n => match n with | 0 => [hz, hz] | 1 => [hz] | 2 => [hz, hz, hz, hz, hg 11, hg 11, hg 11, hg 11, hg 11, hg 11, hg 11, hg 11, hz] | 3 => [hz, hz, hz] | 4 => [hz, hz] | _ => [], fun n => match n with | 2 => [0, 2, 4, 6, 7] | _ => []⟩
def h80 : Hints := ⟨fun n => match n with | 0 => [hz, hz, hz] | 1 => [hz, hz, hz, hz, hz, hz, hz] | 2 => [hz] | 3 => [hz, hz, hz] | 5 => [ht, hz, hz, hz, hg 23, hg 23, hG 23, hG 23, hg 23, hz] | 6 => [hz, hz, hz, hz, hz, hz] | 7 => [hz] | 8 => [hz, hz, hz] | 10 => [hz, ht, hz, ht, ht, hz, hz] | 9 => [hz, hz, hz] | 4 => [hz, hz, hz] | 11 => [hz, hz] | _ => [], fun n => match n with | 3 => [0, 4, 5, 6, 7, 8] | 8 => [0, 4, 5, 6, 7, 8, 9] | _ => []⟩
def h128 : Hints := ⟨fun n => match n with | 0 => [hz, hz] | 1 => [hz] | 2 => [hz] | 3 => [hz, hz, hz] | 5 => [hz, hz] | 6 => [hz, hz, hz, hz, hz, hg 22, hg 22, hg 22, hg 22, hg 22, hz] | 7 => [hz, hz, hz, hz, hz, hz] | 8 => [hz, hz, hz, hz, hz] | 4 => [hz, hz, hz] | 9 => [hz, hz] | _ => [], fun n => match n with | 3 => [0, 2, 3, 5, 8, 9, 10] | _ => []⟩
def h81 : Hints := ⟨fun n => match n with | 0 => [hz, hz, hz] | 1 => [hz, hz, hz, hz, hz] | 2 => [hz, hz, hz, hz] | 3 => [hz, hz, hz] | 4 => [hz, hz, hz, hz, hz, hz] | 5 => [hz, hz, hz] | 6 => [hz, hz, hz, hz, hz, hz] | 7 => [hz, hz, hz] | 8 => [hz, hz] | 9 => [hz, hz, hz, hz, hz] | 10 => [hz] | 11 => [hz, hz, hz, hz] | 12 => [hz, hz, hz] | 14 => [hz, hz, hz, hz, hz] | 13 => [hz, hz, hz] | 15 => [hz, hz] | 16 => [hz, hz] | 17 => [hz, hz, hz, hz, hz] | 18 => [hz, hz, hz, hz] | 19 => [hz] | 20 => [hz, hz] | 21 => [hz, hz, hz, hz, hz, hz] | 22 => [hz, hz] | 23 => [hz, hz, hz, hz, hz] | 24 => [hz, hz, hz, hz, hz, hz] | _ => [], fun n => match n with | 12 => [0, 1, 6, 7, 8, 9, 11, 12] | _ => []⟩
def h82 : Hints := ⟨fun n => match n with | 0 => [hz, hz, hz] | 1 => [hz, hz, hz, hz, hz, hz, hz, hz, hz, hz, hz, hz] | _ => [], fun _ => []⟩
def h129 : Hints := ⟨fun n => match n with | 0 => [hz] | 1 => [hz] | 2 => [hz, hz] | 3 => [hz] | 4 => [hz, hz] | 5 => [hz, hz] | _ => [], fun _ => []⟩
def h86 : Hints := ⟨fun n => match n with | 0 => [hz, hz, hz] | 1 => [hz, hz, hz, hz, hz, hz, hz, hn 24, hn 24, hn 24, hn 24, hn 24, hn 24, hz, hz] | 2 => [hz, hz, hz, hz, hz, hz, hz, hz] | 3 => [hz, hz, hz, hz, hz, hz, hz, hz] | 4 => [hz, hz, hz, hz, hz, hz, hz, hz] | 5 => [hz, hz, hz, hz, hz, hz, hz, hz] | 6 => [hz] | 7 => [hz, hz] | 8 => [hz, hz, hz] | 9 => [hz, hz] | 10 => [hz, hz, hz] | 11 => [hz, hz] | 12 => [hz, hz, hz, hz, hz, hz, hz, hz] | 13 => [hz, hz] | 14 => [hz, hz, hz, hz, hz, hz, hz, hz] | 15 => [hz, hz] | 16 => [hz, hz, hz, hz, hz, hz, hz, hz] | 17 => [hz, hz, hz, hz, hz, hz, hz, hz] | _ => [], fun _ => []⟩
def h29 : Hints := ⟨fun n => match n with | 0 => [hz] | 1 => [hz] | 2 => [hz, hz, hz, hz, hz, hz, hn 24, hn 24, hn 24, hn 24, hn 24, hz] | 3 => [hz, hz] | 4 => [hz] | 5 => [hz] | 6 => [hz] | 7 => [hz, hz, hz, hz] | 9 => [ht, ht, ht, hz, ht, ht, ht, hz, hz, hz] | 10 => [hz, hz] | 11 => [hz, hz, hG 50, hG 50, hG 50, hg 50, hG 50, hG 50, hG 50, hg 50, hg 50, hz, hz] | 12 => [ha, hz, hz, hz, hz, hz, hz, hz, hz] | 8 => [hz, hz, hz] | 13 => [hz] | 14 => [hz, hz, hz, hz, hz, hz, hz, hz, hz] | 15 => [hz, hz, hz, hz, hz] | 16 => [hz, hz, hz] | 17 => [hz, hz, hz] | 18 => [hz, hz, hz, hz] | 19 => [hz] | 20 => [hz, hz] | 21 => [hz, hz, hz, hz, hz, hz, hz, hz, hz, hz, hz, hz] | 22 => [hz, hz] | 23 => [hz, hz, hz, hz, hz, hz, hz, hz, hz, hz, hz, hz] | 24 => [hz, hz] | 25 => [hz, hz, hz, hz, hz, hz, hz, hz, hz, hz, hz, hz, hz, hz, hz, hz, hz, hz, hz, hz, hz, hz, hz, hz] | 26 => [hz, hz] | 27 => [hz, hz, hz, hz, hz] | 28 => [hz, hz] | 29 => [hz, hz, hz, hz, hz, hz, hz, hz, hz] | 30 => [hz, hz] | 31 => [hz, hz, hz, hz, hz] | 32 => [hz, hz] | 33 => [hz, hz, hz] | 34 => [hz, hz] | 35 => [hz, hz, hz, hz, hz, hz] | 36 => [hz, hz] | 37 => [hz, hz, hz, hz, hz] | 38 => [hz, hz] | 39 => [hz, hz] | 40 => [hz, hz] | 41 => [hz, hz] | 42 => [hz, hz] | 43 => [hz, hz] | 44 => [hz, hz, hz, hz, hz, hz] | 45 => [hz, hz] | 46 => [hz, hz, hz, hg 196, hg 196, hg 196, hz] | 47 => [hz, hz] | 48 => [hz, hz] | 49 => [hz, hz, hz, hz] | 50 => [hz, ht, ht, hz, hz, hz] | 51 => [hz, hz] | 52 => [hz, ht, ht, ht, ht, hz, ht, ht, hz, hz] | 53 => [hz, hz] | 54 => [hz, hz, hz] | 55 => [hz, hz, hz, hz] | 56 => [hz, hz, hz] | 58 => [hz, ht, hz, ht, ht, hz, ht, ht, hz, hz] | 57 => [hz, hz, hz] | 59 => [hz, hz] | 60 => [hz, hz] | 61 => [ht, hz, ht, ht, ht, ht, hz, ht, ht, ht, hz, hz] | 62 => [ht, ht, ht, hz, hz, hz, hz, hz] | _ => [], fun n => match n with | 7 => [0, 1, 2, 3, 4, 10, 11, 12, 13, 14] | 56 => [0, 1, 2, 10, 15, 16, 17, 18] | _ => []⟩
def h87 : Hints := ⟨fun n => match n with | 0 => [hz] | 1 => [hz, hz, hz, hn 8, hn 8, hz] | 2 => [hz, hz] | 3 => [hz, hz, hz, hz, hz] | 4 => [hz, hz, hz, hz] | 5 => [hz, hz, hz, hz, hz, hz] | _ => [], fun _ => []⟩
def h130 : Hints := ⟨fun n => match n with | 0 => [hz] | 1 => [hz] | 2 => [hz, hz] | 3 => [hz] | 4 => [hz, hz] | 5 => [hz, hz] | _ => [], fun _ => []⟩
def h88 : Hints := ⟨fun n => match n with | 0 => [hz, hz, hz] | 1 => [hz, hz, hz, hz, hz, hz, hn 13, hn 13, hn 13, hn 13, hn 13, hz, hz, hn 20, hn 20, hn 20, hn 20, hn 20, hz, hz, hn 27, hn 27, hn 27, hn 27, hn 27, hz, hz] | 2 => [hz] | 3 => [hz, hz] | 4 => [hz, hz, hz] | 5 => [hz, hz] | 6 => [hz, hz, hz] | 7 => [hz, hz] | 8 => [hz, hz, hz, hz, hz, hz, hz, hz, hz, hz, hz, hz] | 9 => [hz, hz] | 10 => [hz, hz, hz, hz, hz, hz, hz, hz, hz, hz, hz, hz] | 11 => [hz, hz] | 12 => [hz, hz, hz, hz, hz, hz, hz, hz, hz, hz, hz, hz] | 13 => [hz, hz, hz, hz, hz, hz, hz, hz, hz, hz, hz, hz] | _ => [], fun _ => []⟩
def h89 : Hints := ⟨fun n => match n with | 0 => [hz, hz, hz] | 1 => [hz, hz, hz, hz, hz, hz, hz, hz, hz, hz, hz, hz, hz, hz, hz, hz, hz, hz, hz, hz, hz, hz] | _ => [], fun _ => []⟩
def h90 : Hints := ⟨fun n => match n with | 0 => [hz, hz] | 1 => [hz, hz, hz, hz] | 2 => [hz, hz, hz, hz] | 3 => [hz, hz] | 4 => [hz, hz, hz] | 5 => [hz, hz, hz, hz, hz, hz, hz, hz, hz, hz, hz, hz] | 6 => [hz, hz, hz] | 7 => [hz, hz, hz, hz] | 8 => [hz, hz, hz, hz] | 9 => [hz, hz] | 10 => [ht, hz, ht, ht, hz] | 11 => [hz, hz, hz, hz] | 12 => [hz, hz, hz, hz] | 13 => [ht, hz, ht, ht, hz, hz, hG 57, hg 57, hG 57, hG 57, hg 57, hz] | 14 => [hz, hz, hz, hz] | 15 => [hz, hz, hz, hz] | 16 => [hz, hz] | _ => [], fun _ => []⟩
def h131 : Hints := ⟨fun n => match n with | 0 => [hz, hz] | 1 => [hz, hz, hz, hn 10, hn 10, hz] | 2 => [hz, hz] | 3 => [hz, hz, hz, hz, hz, hz, hz, hz, hz, hz] | _ => [], fun _ => []⟩
def h132 : Hints := ⟨fun n => match n with | 0 => [hz] | 1 => [hz] | 2 => [hz, hz, hz] | 3 => [hz, hz, hz, hz] | 4 => [hz, hz] | _ => [], fun n => match n with | 2 => [0, 2, 3] | _ => []⟩
def h91 : Hints := ⟨fun n => match n with | 0 => [hz, hz, hz, hz] | 1 => [hz, hz, hz] | 2 => [hz] | 3 => [hz, hz] | 4 => [hz, hz, hz, hz, hz, hz, hz] | 5 => [ht, hz, ht, hz, ht, ht, hz, ht, hz, ht, ht, hz] | 6 => [hz, hz, hz, hz, hz, hz, hz] | 7 => [ht, hz, ht, hz, ht, ht, ht, ht, hz, ht, hz, ht, ht, ht, ht, hz] | 8 => [hz, hz] | 9 => [hz, hz, hz, hz, hz, hz, hn 64, hn 64, hn 64, hn 64, hn 64, hz] | 10 => [ht, hz, ht, hz, ht, ht, ht, ht, hz, ht, hz, ht, ht, ht, ht, hz] | 11 => [hz, hz] | 12 => [hz, hz, hz, hz, hz, hz, hz, hz, hz, hz, hz] | 13 => [hz] | 14 => [hz, hz, hz, hz, hz, hz, hz, hz] | 15 => [hz, hz] | 16 => [hz, hz, hz] | 17 => [ht, hz, ht, hz, ht, ht, hz, ht, hz, ht, ht, hz] | 18 => [hz, hz] | 19 => [hz, hz, hz, hz, hg 123, hg 123, hg 123, hg 123, hg 123, hz] | 20 => [ht, hz, ht, hz, ht, hz] | 21 => [hz, hz, hz] | 22 => [ht, hz, ht, hz, ht, hz, ht, hz] | 23 => [hz, hz, ht, hz] | 24 => [hz, hz] | 25 => [ht, hz, ht, hz, hz, ht, hz] | 26 => [hz, hz] | 27 => [ht, hz, ht, hz, ht, ht, hz, ht, hz, ht, ht, hz, hz] | 28 => [hz, hz] | 29 => [hz, hz, hz, hz, hz, hz, hz, hz] | 30 => [hz, hz] | 31 => [hz, hz, hz, hz, hz, hz, hg 180, hg 180, hg 180, hg 180, hg 180, hz] | 32 => [hz, hz] | 33 => [hz, hz, hz, hz, hz, hz, hg 192, hg 192, hg 192, hg 192, hg 192, hg 192, hg 192, hz] | 34 => [ht, hz, ht, hz, ht, ht, hz, ht, hz, ht, ht, hz] | 35 => [hz, hz] | 36 => [hz, hz, hz, hz] | 37 => [ht, ht, ht, ht, hz, ht, hz, ht, ht, ht, ht, ht, ht, hz, ht, hz, ht, hz, hz, hz] | 38 => [hz, hz, hz] | _ => [], fun _ => []⟩
def h133 : Hints := ⟨fun n => match n with | 0 => [hz, hz] | 1 => [hz, hz, hz, hz] | 2 => [hz, hz, hz, hg 14, hg 14, hz, hz, hg 18, hg 18, hz, hz, hn 22, hn 22, hn 22, hg 25, hg 25, hn 22, hn 22, hg 29, hg 29, hn 22, hz] | 3 => [hz, hz] | 4 => [hz, hz, hz, hz, hz, hz, hg 39, hg 39, hg 39, hg 39, hz, hz, hz] | _ => [], fun _ => []⟩
def h134 : Hints := ⟨fun n => match n with | 0 => [hz, hz] | 1 => [hz, hz, hz, hz] | 2 => [hz, hz, hz, hg 14, hg 14, hz, hz, hg 18, hg 18, hz, hz, hn 22, hn 22, hn 22, hg 25, hg 25, hn 22, hn 22, hg 29, hg 29, hn 22, hz] | 3 => [hz, hz] | 4 => [hz, hz, hz, hz, hz, hz, hg 39, hg 39, hg 39, hg 39, hz, hz, hz] | _ => [], fun _ => []⟩
def h150 : Hints := ⟨fun n => match n with | 0 => [hz] | 1 => [hz, hz] | 2 => [hz, hz, hz, hz] | 3 => [hz, hz, hz] | _ => [], fun _ => []⟩
def h135 : Hints := ⟨fun n => match n with | 0 => [hz, hz] | 1 => [hz, hz, hz, hz, hz, hz] | 2 => [hz, hz, hz, hz] | 3 => [hz] | 4 => [hz, hz, hz] | 5 => [hz, hz, hz, hz, hz, hz, hz, hz, hz, hz, hz] | 6 => [hz] | 7 => [hz, hz, hz, hz, hz, hz] | 8 => [hz, hz, hz, hz, hz] | _ => [], fun _ => []⟩
def h136 : Hints := ⟨fun n => match n with | 0 => [hz, hz] | 1 => [hz, hz, hz, hz, hz, hz, hz, hz, hz, hz, hz, hz] | _ => [], fun _ => []⟩
def h137 : Hints := ⟨fun n => match n with | 0 => [hz, hz] | 1 => [hz, hz, hz, hz, hz, hg 9, hg 9, hg 9, hg 9, hz, hz] | _ => [], fun _ => []⟩
def h92 : Hints := ⟨fun n => match n with | 0 => [hz, hz, hz, hz] | 1 => [hz] | 2 => [hz, hz] | 3 => [hz, hz, hz, hz, hz, hz, hz, hz, hz, hz, hz] | 4 => [hz, hz, hz, hz, hz, hz, hz, hz, hz, hz, hz] | 5 => [hz, hz, hg 52, hz] | 6 => [hz, hz, hz, hz] | 7 => [hz, hz] | 8 => [hz, hz, hz, hz, hz, hz, hz, hz, hz, hz, hz] | 9 => [hz, hz, hz, hz, hz, hz, hz, hz, hz, hz, hz] | 10 => [hz, hz, hg 78, hz] | 11 => [hz, hz, hz, hz] | 12 => [hz, hz] | 13 => [hz, hz, hz, hz, hz, hz, hz, hz, hz, hz, hz] | 14 => [hz, hz, hz, hz, hz, hz, hz, hz, hz, hz, hz] | 15 => [hz, hz, hz, hz, hz, hz, hz, hz, hz, hz, hz] | 16 => [hz, hz, hz, hz, hz, hz, hz, hz, hz, hz, hz] | 17 => [hz, hz, hg 122, hz, hz, hg 125, hz, hz, hg 128, hz] | 18 => [hz, hz, hz, hz, hz, hz, hz, hz, hz] | 19 => [hz, hz] | 20 => [hz, hz, hz, hz, hG 143, hg 143, hG 143, hG 143, hg 143, hg 143, hn 149, hn 149, hn 149, hg 143, hz] | 21 => [ht, hz, ht, hz, ht, ht, hz, ht, hz, ht, ht, hz, ht, hz, ht, ht, hz, ht, hz, ht, hz, hz, hz, hz, hz] | 22 => [hz, hz] | 23 => [hz, hz, hz, hz] | 24 => [hz, hz, hz, hz] | 25 => [hz, hz, hz] | 26 => [hz, hz, hz, hz, hz, hz] | 27 => [hz, hz, hz, hz, hz, hz] | 28 => [hz, hz, hz, hz] | 29 => [hz, hz] | 30 => [ht, hz, ht, hz, hz, hz, hg 208, hg 208, hG 208, hG 208, hg 208, hz, hz, hG 215, hg 215, hG 215, hG 215, hG 215, hg 215, hG 215, hg 215, hz, hz, hG 225, hg 225, hG 225, hG 225, hG 225, hg 225, hG 225, hg 225, hz] | 31 => [ht, hz, ht, hz, ht, ht, hz, ht, hz, ht, ht, hz] | 32 => [hz, hz] | 33 => [hz, hz, hz, hz, hz, hz, hz] | 34 => [hz, hz, hz, hz, hz, hz, hz] | 35 => [hz, hz, hz, hz, hz, hz, hz, hz, hz, hz, hz, hz, hz, hz, hz, hz, hz, hz, hz, hz, hz] | 36 => [hz, hz, hz, hz, hz, hz] | _ => [], fun _ => []⟩
def h30 : Hints := ⟨fun n => match n with | 0 => [hz] | 1 => [hz, hz, hz, hz, hz, hz, hn 29, hn 29, hn 29, hn 29, hn 29, hz] | 2 => [hz, hz, hz] | 3 => [hz] | 4 => [hz] | 5 => [hz] | 6 => [hz] | 7 => [hz, hz, hz, hz] | 9 => [ht, ht, ht, hz, ht, ht, ht, hz, hz, hz, hz, ht, ht, hz, hz] | 10 => [hz, hz] | 11 => [hz, hz, hz] | 12 => [ha, hz, hz, hz, hz] | 13 => [ha, hz, hz, hz, hz, hz] | 14 => [hz, hz, hg 70, hg 70, hg 70, hg 70, hg 70, hz, hz] | 8 => [hz, hz, hz] | 15 => [hz] | 16 => [hz, hz, hz, hz, hz, hz, hz, hz, hz] | 17 => [hz] | 21 => [hz, hz, hz, hg 118, hg 118, hz, hz] | 22 => [ht, ht, ht, hz, ht, ht, hz, hz, hz] | 23 => [hz, hz, hz, hG 133, hG 133, hG 133, hg 133, hG 133, hG 133, hG 133, hg 133, hg 133, hz, hz] | 24 => [hz, hz, hz, hz, hz, hz, hz, hz, hz, hz] | 25 => [hz, hz, hz] | 26 => [ht, ht, hz, ht, ht, hz, hz, hz] | 27 => [hz, hz, hz, hz] | 28 => [ht, ht, ht, ht, hz, ht, ht, hz, hz, hz] | 18 => [ht, ht, ht, ht, hz, ht, ht, hz, hz, hz, hz, hz, hz, hz] | 19 => [ht, ht, ht, ht, hz, ht, ht, hz, hz, hz, hz, hz, hz, hz] | 20 => [hz, hz, hz, hz, hz, hz] | 29 => [hz, hz, hz, hz, hz, hz, hz, hz, hz] | 30 => [hz, hz] | 31 => [hz, hz, hz] | 32 => [hz, hz] | _ => [], fun n => match n with | 7 => [0, 1, 2, 3, 4, 10, 11, 12, 13, 14] | _ => []⟩
def h8 : Hints := ⟨fun n => match n with | 0 => [hz] | 1 => [hz, hz, hz, hz, hz, hz, hn 21, hn 21, hn 21, hn 21, hn 21, hz] | 2 => [hz, hz, hz] | 3 => [hz] | 4 => [hz] | 5 => [hz] | 6 => [hz, hz, hz, hz] | 8 => [ht, ht, ht, hz, ht, ht, ht, hz, hz, hz] | 9 => [hz, hz, hz] | 10 => [ha, hz, hz, hz, hz, hz, hz, hz, hz] | 11 => [ha, hz, hz, hz, hz, hz, hz, hz, hz] | 7 => [hz, hz, hz] | 12 => [hz, hz, hz, hz, hz, hz, hz, hz, hz, hz, hz, hz, hz, hz, hz, hz, hz, hz, hz, hz, hz] | 13 => [hz, hz] | 14 => [hz, hz, hz] | 15 => [hz, hz] | _ => [], fun n => match n with | 6 => [0, 1, 2, 3, 4, 10, 11, 12, 13] | _ => []⟩
def h3 : Hints := ⟨fun n => match n with | 0 => [hz, hz] | 1 => [hz, hz] | 2 => [hz] | 3 => [hz, hz, hz] | 4 => [hz] | 5 => [ht, hz, ht, hz, ht, hz, ht, hz, ht, hz, ht, ht, hz, ht, hz, ht, hz, ht, hz, ht, hz, hz, hz, hz] | _ => [], fun _ => []⟩
structure Funs where
  f3 : Int → Int → List Int → List (S30) → Int → Option (Bool)
  f5 : Option (Bool)
  f6 : Int → Int → List Int → List (S30) → Int → Option (Bool)
  f7 : Int → Int → List Int → List (S30) → Int → Option (Int × Int × Int × Int × Int × Int)
  f8 : Int → Int → List Int → List (S30) → Int → Option (Int × Int × Int × Int × Int × Int)
  f9 : Int → Int → List Int → Option (Bool)
  f10 : Int → Option (Int)
  f11 : Int → Int → Int → Int → Int → Int → Int → Option (Bool)
  f13 : Int → Int → Int → Int → Int → Int → Int → Option (Bool)
  f15 : Int → Int → List Int → List Int → Int → Option (Int)
  f16 : Int → Int → Option (Int × Int × Int × Int × Int × Int)
  f17 : Int → Option (Int × Int × Int × Int × Int × Int)
  f18 : Int → Int → Int → Int → Int → Int → Option (Int × Int)
  f19 : Int → Int → Int → Int → Int → Int → Option (Int × Int × Int × Int)
  f20 : Int → Int → Int → Int → Int → Int → Int → Option (Int × Int × Int × Int × Int × Int × Bool)
  f21 : Int → Int → Int → Int → Int → Int → Option (Int × Int × Int × Int × Int × Int)
  f22 : Int → Int → List Int → List (S45) → Int → Option (Int × Int)
  f23 : Int → Int → List Int → List (S48) → Int → Option (Int × Int × Int × Int)
  f24 : Int → Option (Int × Int × Int × Int × Int × Int)
  f25 : Int → Int → Int → Int → Int → Int → Option (Int × Int)
  f26 : Int → Int → Int → Int → Int → Int → Option (Int × Int × Int × Int)
  f27 : Int → Int → Int → Int → Int → Int → Int → Option (Int × Int × Int × Int × Int × Int × Bool)
  f28 : Int → Int → Int → Int → Int → Int → Option (Int × Int × Int × Int × Int × Int)
  f29 : Int → Int → List Int → List (S45) → Int → Option (Int × Int)
  f30 : Int → Int → List Int → List (S48) → Int → Option (Int × Int × Int × Int)
  f31 : Int → Int → Int → Option (Bool)
  f32 : Int → Int → Int → Int → Int → Option (Bool)
  f35 : Int → Int → Int → Option (Bool)
  f36 : Int → Int → Int → Int → Int → Option (Bool)
  f39 : Int → Int → Int → Option (Int × Int)
  f40 : Int → Int → Int → Int → Option (Int)
  f41 : Int → Int → Option (Int)
  f42 : Bool → Option (Int)
  f43 : Int → Int → Option (Int)
  f44 : Int → Int → Option (Int × Int)
  f45 : Int → Int → Option (Int × Int × Int × Int)
  f46 : Int → Option (Int × Int × Int × Int)
  f47 : Int → Option (Int)
  f48 : Int → Int → Option (Int)
  f49 : Int → Int → Int → Int → Int → Option (Int × Int × Int × Int × Bool)
  f50 : Int → Option (Int)
  f51 : Int → Int → List Int → Option (Bool)
  f52 : Int → Int → Int → Option (Int × Bool)
  f53 : Int → Int → List Int → List Int → Int → Option (Int)
  f54 : Int → Int → Int → Int → Int → Int → Option (Int × Int)
  f55 : Int → Int → Int → Int → Int → Option (Int × Int)
  f56 : Int → Int → Option (Int)
  f57 : Int → Int → Option (Int)
  f58 : Int → Int → Int → Int → Int → Option (Int × Int)
  f59 : Int → Int → Int → Int → Int → Option (Int × Int)
  f60 : Int → Int → Int → Int → Option (Int × Int)
  f61 : Bool → Option (Int)
  f62 : Int → Int → Int → Int → Int → Bool → Option (Int × Int)
  f63 : Int → Int → Int → Option (Int × Int)
  f64 : Int → Int → Int → Int → Option (Int × Int)
  f65 : Int → Option (Int)
  f66 : Int → Int → List Int → Option (Bool)
  f67 : Int → Int → List Int → List (S48) → Option (Int)
  f68 : Int → Option (Int × Int)
  f69 : Int → Int → Int → Int → Int → Int → Int → Int → Int → List Int → List (S48) → Option (Int × Int × Int × Int × Int × Int × Int × Int)
  f70 : Int → Option (Int × Int × Int × Int)
  f71 : Int → Int → Int → Option (Int × Int)
  f72 : Int → Int → Int → Option (Int × Int)
  f73 : Int → Int → Int → Int → Int → Option (Int × Int × Int × Int × Bool)
  f74 : Int → Int → Int → Option (Bool)
  f75 : Int → Int → Option (Int × Int)
  f76 : Int → Int → Int → Int → Int → Int → Option (Int × Int)
  f77 : Int → Int → Int → Int → Int → Option (Int × Int)
  f78 : Int → Int → Int → Option (Int × Int)
  f79 : Int → Int → Int → Int → Option (Int)
  f80 : Int → Int → Int → Int → Int → Option (Int × Int)
  f81 : Int → Int → Int → Int → Int → Int → Option (Int × Int)
  f82 : Int → Int → Int → Int → Option (Int × Int)
  f83 : Int → Int → Int → Int → Option (Int × Int)
  f84 : Int → Int → Int → Int → Option (Int × Int)
  f85 : Int → Int → Int → Option (Int)
  f86 : Int → Int → Int → Int → Int → Int → Option (Int × Int)
  f87 : Int → Int → Option (Int × Int × Int × Int)
  f88 : Int → Int → Int → Int → Int → Int → Int → Int → Int → Option (Int × Int × Int × Int)
  f89 : Int → Int → Int → Int → Int → Int → Int → Int → Option (Int × Int × Int × Int)
  f90 : Int → Int → Int → Int → Int → Int → Int → Option (Int × Int × Int × Int)
  f91 : Int → Int → Int → Int → Int → Int → Int → Int → Int → Int → Option (Int × Int)
  f92 : Int → Int → Int → Int → Int → Int → Int → Int → Int → Int → Option (Int × Int)
  f93 : Int → Option (Int)
  f94 : Int → Option (Int)
  f95 : Int → Option (Int)
  f96 : Int → Option (Bool)
  f97 : Int → Option (Bool)
  f98 : Int → Int → Option (Int)
  f99 : Int → Option (Int)
  f100 : Int → Int → Option (Bool)
  f101 : Int → Int → Option (Int)
  f102 : Int → Int → Int → Int → Option (Int)
  f103 : Int → Int → Int → Int → Option (Int)
  f104 : Int → Int → Option (Int)
  f105 : Int → Int → Int → Int → Option (Int)
  f106 : Int → Option (Int)
  f107 : Int → Int → Option (Int)
  f108 : Int → Option (Int)
  f109 : Int → Option (Int)
  f110 : Int → Int → Int → Option (Int)
  f111 : Int → Int → Option (Int)
  f112 : Int → Option (Bool)
  f113 : Int → Option (Bool)
  f114 : Int → Int → Int → Bool → Option (Int)
  f115 : Int → Int → Int → Int → Option (Int × Int)
  f116 : Int → Int → Int → Int → Int → Int → Int → Int → Int → Int → Int → Int → Int → Int → Int → Int → Option (Int × Int × Int × Int × Int × Int × Int × Int)
  f117 : Int → Int → Int → Int → Int → Int → Int → Int → Int → Int → Int → Int → Int → Int → Int → Int → Option (Int × Int × Int × Int × Int × Int × Int × Int)
  f118 : Int → Int → Int → Int → Int → Int → Int → Int → Int → Int → Int → Int → Int → Int → Int → Int → Option (Int × Int × Int × Int × Int × Int × Int × Int)
  f119 : Int → Int → Int → Int → Int → Int → Int → Int → Int → Int → Int → Int → Int → Int → Int → Int → Int → Option (Int × Int × Int × Int × Int × Int × Int × Int)
  f120 : Int → Int → Int → Int → Int → Int → Int → Int → Int → Int → Option (Int × Int × Int × Int × Int × Int × Int × Int)
  f121 : Int → Int → Int → Int → Int → Int → Int → Int → Int → Int → Int → Int → Int → Int → Int → Int → Int → Option (Int × Int × Int × Int × Int × Int × Int × Int)
  f122 : Int → Int → Int → Int → Int → Int → Int → Int → Option (Int × Int × Int × Int)
  f123 : Int → Int → Int → Int → Int → Int → Int → Int → Int → Int → Int → Int → Int → Int → Option (Int × Int × Int × Int × Int × Int × Int × Int)
  f124 : Int → Int → Int → Int → Int → Int → Int → Int → Int → Int → Int → Int → Int → Int → Int → Int → Int → Option (Int × Int × Int × Int × Int × Int × Int × Int)
  f125 : Int → Int → Int → Option (Int × Int × Int × Int × Bool)
  f126 : Int → Int → Int → Option (Int)
  f127 : Int → Int → Int → Option (Int)
  f128 : Int → Int → Int → Int → Int → Option (Int × Int)
  f129 : Bool → Bool → Option (Int × Int)
  f130 : Bool → Bool → Option (Int × Int × Int × Int)
  f131 : Int → Int → Int → Option (Int × Bool)
  f132 : Int → Option (Int)
  f133 : Int → Int → Int → Option (Int × Bool)
  f134 : Int → Int → Int → Option (Int × Bool)
  f135 : Int → Int → Int → Option (Int × Bool)
  f136 : Int → Int → Int → Int → Option (Int × Int)
  f137 : Int → Int → Int → Int → Int → Option (Bool)
  f138 : Int → Int → Int → Int → Option (Int)
  f139 : Int → Int → Int → Int → Option (Int)
  f140 : Int → Int → Int → Int → Option (Int)
  f141 : Int → Int → Int → Option (Int × Int)
  f142 : Int → Int → Int → Int → Int → Int → Int → Int → Int → Int → Option (Int × Bool)
  f143 : Int → Int → Int → Int → Int → Int → Int → Int → Int → Int → Option (Int × Int × Int × Int × Int × Int × Int × Int)
  f144 : Int → Int → Int → Int → Int → Int → Int → Int → Int → Int → Option (Int × Bool)
  f145 : Int → Int → Option (Int × Int)
  f146 : Int → Int → Int → Int → Int → Int → Int → Int → Int → Int → Option (Int × Bool)
  f147 : Int → Int → Int → Int → Int → Int → Int → Int → Int → List Int → Option (Int × Int × Int × Int × Int × Int × Int × Int)
  f148 : Int → Int → Int → Int → Int → Int → Int → Int → Int → Option (Bool)
  f149 : Int → Int → Int → Int → Int → Int → Int → Int → Bool → Bool → Option (Int × Int × Int × Int × Int × Int × Int × Int)
  f150 : Int → Option (Int)
  f151 : Int → Int → Int → Option (Int × Int)
  f152 : Bool → Option (Int)
/-- (Held so that nothing reckons it.) -/
noncomputable def bits_OnesCount64.c : Int → Option (Int) := Classical.choose (⟨_, rfl⟩ : ∃ f, f = bits_OnesCount64.f)
theorem bits_OnesCount64.ce : bits_OnesCount64.c = bits_OnesCount64.f := Classical.choose_spec (⟨_, rfl⟩ : ∃ f, f = bits_OnesCount64.f)
theorem knownbits_remainder.eq_c : ∀ (a0 : Int) (a1_0 : Int) (a1_1 : Int) (a2_0 : Int) (a2_1 : Int), knownbits_remainder.f a0 a1_0 a1_1 a2_0 a2_1 = (knownbits_lead.f a0 a1_0).bind fun t296 => ((knownbits_high.f a0 t296).bind fun t297 => ((knownbits_Exact.f a0 a2_0 a2_1).bind fun bt299 => (if bt299.2 = true then ((bits_OnesCount64.c bt299.1).bind fun t301 => (if t301 = 1 then ((knownbits_mask.f a0).bind fun t302 => (some (Go.bits .or .u64 t297 (Go.bits .or .u64 (Go.bits .andNot .u64 t302 (IntKind.u64.wrap (bt299.1 - 1))) (Go.bits .and .u64 a1_0 (IntKind.u64.wrap (bt299.1 - 1)))), Go.bits .and .u64 a1_1 (IntKind.u64.wrap (bt299.1 - 1))))) else (some (t297, 0)))) else (some (t297, 0))))) := by rw [bits_OnesCount64.ce]; exact knownbits_remainder.f.eq_1
/-- (Held so that nothing reckons it.) -/
noncomputable def bits_TrailingZeros64.c : Int → Option (Int) := Classical.choose (⟨_, rfl⟩ : ∃ f, f = bits_TrailingZeros64.f)
theorem bits_TrailingZeros64.ce : bits_TrailingZeros64.c = bits_TrailingZeros64.f := Classical.choose_spec (⟨_, rfl⟩ : ∃ f, f = bits_TrailingZeros64.f)
theorem knownbits_product.eq_c : ∀ (a0 : Int) (a1_0 : Int) (a1_1 : Int) (a2_0 : Int) (a2_1 : Int), knownbits_product.f a0 a1_0 a1_1 a2_0 a2_1 = (bits_TrailingZeros64.c (Go.bits .xor .u64 18446744073709551615 (Go.bits .or .u64 a1_0 a1_1))).bind fun t283 => ((bits_TrailingZeros64.c (Go.bits .xor .u64 18446744073709551615 (Go.bits .or .u64 a2_0 a2_1))).bind fun t284 => ((knownbits_mask.f (mn (mn t283 t284) a0)).bind fun t285 => ((knownbits_tail.f a1_0 a1_1).bind fun t286 => ((knownbits_tail.f a2_0 a2_1).bind fun t287 => ((knownbits_mask.f (mn (wrap64 (t286 + t287)) a0)).bind fun t288 => (some (Go.bits .or .u64 (Go.bits .and .u64 (Go.bits .xor .u64 18446744073709551615 (IntKind.u64.wrap ((Go.bits .and .u64 a1_1 t285) * (Go.bits .and .u64 a2_1 t285)))) t285) t288, Go.bits .andNot .u64 (Go.bits .and .u64 (IntKind.u64.wrap ((Go.bits .and .u64 a1_1 t285) * (Go.bits .and .u64 a2_1 t285))) t285) t288))))))) := by rw [bits_TrailingZeros64.ce]; exact knownbits_product.f.eq_1
theorem knownbits_tail.eq_c : ∀ (a0_0 : Int) (a0_1 : Int), knownbits_tail.f a0_0 a0_1 = (bits_TrailingZeros64.c (Go.bits .xor .u64 18446744073709551615 a0_0)).bind fun t279 => (some t279) := by rw [bits_TrailingZeros64.ce]; exact knownbits_tail.f.eq_1
noncomputable def realF : Funs := ⟨jacquardlaw14_FactsApply.f, jacquardlaw14_awake.f, jacquardlaw14_few.f, facts_Apply.f, jacquardref14_Apply.f, jacquardref12_Shape.f, jacquardref12_Mask.f, jacquardref14_Valid.f, facts_Valid.f, jacquardref12_Eval.f, facts_Of.f, facts_Top.f, facts_known.f, facts_span.f, facts_Tighten.f, facts_fact.f, knownbits_Apply.f, interval_Apply.f, jacquardref14_Top.f, jacquardref14_bits.f, jacquardref14_span.f, jacquardref14_Tighten.f, jacquardref14_fact.f, jacquardref12_Apply.f, jacquardref13_Apply.f, jacquardref12_Valid.f, jacquardref13_Valid.f, knownbits_Valid.f, interval_Valid.f, jacquardref12_divide.f, jacquardref12_shift.f, jacquardref12_Bit.f, jacquardref12_truth.f, jacquardref12_Signed.f, knownbits_Of.f, interval_Of.f, interval_Top.f, bits_Mask.f, bits_Signed.f, interval_Tighten.f, bits_Len64.f, knownbits_shaped.f, knownbits_Exact.f, knownbits_value.f, knownbits_add.f, knownbits_product.f, knownbits_high.f, knownbits_lead.f, knownbits_remainder.f, knownbits_shifted.f, knownbits_vague.f, knownbits_one.f, knownbits_less.f, knownbits_flip.f, knownbits_Join.f, knownbits_mask.f, interval_shaped.f, interval_value.f, interval_ends.f, interval_computer_compute.f, jacquardref13_Top.f, jacquardref12_Limits.f, jacquardref12_SignedLimits.f, jacquardref13_Tighten.f, jacquardref12_Exact.f, jacquardref12_Of.f, jacquardref12_add.f, jacquardref12_product.f, jacquardref12_zeros.f, jacquardref12_lead.f, jacquardref12_remainder.f, jacquardref12_right.f, jacquardref12_Join.f, jacquardref12_both.f, jacquardref12_put.f, jacquardref12_Known.f, jacquardref12_compare.f, jacquardref13_Of.f, jacquardref13_compare.f, jacquardref13_Join.f, jacquardref13_cast.f, jacquardref13_unsigned.f, jacquardref13_signed.f, jacquardref13_Umax.f, jacquardref13_Smin.f, jacquardref13_Smax.f, knownbits_good.f, interval_good.f, bits_Fit.f, bits_limit.f, bits_negative.f, bits_From.f, knownbits_divide.f, knownbits_shift.f, knownbits_signed.f, knownbits_compare.f, bits_TrailingZeros64.c, knownbits_tail.f, bits_LeadingZeros64.f, bits_OnesCount64.c, knownbits_most.f, knownbits_least.f, bits_IsCompare.f, bits_IsBinary.f, bits_Extend.f, bits_Binary.f, interval_computer_add.f, interval_computer_sub.f, interval_computer_mul.f, interval_computer_divide.f, interval_computer_u.f, interval_computer_shift.f, interval_Join.f, interval_computer_convert.f, interval_computer_compare.f, jacquardref13_same.f, jacquardref12_tail.f, jacquardref12_low.f, jacquardref12_shifted.f, jacquardref12_decided.f, jacquardref13_decided.f, jacquardref13_product.f, jacquardref13_ones.f, jacquardref13_plus.f, jacquardref13_minus.f, jacquardref13_times.f, jacquardref13_four.f, jacquardref13_within.f, bits_divide.f, bits_shift.f, bits_compare.f, bits_Add64.f, interval_computer_sum.f, interval_computer_s.f, interval_computer_less.f, bits_Mul64.f, interval_computer_times.f, interval_computer_corners.f, interval_computer_within.f, interval_computer_truth.f, jacquardref13_size.f, bits_signed.f, bits_one.f⟩
def c30 : Cd S30 := ⟨fun x => [V.sc (.int .u64 x.f0), V.sc (.int .u64 x.f1), V.sc (.int .u64 x.f2), V.sc (.int .u64 x.f3), V.sc (.int .i64 x.f4), V.sc (.int .i64 x.f5)], fun c => match c with | [.sc (.int .u64 x0), .sc (.int .u64 x1), .sc (.int .u64 x2), .sc (.int .u64 x3), .sc (.int .i64 x4), .sc (.int .i64 x5)] => some ⟨x0, x1, x2, x3, x4, x5⟩ | _ => none, z30, 6⟩
instance : CdOk c30 := ⟨fun _ => rfl, fun c x h => (by
  simp only [c30] at h ⊢
  split at h
  · cases h; rfl
  · cases h), fun _ => rfl⟩
def c45 : Cd S45 := ⟨fun x => [V.sc (.int .u64 x.f0), V.sc (.int .u64 x.f1)], fun c => match c with | [.sc (.int .u64 x0), .sc (.int .u64 x1)] => some ⟨x0, x1⟩ | _ => none, z45, 2⟩
instance : CdOk c45 := ⟨fun _ => rfl, fun c x h => (by
  simp only [c45] at h ⊢
  split at h
  · cases h; rfl
  · cases h), fun _ => rfl⟩
def c48 : Cd S48 := ⟨fun x => [V.sc (.int .u64 x.f0), V.sc (.int .u64 x.f1), V.sc (.int .i64 x.f2), V.sc (.int .i64 x.f3)], fun c => match c with | [.sc (.int .u64 x0), .sc (.int .u64 x1), .sc (.int .i64 x2), .sc (.int .i64 x3)] => some ⟨x0, x1, x2, x3⟩ | _ => none, z48, 4⟩
instance : CdOk c48 := ⟨fun _ => rfl, fun c x h => (by
  simp only [c48] at h ⊢
  split at h
  · cases h; rfl
  · cases h), fun _ => rfl⟩
theorem rds : (∀ k l i, (cI k).rd l i = rd l i) ∧ (∀ l i, c30.rd l i = rd_T30 l i) ∧ (∀ l i, c45.rd l i = rd_T45 l i) ∧ (∀ l i, c48.rd l i = rd_T48 l i) := ⟨fun _ _ _ => rfl, fun _ _ => rfl, fun _ _ => rfl, fun _ _ => rfl⟩
def orc (G : Funs) (C : CT) (U : UT) (n : Nat) : Ps := match Nat.ble n 80 with
| true => (match Nat.ble n 44 with
| true => (match Nat.ble n 22 with
| true => (match Nat.ble n 11 with
| true => (match Nat.ble n 7 with
| true => (match Nat.ble n 5 with
| true => (match Nat.ble n 3 with
| true => (match Nat.beq n 3 with | true => pa 5 <| pi fun a0_0 => pi fun a0_1 => pl U (cI .i64) fun l0_2 => pl U c30 fun l0_3 => pu fun a0_4 => pr C (G.f3 a0_0 a0_1 l0_2 l0_3 a0_4) fun r => (V.b r, []) | false => fun _ _ => none)
| false => (match Nat.beq n 5 with | true => pr C (G.f5) fun r => (V.b r, []) | false => fun _ _ => none))
| false => (match Nat.ble n 6 with
| true => (match Nat.beq n 6 with | true => pa 5 <| pi fun a0_0 => pi fun a0_1 => pl U (cI .i64) fun l0_2 => pl U c30 fun l0_3 => pu fun a0_4 => pr C (G.f6 a0_0 a0_1 l0_2 l0_3 a0_4) fun r => (V.b r, []) | false => fun _ _ => none)
| false => (match Nat.beq n 7 with | true => pi fun a0 => pi fun a1 => pl U (cI .i64) fun l2 => pl U c30 fun l3 => pu fun a4 => pr C (G.f7 a0 a1 l2 l3 a4) fun r => (V.agg [V.u r.1, V.u r.2.1, V.u r.2.2.1, V.u r.2.2.2.1, V.i r.2.2.2.2.1, V.i r.2.2.2.2.2], []) | false => fun _ _ => none)))
| false => (match Nat.ble n 9 with
| true => (match Nat.ble n 8 with
| true => (match Nat.beq n 8 with | true => pi fun a0 => pi fun a1 => pl U (cI .i64) fun l2 => pl U c30 fun l3 => pu fun a4 => pr C (G.f8 a0 a1 l2 l3 a4) fun r => (V.agg [V.u r.1, V.u r.2.1, V.u r.2.2.1, V.u r.2.2.2.1, V.i r.2.2.2.2.1, V.i r.2.2.2.2.2], []) | false => fun _ _ => none)
| false => (match Nat.beq n 9 with | true => pi fun a0 => pi fun a1 => pl U (cI .i64) fun l2 => pr C (G.f9 a0 a1 l2) fun r => (V.b r, []) | false => fun _ _ => none))
| false => (match Nat.ble n 10 with
| true => (match Nat.beq n 10 with | true => pi fun a0 => pr C (G.f10 a0) fun r => (V.u r, []) | false => fun _ _ => none)
| false => (match Nat.beq n 11 with | true => pi fun a0 => pa 6 <| pu fun a1_0 => pu fun a1_1 => pu fun a1_2 => pu fun a1_3 => pi fun a1_4 => pi fun a1_5 => pr C (G.f11 a0 a1_0 a1_1 a1_2 a1_3 a1_4 a1_5) fun r => (V.b r, []) | false => fun _ _ => none))))
| false => (match Nat.ble n 17 with
| true => (match Nat.ble n 15 with
| true => (match Nat.ble n 13 with
| true => (match Nat.beq n 13 with | true => pi fun a0 => pa 6 <| pu fun a1_0 => pu fun a1_1 => pu fun a1_2 => pu fun a1_3 => pi fun a1_4 => pi fun a1_5 => pr C (G.f13 a0 a1_0 a1_1 a1_2 a1_3 a1_4 a1_5) fun r => (V.b r, []) | false => fun _ _ => none)
| false => (match Nat.beq n 15 with | true => pi fun a0 => pi fun a1 => pl U (cI .i64) fun l2 => pl U (cI .u64) fun l3 => pu fun a4 => pr C (G.f15 a0 a1 l2 l3 a4) fun r => (V.u r, []) | false => fun _ _ => none))
| false => (match Nat.ble n 16 with
| true => (match Nat.beq n 16 with | true => pi fun a0 => pu fun a1 => pr C (G.f16 a0 a1) fun r => (V.agg [V.u r.1, V.u r.2.1, V.u r.2.2.1, V.u r.2.2.2.1, V.i r.2.2.2.2.1, V.i r.2.2.2.2.2], []) | false => fun _ _ => none)
| false => (match Nat.beq n 17 with | true => pi fun a0 => pr C (G.f17 a0) fun r => (V.agg [V.u r.1, V.u r.2.1, V.u r.2.2.1, V.u r.2.2.2.1, V.i r.2.2.2.2.1, V.i r.2.2.2.2.2], []) | false => fun _ _ => none)))
| false => (match Nat.ble n 19 with
| true => (match Nat.ble n 18 with
| true => (match Nat.beq n 18 with | true => pa 6 <| pu fun a0_0 => pu fun a0_1 => pu fun a0_2 => pu fun a0_3 => pi fun a0_4 => pi fun a0_5 => pr C (G.f18 a0_0 a0_1 a0_2 a0_3 a0_4 a0_5) fun r => (V.agg [V.u r.1, V.u r.2], []) | false => fun _ _ => none)
| false => (match Nat.beq n 19 with | true => pa 6 <| pu fun a0_0 => pu fun a0_1 => pu fun a0_2 => pu fun a0_3 => pi fun a0_4 => pi fun a0_5 => pr C (G.f19 a0_0 a0_1 a0_2 a0_3 a0_4 a0_5) fun r => (V.agg [V.u r.1, V.u r.2.1, V.i r.2.2.1, V.i r.2.2.2], []) | false => fun _ _ => none))
| false => (match Nat.ble n 20 with
| true => (match Nat.beq n 20 with | true => pi fun a0 => pa 6 <| pu fun a1_0 => pu fun a1_1 => pu fun a1_2 => pu fun a1_3 => pi fun a1_4 => pi fun a1_5 => pr C (G.f20 a0 a1_0 a1_1 a1_2 a1_3 a1_4 a1_5) fun r => (V.tup [V.agg [V.u r.1, V.u r.2.1, V.u r.2.2.1, V.u r.2.2.2.1, V.i r.2.2.2.2.1, V.i r.2.2.2.2.2.1], V.b r.2.2.2.2.2.2], []) | false => fun _ _ => none)
| false => (match Nat.ble n 21 with
| true => (match Nat.beq n 21 with | true => pa 2 <| pu fun a0_0 => pu fun a0_1 => pa 4 <| pu fun a1_0 => pu fun a1_1 => pi fun a1_2 => pi fun a1_3 => pr C (G.f21 a0_0 a0_1 a1_0 a1_1 a1_2 a1_3) fun r => (V.agg [V.u r.1, V.u r.2.1, V.u r.2.2.1, V.u r.2.2.2.1, V.i r.2.2.2.2.1, V.i r.2.2.2.2.2], []) | false => fun _ _ => none)
| false => (match Nat.beq n 22 with | true => pi fun a0 => pi fun a1 => pl U (cI .i64) fun l2 => pl U c45 fun l3 => pu fun a4 => pr C (G.f22 a0 a1 l2 l3 a4) fun r => (V.agg [V.u r.1, V.u r.2], []) | false => fun _ _ => none))))))
| false => (match Nat.ble n 31 with
| true => (match Nat.ble n 26 with
| true => (match Nat.ble n 24 with
| true => (match Nat.ble n 23 with
| true => (match Nat.beq n 23 with | true => pi fun a0 => pi fun a1 => pl U (cI .i64) fun l2 => pl U c48 fun l3 => pu fun a4 => pr C (G.f23 a0 a1 l2 l3 a4) fun r => (V.agg [V.u r.1, V.u r.2.1, V.i r.2.2.1, V.i r.2.2.2], []) | false => fun _ _ => none)
| false => (match Nat.beq n 24 with | true => pi fun a0 => pr C (G.f24 a0) fun r => (V.agg [V.u r.1, V.u r.2.1, V.u r.2.2.1, V.u r.2.2.2.1, V.i r.2.2.2.2.1, V.i r.2.2.2.2.2], []) | false => fun _ _ => none))
| false => (match Nat.ble n 25 with
| true => (match Nat.beq n 25 with | true => pa 6 <| pu fun a0_0 => pu fun a0_1 => pu fun a0_2 => pu fun a0_3 => pi fun a0_4 => pi fun a0_5 => pr C (G.f25 a0_0 a0_1 a0_2 a0_3 a0_4 a0_5) fun r => (V.agg [V.u r.1, V.u r.2], []) | false => fun _ _ => none)
| false => (match Nat.beq n 26 with | true => pa 6 <| pu fun a0_0 => pu fun a0_1 => pu fun a0_2 => pu fun a0_3 => pi fun a0_4 => pi fun a0_5 => pr C (G.f26 a0_0 a0_1 a0_2 a0_3 a0_4 a0_5) fun r => (V.agg [V.u r.1, V.u r.2.1, V.i r.2.2.1, V.i r.2.2.2], []) | false => fun _ _ => none)))
| false => (match Nat.ble n 28 with
| true => (match Nat.ble n 27 with
| true => (match Nat.beq n 27 with | true => pi fun a0 => pa 6 <| pu fun a1_0 => pu fun a1_1 => pu fun a1_2 => pu fun a1_3 => pi fun a1_4 => pi fun a1_5 => pr C (G.f27 a0 a1_0 a1_1 a1_2 a1_3 a1_4 a1_5) fun r => (V.tup [V.agg [V.u r.1, V.u r.2.1, V.u r.2.2.1, V.u r.2.2.2.1, V.i r.2.2.2.2.1, V.i r.2.2.2.2.2.1], V.b r.2.2.2.2.2.2], []) | false => fun _ _ => none)
| false => (match Nat.beq n 28 with | true => pa 2 <| pu fun a0_0 => pu fun a0_1 => pa 4 <| pu fun a1_0 => pu fun a1_1 => pi fun a1_2 => pi fun a1_3 => pr C (G.f28 a0_0 a0_1 a1_0 a1_1 a1_2 a1_3) fun r => (V.agg [V.u r.1, V.u r.2.1, V.u r.2.2.1, V.u r.2.2.2.1, V.i r.2.2.2.2.1, V.i r.2.2.2.2.2], []) | false => fun _ _ => none))
| false => (match Nat.ble n 29 with
| true => (match Nat.beq n 29 with | true => pi fun a0 => pi fun a1 => pl U (cI .i64) fun l2 => pl U c45 fun l3 => pu fun a4 => pr C (G.f29 a0 a1 l2 l3 a4) fun r => (V.agg [V.u r.1, V.u r.2], []) | false => fun _ _ => none)
| false => (match Nat.ble n 30 with
| true => (match Nat.beq n 30 with | true => pi fun a0 => pi fun a1 => pl U (cI .i64) fun l2 => pl U c48 fun l3 => pu fun a4 => pr C (G.f30 a0 a1 l2 l3 a4) fun r => (V.agg [V.u r.1, V.u r.2.1, V.i r.2.2.1, V.i r.2.2.2], []) | false => fun _ _ => none)
| false => (match Nat.beq n 31 with | true => pi fun a0 => pa 2 <| pu fun a1_0 => pu fun a1_1 => pr C (G.f31 a0 a1_0 a1_1) fun r => (V.b r, []) | false => fun _ _ => none)))))
| false => (match Nat.ble n 39 with
| true => (match Nat.ble n 35 with
| true => (match Nat.ble n 32 with
| true => (match Nat.beq n 32 with | true => pi fun a0 => pa 4 <| pu fun a1_0 => pu fun a1_1 => pi fun a1_2 => pi fun a1_3 => pr C (G.f32 a0 a1_0 a1_1 a1_2 a1_3) fun r => (V.b r, []) | false => fun _ _ => none)
| false => (match Nat.beq n 35 with | true => pi fun a0 => pa 2 <| pu fun a1_0 => pu fun a1_1 => pr C (G.f35 a0 a1_0 a1_1) fun r => (V.b r, []) | false => fun _ _ => none))
| false => (match Nat.ble n 36 with
| true => (match Nat.beq n 36 with | true => pi fun a0 => pa 4 <| pu fun a1_0 => pu fun a1_1 => pi fun a1_2 => pi fun a1_3 => pr C (G.f36 a0 a1_0 a1_1 a1_2 a1_3) fun r => (V.b r, []) | false => fun _ _ => none)
| false => (match Nat.beq n 39 with | true => pi fun a0 => pu fun a1 => pu fun a2 => pr C (G.f39 a0 a1 a2) fun r => (V.tup [V.u r.1, V.u r.2], []) | false => fun _ _ => none)))
| false => (match Nat.ble n 41 with
| true => (match Nat.ble n 40 with
| true => (match Nat.beq n 40 with | true => pi fun a0 => pu fun a1 => pu fun a2 => pi fun a3 => pr C (G.f40 a0 a1 a2 a3) fun r => (V.u r, []) | false => fun _ _ => none)
| false => (match Nat.beq n 41 with | true => pu fun a0 => pi fun a1 => pr C (G.f41 a0 a1) fun r => (V.i r, []) | false => fun _ _ => none))
| false => (match Nat.ble n 42 with
| true => (match Nat.beq n 42 with | true => pb fun a0 => pr C (G.f42 a0) fun r => (V.u r, []) | false => fun _ _ => none)
| false => (match Nat.ble n 43 with
| true => (match Nat.beq n 43 with | true => pi fun a0 => pu fun a1 => pr C (G.f43 a0 a1) fun r => (V.i r, []) | false => fun _ _ => none)
| false => (match Nat.beq n 44 with | true => pi fun a0 => pu fun a1 => pr C (G.f44 a0 a1) fun r => (V.agg [V.u r.1, V.u r.2], []) | false => fun _ _ => none)))))))
| false => (match Nat.ble n 62 with
| true => (match Nat.ble n 53 with
| true => (match Nat.ble n 48 with
| true => (match Nat.ble n 46 with
| true => (match Nat.ble n 45 with
| true => (match Nat.beq n 45 with | true => pi fun a0 => pu fun a1 => pr C (G.f45 a0 a1) fun r => (V.agg [V.u r.1, V.u r.2.1, V.i r.2.2.1, V.i r.2.2.2], []) | false => fun _ _ => none)
| false => (match Nat.beq n 46 with | true => pi fun a0 => pr C (G.f46 a0) fun r => (V.agg [V.u r.1, V.u r.2.1, V.i r.2.2.1, V.i r.2.2.2], []) | false => fun _ _ => none))
| false => (match Nat.ble n 47 with
| true => (match Nat.beq n 47 with | true => pi fun a0 => pr C (G.f47 a0) fun r => (V.u r, []) | false => fun _ _ => none)
| false => (match Nat.beq n 48 with | true => pi fun a0 => pu fun a1 => pr C (G.f48 a0 a1) fun r => (V.i r, []) | false => fun _ _ => none)))
| false => (match Nat.ble n 50 with
| true => (match Nat.ble n 49 with
| true => (match Nat.beq n 49 with | true => pi fun a0 => pa 4 <| pu fun a1_0 => pu fun a1_1 => pi fun a1_2 => pi fun a1_3 => pr C (G.f49 a0 a1_0 a1_1 a1_2 a1_3) fun r => (V.tup [V.agg [V.u r.1, V.u r.2.1, V.i r.2.2.1, V.i r.2.2.2.1], V.b r.2.2.2.2], []) | false => fun _ _ => none)
| false => (match Nat.beq n 50 with | true => pu fun a0 => pr C (G.f50 a0) fun r => (V.i r, []) | false => fun _ _ => none))
| false => (match Nat.ble n 51 with
| true => (match Nat.beq n 51 with | true => pi fun a0 => pi fun a1 => pl U (cI .i64) fun l2 => pr C (G.f51 a0 a1 l2) fun r => (V.b r, []) | false => fun _ _ => none)
| false => (match Nat.ble n 52 with
| true => (match Nat.beq n 52 with | true => pi fun a0 => pa 2 <| pu fun a1_0 => pu fun a1_1 => pr C (G.f52 a0 a1_0 a1_1) fun r => (V.tup [V.u r.1, V.b r.2], []) | false => fun _ _ => none)
| false => (match Nat.beq n 53 with | true => pi fun a0 => pi fun a1 => pl U (cI .i64) fun l2 => pl U (cI .u64) fun l3 => pu fun a4 => pr C (G.f53 a0 a1 l2 l3 a4) fun r => (V.u r, []) | false => fun _ _ => none)))))
| false => (match Nat.ble n 57 with
| true => (match Nat.ble n 55 with
| true => (match Nat.ble n 54 with
| true => (match Nat.beq n 54 with | true => pi fun a0 => pa 2 <| pu fun a1_0 => pu fun a1_1 => pa 2 <| pu fun a2_0 => pu fun a2_1 => pi fun a3 => pr C (G.f54 a0 a1_0 a1_1 a2_0 a2_1 a3) fun r => (V.agg [V.u r.1, V.u r.2], []) | false => fun _ _ => none)
| false => (match Nat.beq n 55 with | true => pi fun a0 => pa 2 <| pu fun a1_0 => pu fun a1_1 => pa 2 <| pu fun a2_0 => pu fun a2_1 => pr C (G.f55 a0 a1_0 a1_1 a2_0 a2_1) fun r => (V.agg [V.u r.1, V.u r.2], []) | false => fun _ _ => none))
| false => (match Nat.ble n 56 with
| true => (match Nat.beq n 56 with | true => pi fun a0 => pi fun a1 => pr C (G.f56 a0 a1) fun r => (V.u r, []) | false => fun _ _ => none)
| false => (match Nat.beq n 57 with | true => pi fun a0 => pu fun a1 => pr C (G.f57 a0 a1) fun r => (V.i r, []) | false => fun _ _ => none)))
| false => (match Nat.ble n 59 with
| true => (match Nat.ble n 58 with
| true => (match Nat.beq n 58 with | true => pi fun a0 => pa 2 <| pu fun a1_0 => pu fun a1_1 => pa 2 <| pu fun a2_0 => pu fun a2_1 => pr C (G.f58 a0 a1_0 a1_1 a2_0 a2_1) fun r => (V.agg [V.u r.1, V.u r.2], []) | false => fun _ _ => none)
| false => (match Nat.beq n 59 with | true => pi fun a0 => pi fun a1 => pa 2 <| pu fun a2_0 => pu fun a2_1 => pu fun a3 => pr C (G.f59 a0 a1 a2_0 a2_1 a3) fun r => (V.agg [V.u r.1, V.u r.2], []) | false => fun _ _ => none))
| false => (match Nat.ble n 60 with
| true => (match Nat.beq n 60 with | true => pi fun a0 => pi fun a1 => pa 2 <| pu fun a2_0 => pu fun a2_1 => pr C (G.f60 a0 a1 a2_0 a2_1) fun r => (V.agg [V.u r.1, V.u r.2], []) | false => fun _ _ => none)
| false => (match Nat.ble n 61 with
| true => (match Nat.beq n 61 with | true => pb fun a0 => pr C (G.f61 a0) fun r => (V.u r, []) | false => fun _ _ => none)
| false => (match Nat.beq n 62 with | true => pi fun a0 => pa 2 <| pu fun a1_0 => pu fun a1_1 => pa 2 <| pu fun a2_0 => pu fun a2_1 => pb fun a3 => pr C (G.f62 a0 a1_0 a1_1 a2_0 a2_1 a3) fun r => (V.agg [V.u r.1, V.u r.2], []) | false => fun _ _ => none))))))
| false => (match Nat.ble n 71 with
| true => (match Nat.ble n 66 with
| true => (match Nat.ble n 64 with
| true => (match Nat.ble n 63 with
| true => (match Nat.beq n 63 with | true => pi fun a0 => pa 2 <| pu fun a1_0 => pu fun a1_1 => pr C (G.f63 a0 a1_0 a1_1) fun r => (V.agg [V.u r.1, V.u r.2], []) | false => fun _ _ => none)
| false => (match Nat.beq n 64 with | true => pa 2 <| pu fun a0_0 => pu fun a0_1 => pa 2 <| pu fun a1_0 => pu fun a1_1 => pr C (G.f64 a0_0 a0_1 a1_0 a1_1) fun r => (V.agg [V.u r.1, V.u r.2], []) | false => fun _ _ => none))
| false => (match Nat.ble n 65 with
| true => (match Nat.beq n 65 with | true => pi fun a0 => pr C (G.f65 a0) fun r => (V.u r, []) | false => fun _ _ => none)
| false => (match Nat.beq n 66 with | true => pi fun a0 => pi fun a1 => pl U (cI .i64) fun l2 => pr C (G.f66 a0 a1 l2) fun r => (V.b r, []) | false => fun _ _ => none)))
| false => (match Nat.ble n 68 with
| true => (match Nat.ble n 67 with
| true => (match Nat.beq n 67 with | true => pi fun a0 => pi fun a1 => pl U (cI .i64) fun l2 => pl U c48 fun l3 => pr C (G.f67 a0 a1 l2 l3) fun r => (V.u r, []) | false => fun _ _ => none)
| false => (match Nat.beq n 68 with | true => pi fun a0 => pr C (G.f68 a0) fun r => (V.tup [V.i r.1, V.i r.2], []) | false => fun _ _ => none))
| false => (match Nat.ble n 69 with
| true => (match Nat.beq n 69 with | true => pp <| pi fun a1 => pl U (cI .i64) fun l2 => pl U c48 fun l3 => ph <| pi fun s0_0 => pu fun s0_1 => pi fun s0_2 => pi fun s0_3 => pu fun s0_4 => pu fun s0_5 => pi fun s0_6 => pi fun s0_7 => pr C (G.f69 s0_0 s0_1 s0_2 s0_3 s0_4 s0_5 s0_6 s0_7 a1 l2 l3) fun r => (V.tup [], [[V.i r.1, V.u r.2.1, V.i r.2.2.1, V.i r.2.2.2.1, V.u r.2.2.2.2.1, V.u r.2.2.2.2.2.1, V.i r.2.2.2.2.2.2.1, V.i r.2.2.2.2.2.2.2]]) | false => fun _ _ => none)
| false => (match Nat.ble n 70 with
| true => (match Nat.beq n 70 with | true => pi fun a0 => pr C (G.f70 a0) fun r => (V.agg [V.u r.1, V.u r.2.1, V.i r.2.2.1, V.i r.2.2.2], []) | false => fun _ _ => none)
| false => (match Nat.beq n 71 with | true => pi fun a0 => pa 2 <| pu fun a1_0 => pu fun a1_1 => pr C (G.f71 a0 a1_0 a1_1) fun r => (V.tup [V.u r.1, V.u r.2], []) | false => fun _ _ => none)))))
| false => (match Nat.ble n 75 with
| true => (match Nat.ble n 73 with
| true => (match Nat.ble n 72 with
| true => (match Nat.beq n 72 with | true => pi fun a0 => pa 2 <| pu fun a1_0 => pu fun a1_1 => pr C (G.f72 a0 a1_0 a1_1) fun r => (V.tup [V.i r.1, V.i r.2], []) | false => fun _ _ => none)
| false => (match Nat.beq n 73 with | true => pi fun a0 => pa 4 <| pu fun a1_0 => pu fun a1_1 => pi fun a1_2 => pi fun a1_3 => pr C (G.f73 a0 a1_0 a1_1 a1_2 a1_3) fun r => (V.tup [V.agg [V.u r.1, V.u r.2.1, V.i r.2.2.1, V.i r.2.2.2.1], V.b r.2.2.2.2], []) | false => fun _ _ => none))
| false => (match Nat.ble n 74 with
| true => (match Nat.beq n 74 with | true => pi fun a0 => pa 2 <| pu fun a1_0 => pu fun a1_1 => pr C (G.f74 a0 a1_0 a1_1) fun r => (V.b r, []) | false => fun _ _ => none)
| false => (match Nat.beq n 75 with | true => pi fun a0 => pu fun a1 => pr C (G.f75 a0 a1) fun r => (V.agg [V.u r.1, V.u r.2], []) | false => fun _ _ => none)))
| false => (match Nat.ble n 77 with
| true => (match Nat.ble n 76 with
| true => (match Nat.beq n 76 with | true => pi fun a0 => pa 2 <| pu fun a1_0 => pu fun a1_1 => pa 2 <| pu fun a2_0 => pu fun a2_1 => pi fun a3 => pr C (G.f76 a0 a1_0 a1_1 a2_0 a2_1 a3) fun r => (V.agg [V.u r.1, V.u r.2], []) | false => fun _ _ => none)
| false => (match Nat.beq n 77 with | true => pi fun a0 => pa 2 <| pu fun a1_0 => pu fun a1_1 => pa 2 <| pu fun a2_0 => pu fun a2_1 => pr C (G.f77 a0 a1_0 a1_1 a2_0 a2_1) fun r => (V.agg [V.u r.1, V.u r.2], []) | false => fun _ _ => none))
| false => (match Nat.ble n 78 with
| true => (match Nat.beq n 78 with | true => pi fun a0 => pi fun a1 => pi fun a2 => pr C (G.f78 a0 a1 a2) fun r => (V.agg [V.u r.1, V.u r.2], []) | false => fun _ _ => none)
| false => (match Nat.ble n 79 with
| true => (match Nat.beq n 79 with | true => pi fun a0 => pa 2 <| pu fun a1_0 => pu fun a1_1 => pi fun a2 => pr C (G.f79 a0 a1_0 a1_1 a2) fun r => (V.i r, []) | false => fun _ _ => none)
| false => (match Nat.beq n 80 with | true => pi fun a0 => pa 2 <| pu fun a1_0 => pu fun a1_1 => pa 2 <| pu fun a2_0 => pu fun a2_1 => pr C (G.f80 a0 a1_0 a1_1 a2_0 a2_1) fun r => (V.agg [V.u r.1, V.u r.2], []) | false => fun _ _ => none))))))))
| false => (match Nat.ble n 116 with
| true => (match Nat.ble n 98 with
| true => (match Nat.ble n 89 with
| true => (match Nat.ble n 84 with
| true => (match Nat.ble n 82 with
| true => (match Nat.ble n 81 with
| true => (match Nat.beq n 81 with | true => pi fun a0 => pi fun a1 => pa 2 <| pu fun a2_0 => pu fun a2_1 => pa 2 <| pu fun a3_0 => pu fun a3_1 => pr C (G.f81 a0 a1 a2_0 a2_1 a3_0 a3_1) fun r => (V.agg [V.u r.1, V.u r.2], []) | false => fun _ _ => none)
| false => (match Nat.beq n 82 with | true => pa 2 <| pu fun a0_0 => pu fun a0_1 => pa 2 <| pu fun a1_0 => pu fun a1_1 => pr C (G.f82 a0_0 a0_1 a1_0 a1_1) fun r => (V.agg [V.u r.1, V.u r.2], []) | false => fun _ _ => none))
| false => (match Nat.ble n 83 with
| true => (match Nat.beq n 83 with | true => pa 2 <| pu fun a0_0 => pu fun a0_1 => pa 2 <| pu fun a1_0 => pu fun a1_1 => pr C (G.f83 a0_0 a0_1 a1_0 a1_1) fun r => (V.agg [V.u r.1, V.u r.2], []) | false => fun _ _ => none)
| false => (match Nat.beq n 84 with | true => pa 2 <| pu fun a0_0 => pu fun a0_1 => pi fun a1 => pi fun a2 => pr C (G.f84 a0_0 a0_1 a1 a2) fun r => (V.agg [V.u r.1, V.u r.2], []) | false => fun _ _ => none)))
| false => (match Nat.ble n 86 with
| true => (match Nat.ble n 85 with
| true => (match Nat.beq n 85 with | true => pa 2 <| pu fun a0_0 => pu fun a0_1 => pi fun a1 => pr C (G.f85 a0_0 a0_1 a1) fun r => (V.i r, []) | false => fun _ _ => none)
| false => (match Nat.beq n 86 with | true => pi fun a0 => pi fun a1 => pa 2 <| pu fun a2_0 => pu fun a2_1 => pa 2 <| pu fun a3_0 => pu fun a3_1 => pr C (G.f86 a0 a1 a2_0 a2_1 a3_0 a3_1) fun r => (V.agg [V.u r.1, V.u r.2], []) | false => fun _ _ => none))
| false => (match Nat.ble n 87 with
| true => (match Nat.beq n 87 with | true => pi fun a0 => pu fun a1 => pr C (G.f87 a0 a1) fun r => (V.agg [V.u r.1, V.u r.2.1, V.i r.2.2.1, V.i r.2.2.2], []) | false => fun _ _ => none)
| false => (match Nat.ble n 88 with
| true => (match Nat.beq n 88 with | true => pi fun a0 => pa 4 <| pu fun a1_0 => pu fun a1_1 => pi fun a1_2 => pi fun a1_3 => pa 4 <| pu fun a2_0 => pu fun a2_1 => pi fun a2_2 => pi fun a2_3 => pr C (G.f88 a0 a1_0 a1_1 a1_2 a1_3 a2_0 a2_1 a2_2 a2_3) fun r => (V.agg [V.u r.1, V.u r.2.1, V.i r.2.2.1, V.i r.2.2.2], []) | false => fun _ _ => none)
| false => (match Nat.beq n 89 with | true => pa 4 <| pu fun a0_0 => pu fun a0_1 => pi fun a0_2 => pi fun a0_3 => pa 4 <| pu fun a1_0 => pu fun a1_1 => pi fun a1_2 => pi fun a1_3 => pr C (G.f89 a0_0 a0_1 a0_2 a0_3 a1_0 a1_1 a1_2 a1_3) fun r => (V.agg [V.u r.1, V.u r.2.1, V.i r.2.2.1, V.i r.2.2.2], []) | false => fun _ _ => none)))))
| false => (match Nat.ble n 93 with
| true => (match Nat.ble n 91 with
| true => (match Nat.ble n 90 with
| true => (match Nat.beq n 90 with | true => pi fun a0 => pi fun a1 => pi fun a2 => pa 4 <| pu fun a3_0 => pu fun a3_1 => pi fun a3_2 => pi fun a3_3 => pr C (G.f90 a0 a1 a2 a3_0 a3_1 a3_2 a3_3) fun r => (V.agg [V.u r.1, V.u r.2.1, V.i r.2.2.1, V.i r.2.2.2], []) | false => fun _ _ => none)
| false => (match Nat.beq n 91 with | true => pi fun a0 => pi fun a1 => pa 4 <| pu fun a2_0 => pu fun a2_1 => pi fun a2_2 => pi fun a2_3 => pa 4 <| pu fun a3_0 => pu fun a3_1 => pi fun a3_2 => pi fun a3_3 => pr C (G.f91 a0 a1 a2_0 a2_1 a2_2 a2_3 a3_0 a3_1 a3_2 a3_3) fun r => (V.tup [V.u r.1, V.u r.2], []) | false => fun _ _ => none))
| false => (match Nat.ble n 92 with
| true => (match Nat.beq n 92 with | true => pi fun a0 => pi fun a1 => pa 4 <| pu fun a2_0 => pu fun a2_1 => pi fun a2_2 => pi fun a2_3 => pa 4 <| pu fun a3_0 => pu fun a3_1 => pi fun a3_2 => pi fun a3_3 => pr C (G.f92 a0 a1 a2_0 a2_1 a2_2 a2_3 a3_0 a3_1 a3_2 a3_3) fun r => (V.tup [V.i r.1, V.i r.2], []) | false => fun _ _ => none)
| false => (match Nat.beq n 93 with | true => pi fun a0 => pr C (G.f93 a0) fun r => (V.u r, []) | false => fun _ _ => none)))
| false => (match Nat.ble n 95 with
| true => (match Nat.ble n 94 with
| true => (match Nat.beq n 94 with | true => pi fun a0 => pr C (G.f94 a0) fun r => (V.i r, []) | false => fun _ _ => none)
| false => (match Nat.beq n 95 with | true => pi fun a0 => pr C (G.f95 a0) fun r => (V.i r, []) | false => fun _ _ => none))
| false => (match Nat.ble n 96 with
| true => (match Nat.beq n 96 with | true => pi fun a0 => pr C (G.f96 a0) fun r => (V.b r, []) | false => fun _ _ => none)
| false => (match Nat.ble n 97 with
| true => (match Nat.beq n 97 with | true => pi fun a0 => pr C (G.f97 a0) fun r => (V.b r, []) | false => fun _ _ => none)
| false => (match Nat.beq n 98 with | true => pi fun a0 => pu fun a1 => pr C (G.f98 a0 a1) fun r => (V.u r, []) | false => fun _ _ => none))))))
| false => (match Nat.ble n 107 with
| true => (match Nat.ble n 102 with
| true => (match Nat.ble n 100 with
| true => (match Nat.ble n 99 with
| true => (match Nat.beq n 99 with | true => pi fun a0 => pr C (G.f99 a0) fun r => (V.i r, []) | false => fun _ _ => none)
| false => (match Nat.beq n 100 with | true => pi fun a0 => pu fun a1 => pr C (G.f100 a0 a1) fun r => (V.b r, []) | false => fun _ _ => none))
| false => (match Nat.ble n 101 with
| true => (match Nat.beq n 101 with | true => pi fun a0 => pi fun a1 => pr C (G.f101 a0 a1) fun r => (V.u r, []) | false => fun _ _ => none)
| false => (match Nat.beq n 102 with | true => pi fun a0 => pi fun a1 => pu fun a2 => pu fun a3 => pr C (G.f102 a0 a1 a2 a3) fun r => (V.u r, []) | false => fun _ _ => none)))
| false => (match Nat.ble n 104 with
| true => (match Nat.ble n 103 with
| true => (match Nat.beq n 103 with | true => pi fun a0 => pi fun a1 => pu fun a2 => pu fun a3 => pr C (G.f103 a0 a1 a2 a3) fun r => (V.u r, []) | false => fun _ _ => none)
| false => (match Nat.beq n 104 with | true => pi fun a0 => pu fun a1 => pr C (G.f104 a0 a1) fun r => (V.i r, []) | false => fun _ _ => none))
| false => (match Nat.ble n 105 with
| true => (match Nat.beq n 105 with | true => pi fun a0 => pi fun a1 => pu fun a2 => pu fun a3 => pr C (G.f105 a0 a1 a2 a3) fun r => (V.u r, []) | false => fun _ _ => none)
| false => (match Nat.ble n 106 with
| true => (match Nat.beq n 106 with | true => pu fun a0 => pr C (G.f106 a0) fun r => (V.i r, []) | false => fun _ _ => none)
| false => (match Nat.beq n 107 with | true => pa 2 <| pu fun a0_0 => pu fun a0_1 => pr C (G.f107 a0_0 a0_1) fun r => (V.i r, []) | false => fun _ _ => none)))))
| false => (match Nat.ble n 111 with
| true => (match Nat.ble n 109 with
| true => (match Nat.ble n 108 with
| true => (match Nat.beq n 108 with | true => pu fun a0 => pr C (G.f108 a0) fun r => (V.i r, []) | false => fun _ _ => none)
| false => (match Nat.beq n 109 with | true => pu fun a0 => pr C (G.f109 a0) fun r => (V.i r, []) | false => fun _ _ => none))
| false => (match Nat.ble n 110 with
| true => (match Nat.beq n 110 with | true => pi fun a0 => pa 2 <| pu fun a1_0 => pu fun a1_1 => pr C (G.f110 a0 a1_0 a1_1) fun r => (V.u r, []) | false => fun _ _ => none)
| false => (match Nat.beq n 111 with | true => pa 2 <| pu fun a0_0 => pu fun a0_1 => pr C (G.f111 a0_0 a0_1) fun r => (V.u r, []) | false => fun _ _ => none)))
| false => (match Nat.ble n 113 with
| true => (match Nat.ble n 112 with
| true => (match Nat.beq n 112 with | true => pi fun a0 => pr C (G.f112 a0) fun r => (V.b r, []) | false => fun _ _ => none)
| false => (match Nat.beq n 113 with | true => pi fun a0 => pr C (G.f113 a0) fun r => (V.b r, []) | false => fun _ _ => none))
| false => (match Nat.ble n 114 with
| true => (match Nat.beq n 114 with | true => pi fun a0 => pi fun a1 => pu fun a2 => pb fun a3 => pr C (G.f114 a0 a1 a2 a3) fun r => (V.u r, []) | false => fun _ _ => none)
| false => (match Nat.ble n 115 with
| true => (match Nat.beq n 115 with | true => pi fun a0 => pi fun a1 => pu fun a2 => pu fun a3 => pr C (G.f115 a0 a1 a2 a3) fun r => (V.tup [V.u r.1, V.i r.2], []) | false => fun _ _ => none)
| false => (match Nat.beq n 116 with | true => pp <| pa 4 <| pu fun a1_0 => pu fun a1_1 => pi fun a1_2 => pi fun a1_3 => pa 4 <| pu fun a2_0 => pu fun a2_1 => pi fun a2_2 => pi fun a2_3 => ph <| pi fun s0_0 => pu fun s0_1 => pi fun s0_2 => pi fun s0_3 => pu fun s0_4 => pu fun s0_5 => pi fun s0_6 => pi fun s0_7 => pr C (G.f116 s0_0 s0_1 s0_2 s0_3 s0_4 s0_5 s0_6 s0_7 a1_0 a1_1 a1_2 a1_3 a2_0 a2_1 a2_2 a2_3) fun r => (V.tup [], [[V.i r.1, V.u r.2.1, V.i r.2.2.1, V.i r.2.2.2.1, V.u r.2.2.2.2.1, V.u r.2.2.2.2.2.1, V.i r.2.2.2.2.2.2.1, V.i r.2.2.2.2.2.2.2]]) | false => fun _ _ => none)))))))
| false => (match Nat.ble n 134 with
| true => (match Nat.ble n 125 with
| true => (match Nat.ble n 120 with
| true => (match Nat.ble n 118 with
| true => (match Nat.ble n 117 with
| true => (match Nat.beq n 117 with | true => pp <| pa 4 <| pu fun a1_0 => pu fun a1_1 => pi fun a1_2 => pi fun a1_3 => pa 4 <| pu fun a2_0 => pu fun a2_1 => pi fun a2_2 => pi fun a2_3 => ph <| pi fun s0_0 => pu fun s0_1 => pi fun s0_2 => pi fun s0_3 => pu fun s0_4 => pu fun s0_5 => pi fun s0_6 => pi fun s0_7 => pr C (G.f117 s0_0 s0_1 s0_2 s0_3 s0_4 s0_5 s0_6 s0_7 a1_0 a1_1 a1_2 a1_3 a2_0 a2_1 a2_2 a2_3) fun r => (V.tup [], [[V.i r.1, V.u r.2.1, V.i r.2.2.1, V.i r.2.2.2.1, V.u r.2.2.2.2.1, V.u r.2.2.2.2.2.1, V.i r.2.2.2.2.2.2.1, V.i r.2.2.2.2.2.2.2]]) | false => fun _ _ => none)
| false => (match Nat.beq n 118 with | true => pp <| pa 4 <| pu fun a1_0 => pu fun a1_1 => pi fun a1_2 => pi fun a1_3 => pa 4 <| pu fun a2_0 => pu fun a2_1 => pi fun a2_2 => pi fun a2_3 => ph <| pi fun s0_0 => pu fun s0_1 => pi fun s0_2 => pi fun s0_3 => pu fun s0_4 => pu fun s0_5 => pi fun s0_6 => pi fun s0_7 => pr C (G.f118 s0_0 s0_1 s0_2 s0_3 s0_4 s0_5 s0_6 s0_7 a1_0 a1_1 a1_2 a1_3 a2_0 a2_1 a2_2 a2_3) fun r => (V.tup [], [[V.i r.1, V.u r.2.1, V.i r.2.2.1, V.i r.2.2.2.1, V.u r.2.2.2.2.1, V.u r.2.2.2.2.2.1, V.i r.2.2.2.2.2.2.1, V.i r.2.2.2.2.2.2.2]]) | false => fun _ _ => none))
| false => (match Nat.ble n 119 with
| true => (match Nat.beq n 119 with | true => pp <| pi fun a1 => pa 4 <| pu fun a2_0 => pu fun a2_1 => pi fun a2_2 => pi fun a2_3 => pa 4 <| pu fun a3_0 => pu fun a3_1 => pi fun a3_2 => pi fun a3_3 => ph <| pi fun s0_0 => pu fun s0_1 => pi fun s0_2 => pi fun s0_3 => pu fun s0_4 => pu fun s0_5 => pi fun s0_6 => pi fun s0_7 => pr C (G.f119 s0_0 s0_1 s0_2 s0_3 s0_4 s0_5 s0_6 s0_7 a1 a2_0 a2_1 a2_2 a2_3 a3_0 a3_1 a3_2 a3_3) fun r => (V.tup [], [[V.i r.1, V.u r.2.1, V.i r.2.2.1, V.i r.2.2.2.1, V.u r.2.2.2.2.1, V.u r.2.2.2.2.2.1, V.i r.2.2.2.2.2.2.1, V.i r.2.2.2.2.2.2.2]]) | false => fun _ _ => none)
| false => (match Nat.beq n 120 with | true => pp <| pu fun a1 => pu fun a2 => ph <| pi fun s0_0 => pu fun s0_1 => pi fun s0_2 => pi fun s0_3 => pu fun s0_4 => pu fun s0_5 => pi fun s0_6 => pi fun s0_7 => pr C (G.f120 s0_0 s0_1 s0_2 s0_3 s0_4 s0_5 s0_6 s0_7 a1 a2) fun r => (V.tup [], [[V.i r.1, V.u r.2.1, V.i r.2.2.1, V.i r.2.2.2.1, V.u r.2.2.2.2.1, V.u r.2.2.2.2.2.1, V.i r.2.2.2.2.2.2.1, V.i r.2.2.2.2.2.2.2]]) | false => fun _ _ => none)))
| false => (match Nat.ble n 122 with
| true => (match Nat.ble n 121 with
| true => (match Nat.beq n 121 with | true => pp <| pi fun a1 => pa 4 <| pu fun a2_0 => pu fun a2_1 => pi fun a2_2 => pi fun a2_3 => pa 4 <| pu fun a3_0 => pu fun a3_1 => pi fun a3_2 => pi fun a3_3 => ph <| pi fun s0_0 => pu fun s0_1 => pi fun s0_2 => pi fun s0_3 => pu fun s0_4 => pu fun s0_5 => pi fun s0_6 => pi fun s0_7 => pr C (G.f121 s0_0 s0_1 s0_2 s0_3 s0_4 s0_5 s0_6 s0_7 a1 a2_0 a2_1 a2_2 a2_3 a3_0 a3_1 a3_2 a3_3) fun r => (V.tup [], [[V.i r.1, V.u r.2.1, V.i r.2.2.1, V.i r.2.2.2.1, V.u r.2.2.2.2.1, V.u r.2.2.2.2.2.1, V.i r.2.2.2.2.2.2.1, V.i r.2.2.2.2.2.2.2]]) | false => fun _ _ => none)
| false => (match Nat.beq n 122 with | true => pa 4 <| pu fun a0_0 => pu fun a0_1 => pi fun a0_2 => pi fun a0_3 => pa 4 <| pu fun a1_0 => pu fun a1_1 => pi fun a1_2 => pi fun a1_3 => pr C (G.f122 a0_0 a0_1 a0_2 a0_3 a1_0 a1_1 a1_2 a1_3) fun r => (V.agg [V.u r.1, V.u r.2.1, V.i r.2.2.1, V.i r.2.2.2], []) | false => fun _ _ => none))
| false => (match Nat.ble n 123 with
| true => (match Nat.beq n 123 with | true => pp <| pi fun a1 => pi fun a2 => pa 4 <| pu fun a3_0 => pu fun a3_1 => pi fun a3_2 => pi fun a3_3 => ph <| pi fun s0_0 => pu fun s0_1 => pi fun s0_2 => pi fun s0_3 => pu fun s0_4 => pu fun s0_5 => pi fun s0_6 => pi fun s0_7 => pr C (G.f123 s0_0 s0_1 s0_2 s0_3 s0_4 s0_5 s0_6 s0_7 a1 a2 a3_0 a3_1 a3_2 a3_3) fun r => (V.tup [], [[V.i r.1, V.u r.2.1, V.i r.2.2.1, V.i r.2.2.2.1, V.u r.2.2.2.2.1, V.u r.2.2.2.2.2.1, V.i r.2.2.2.2.2.2.1, V.i r.2.2.2.2.2.2.2]]) | false => fun _ _ => none)
| false => (match Nat.ble n 124 with
| true => (match Nat.beq n 124 with | true => pp <| pi fun a1 => pa 4 <| pu fun a2_0 => pu fun a2_1 => pi fun a2_2 => pi fun a2_3 => pa 4 <| pu fun a3_0 => pu fun a3_1 => pi fun a3_2 => pi fun a3_3 => ph <| pi fun s0_0 => pu fun s0_1 => pi fun s0_2 => pi fun s0_3 => pu fun s0_4 => pu fun s0_5 => pi fun s0_6 => pi fun s0_7 => pr C (G.f124 s0_0 s0_1 s0_2 s0_3 s0_4 s0_5 s0_6 s0_7 a1 a2_0 a2_1 a2_2 a2_3 a3_0 a3_1 a3_2 a3_3) fun r => (V.tup [], [[V.i r.1, V.u r.2.1, V.i r.2.2.1, V.i r.2.2.2.1, V.u r.2.2.2.2.1, V.u r.2.2.2.2.2.1, V.i r.2.2.2.2.2.2.1, V.i r.2.2.2.2.2.2.2]]) | false => fun _ _ => none)
| false => (match Nat.beq n 125 with | true => pi fun a0 => pu fun a1 => pu fun a2 => pr C (G.f125 a0 a1 a2) fun r => (V.tup [V.agg [V.u r.1, V.u r.2.1, V.i r.2.2.1, V.i r.2.2.2.1], V.b r.2.2.2.2], []) | false => fun _ _ => none)))))
| false => (match Nat.ble n 129 with
| true => (match Nat.ble n 127 with
| true => (match Nat.ble n 126 with
| true => (match Nat.beq n 126 with | true => pi fun a0 => pa 2 <| pu fun a1_0 => pu fun a1_1 => pr C (G.f126 a0 a1_0 a1_1) fun r => (V.i r, []) | false => fun _ _ => none)
| false => (match Nat.beq n 127 with | true => pi fun a0 => pa 2 <| pu fun a1_0 => pu fun a1_1 => pr C (G.f127 a0 a1_0 a1_1) fun r => (V.i r, []) | false => fun _ _ => none))
| false => (match Nat.ble n 128 with
| true => (match Nat.beq n 128 with | true => pi fun a0 => pa 2 <| pu fun a1_0 => pu fun a1_1 => pi fun a2 => pi fun a3 => pr C (G.f128 a0 a1_0 a1_1 a2 a3) fun r => (V.agg [V.u r.1, V.u r.2], []) | false => fun _ _ => none)
| false => (match Nat.beq n 129 with | true => pb fun a0 => pb fun a1 => pr C (G.f129 a0 a1) fun r => (V.agg [V.u r.1, V.u r.2], []) | false => fun _ _ => none)))
| false => (match Nat.ble n 131 with
| true => (match Nat.ble n 130 with
| true => (match Nat.beq n 130 with | true => pb fun a0 => pb fun a1 => pr C (G.f130 a0 a1) fun r => (V.agg [V.u r.1, V.u r.2.1, V.i r.2.2.1, V.i r.2.2.2], []) | false => fun _ _ => none)
| false => (match Nat.beq n 131 with | true => pu fun a0 => pu fun a1 => pu fun a2 => pr C (G.f131 a0 a1 a2) fun r => (V.tup [V.u r.1, V.b r.2], []) | false => fun _ _ => none))
| false => (match Nat.ble n 132 with
| true => (match Nat.beq n 132 with | true => pu fun a0 => pr C (G.f132 a0) fun r => (V.u r, []) | false => fun _ _ => none)
| false => (match Nat.ble n 133 with
| true => (match Nat.beq n 133 with | true => pi fun a0 => pi fun a1 => pi fun a2 => pr C (G.f133 a0 a1 a2) fun r => (V.tup [V.i r.1, V.b r.2], []) | false => fun _ _ => none)
| false => (match Nat.beq n 134 with | true => pi fun a0 => pi fun a1 => pi fun a2 => pr C (G.f134 a0 a1 a2) fun r => (V.tup [V.i r.1, V.b r.2], []) | false => fun _ _ => none))))))
| false => (match Nat.ble n 143 with
| true => (match Nat.ble n 138 with
| true => (match Nat.ble n 136 with
| true => (match Nat.ble n 135 with
| true => (match Nat.beq n 135 with | true => pi fun a0 => pi fun a1 => pi fun a2 => pr C (G.f135 a0 a1 a2) fun r => (V.tup [V.i r.1, V.b r.2], []) | false => fun _ _ => none)
| false => (match Nat.beq n 136 with | true => pi fun a0 => pi fun a1 => pi fun a2 => pi fun a3 => pr C (G.f136 a0 a1 a2 a3) fun r => (V.tup [V.i r.1, V.i r.2], []) | false => fun _ _ => none))
| false => (match Nat.ble n 137 with
| true => (match Nat.beq n 137 with | true => pi fun a0 => pa 4 <| pu fun a1_0 => pu fun a1_1 => pi fun a1_2 => pi fun a1_3 => pr C (G.f137 a0 a1_0 a1_1 a1_2 a1_3) fun r => (V.b r, []) | false => fun _ _ => none)
| false => (match Nat.beq n 138 with | true => pi fun a0 => pi fun a1 => pu fun a2 => pu fun a3 => pr C (G.f138 a0 a1 a2 a3) fun r => (V.u r, []) | false => fun _ _ => none)))
| false => (match Nat.ble n 140 with
| true => (match Nat.ble n 139 with
| true => (match Nat.beq n 139 with | true => pi fun a0 => pi fun a1 => pu fun a2 => pu fun a3 => pr C (G.f139 a0 a1 a2 a3) fun r => (V.u r, []) | false => fun _ _ => none)
| false => (match Nat.beq n 140 with | true => pi fun a0 => pi fun a1 => pu fun a2 => pu fun a3 => pr C (G.f140 a0 a1 a2 a3) fun r => (V.u r, []) | false => fun _ _ => none))
| false => (match Nat.ble n 141 with
| true => (match Nat.beq n 141 with | true => pu fun a0 => pu fun a1 => pu fun a2 => pr C (G.f141 a0 a1 a2) fun r => (V.tup [V.u r.1, V.u r.2], []) | false => fun _ _ => none)
| false => (match Nat.ble n 142 with
| true => (match Nat.beq n 142 with | true => pp <| pi fun a1 => pi fun a2 => ph <| pi fun s0_0 => pu fun s0_1 => pi fun s0_2 => pi fun s0_3 => pu fun s0_4 => pu fun s0_5 => pi fun s0_6 => pi fun s0_7 => pr C (G.f142 s0_0 s0_1 s0_2 s0_3 s0_4 s0_5 s0_6 s0_7 a1 a2) fun r => (V.tup [V.i r.1, V.b r.2], [[V.i s0_0, V.u s0_1, V.i s0_2, V.i s0_3, V.u s0_4, V.u s0_5, V.i s0_6, V.i s0_7]]) | false => fun _ _ => none)
| false => (match Nat.beq n 143 with | true => pp <| pi fun a1 => pi fun a2 => ph <| pi fun s0_0 => pu fun s0_1 => pi fun s0_2 => pi fun s0_3 => pu fun s0_4 => pu fun s0_5 => pi fun s0_6 => pi fun s0_7 => pr C (G.f143 s0_0 s0_1 s0_2 s0_3 s0_4 s0_5 s0_6 s0_7 a1 a2) fun r => (V.tup [], [[V.i r.1, V.u r.2.1, V.i r.2.2.1, V.i r.2.2.2.1, V.u r.2.2.2.2.1, V.u r.2.2.2.2.2.1, V.i r.2.2.2.2.2.2.1, V.i r.2.2.2.2.2.2.2]]) | false => fun _ _ => none)))))
| false => (match Nat.ble n 147 with
| true => (match Nat.ble n 145 with
| true => (match Nat.ble n 144 with
| true => (match Nat.beq n 144 with | true => pp <| pi fun a1 => pi fun a2 => ph <| pi fun s0_0 => pu fun s0_1 => pi fun s0_2 => pi fun s0_3 => pu fun s0_4 => pu fun s0_5 => pi fun s0_6 => pi fun s0_7 => pr C (G.f144 s0_0 s0_1 s0_2 s0_3 s0_4 s0_5 s0_6 s0_7 a1 a2) fun r => (V.tup [V.i r.1, V.b r.2], [[V.i s0_0, V.u s0_1, V.i s0_2, V.i s0_3, V.u s0_4, V.u s0_5, V.i s0_6, V.i s0_7]]) | false => fun _ _ => none)
| false => (match Nat.beq n 145 with | true => pu fun a0 => pu fun a1 => pr C (G.f145 a0 a1) fun r => (V.tup [V.u r.1, V.u r.2], []) | false => fun _ _ => none))
| false => (match Nat.ble n 146 with
| true => (match Nat.beq n 146 with | true => pp <| pi fun a1 => pi fun a2 => ph <| pi fun s0_0 => pu fun s0_1 => pi fun s0_2 => pi fun s0_3 => pu fun s0_4 => pu fun s0_5 => pi fun s0_6 => pi fun s0_7 => pr C (G.f146 s0_0 s0_1 s0_2 s0_3 s0_4 s0_5 s0_6 s0_7 a1 a2) fun r => (V.tup [V.i r.1, V.b r.2], [[V.i s0_0, V.u s0_1, V.i s0_2, V.i s0_3, V.u s0_4, V.u s0_5, V.i s0_6, V.i s0_7]]) | false => fun _ _ => none)
| false => (match Nat.beq n 147 with | true => pp <| pi fun a1 => pl U (cI .i64) fun l2 => ph <| pi fun s0_0 => pu fun s0_1 => pi fun s0_2 => pi fun s0_3 => pu fun s0_4 => pu fun s0_5 => pi fun s0_6 => pi fun s0_7 => pr C (G.f147 s0_0 s0_1 s0_2 s0_3 s0_4 s0_5 s0_6 s0_7 a1 l2) fun r => (V.tup [], [[V.i r.1, V.u r.2.1, V.i r.2.2.1, V.i r.2.2.2.1, V.u r.2.2.2.2.1, V.u r.2.2.2.2.2.1, V.i r.2.2.2.2.2.2.1, V.i r.2.2.2.2.2.2.2]]) | false => fun _ _ => none)))
| false => (match Nat.ble n 149 with
| true => (match Nat.ble n 148 with
| true => (match Nat.beq n 148 with | true => pp <| pi fun a1 => ph <| pi fun s0_0 => pu fun s0_1 => pi fun s0_2 => pi fun s0_3 => pu fun s0_4 => pu fun s0_5 => pi fun s0_6 => pi fun s0_7 => pr C (G.f148 s0_0 s0_1 s0_2 s0_3 s0_4 s0_5 s0_6 s0_7 a1) fun r => (V.b r, [[V.i s0_0, V.u s0_1, V.i s0_2, V.i s0_3, V.u s0_4, V.u s0_5, V.i s0_6, V.i s0_7]]) | false => fun _ _ => none)
| false => (match Nat.beq n 149 with | true => pp <| pb fun a1 => pb fun a2 => ph <| pi fun s0_0 => pu fun s0_1 => pi fun s0_2 => pi fun s0_3 => pu fun s0_4 => pu fun s0_5 => pi fun s0_6 => pi fun s0_7 => pr C (G.f149 s0_0 s0_1 s0_2 s0_3 s0_4 s0_5 s0_6 s0_7 a1 a2) fun r => (V.tup [], [[V.i r.1, V.u r.2.1, V.i r.2.2.1, V.i r.2.2.2.1, V.u r.2.2.2.2.1, V.u r.2.2.2.2.2.1, V.i r.2.2.2.2.2.2.1, V.i r.2.2.2.2.2.2.2]]) | false => fun _ _ => none))
| false => (match Nat.ble n 150 with
| true => (match Nat.beq n 150 with | true => pi fun a0 => pr C (G.f150 a0) fun r => (V.u r, []) | false => fun _ _ => none)
| false => (match Nat.ble n 151 with
| true => (match Nat.beq n 151 with | true => pi fun a0 => pu fun a1 => pu fun a2 => pr C (G.f151 a0 a1 a2) fun r => (V.tup [V.u r.1, V.u r.2], []) | false => fun _ _ => none)
| false => (match Nat.beq n 152 with | true => pb fun a0 => pr C (G.f152 a0) fun r => (V.u r, []) | false => fun _ _ => none))))))))
def Ev (n : Nat) (H : Hints) (fn : Go.Func) : Prop := ∀ (G : Funs) (C : CT) (U : UT) (K : Oracle) (op : BinOp → IntKind → Int → Int → Int) (ok : BinOp → Int → Bool) (cmp : BinOp → Int → Int → Bool) (neg not wrap : IntKind → Int → Int) (mn' mx' : Int → Int → Int) (idx : Int → Option Nat) (len : List (List V) → Int) (get : List (List V) → Int → Option (List V)) (cut : Nat → List (List V) → Option V → Option V → Option (List (List V))) (app : Nat → Nat → List (List V) → List (List V) → Option (List (List V))) (byte : ByteArray → Int → Option Int) (lp : (St → Option (Ex × St)) → Nat → List Nat → Nat → St → Option (Ex × St)) (k q : Nat),
  G = realF → C = realC → U = realU → K = orc G C U → (⟨op, ok, cmp, neg, not, wrap, mn', mx', idx, len, get, cut, app, byte⟩ : Ar) = real → lp = rounds → Q = q + 8 → Q ≤ k →
  On (orc G C U n) fun args h R => evFn ⟨tys, ⟨op, ok, cmp, neg, not, wrap, mn', mx', idx, len, get, cut, app, byte⟩, lp⟩ k K H fn args h = R
theorem run {P E J : Prop} (e : E) (j : J) (h : Box E → Box J → P := by
  intro e j G C U K op ok cmp neg not wrap mn' mx' idx len get cut app byte lp k q hG hC hU hK hA hlp hQ hk
  have hcall : ∀ α x f, C α x f = cm x f := fun _ _ _ => by rw [hC]; rfl
  have hor : ∀ n a h, K n a h = orc G C U n a h := fun _ _ _ => by rw [hK]
  have hUu : ∀ α cd c, U α cd c = uu cd c := fun _ _ _ => by rw [hU]; rfl
  have hbyte : ∀ c i, byte c i = real.byte c i := fun _ _ => by rw [← hA]
  have hcmp : ∀ o a b, cmp o a b = real.cmp o a b := fun _ _ _ => by rw [← hA]
  have hok : ∀ o a, ok o a = real.ok o a := fun _ _ => by rw [← hA]
  have hget : ∀ c i, get c i = real.get c i := fun _ _ => by rw [← hA]
  have happ : ∀ n b c y, app n b c y = real.app n b c y := fun _ _ _ _ => by rw [← hA]
  have hlp' : ∀ b n0 kp L st, lp b n0 kp L st = rounds b n0 kp L st := fun _ _ _ _ _ => by rw [hlp]
  delta orc
  repeat' (first | refine On.I fun _ => ?_ | refine On.b ?_ ?_ | refine On.l fun _ _ _ => ?_ | refine On.a ?_ | refine On.p ?_ | refine On.h ?_ | refine On.s fun _ => ?_ | fail)
  all_goals
    refine On.r hC fun r R H hR => ?_
    try simp only [V.i, V.u, V.b, V.y] at hR
    cbv
  all_goals repeat' (first
    | (rewrite [hor]; cbv)
    | (rewrite [hUu]; generalize hq : uu _ _ = o; replace hq := uE hU hq (by first | assumption | exact (U_nil hU) | exact (U_cons hU rfl (U_nil hU)) | exact (U_cons hU rfl (U_cons hU rfl (U_nil hU))) | exact (U_cons hU rfl (U_cons hU rfl (U_cons hU rfl (U_nil hU)))) | exact (U_cons hU rfl (U_cons hU rfl (U_cons hU rfl (U_cons hU rfl (U_nil hU))))) | exact (U_cons hU rfl (U_cons hU rfl (U_cons hU rfl (U_cons hU rfl (U_cons hU rfl (U_nil hU))))))); subst hq; cbv)
    | (rewrite [hcall]; generalize hq : cm _ _ = o; first
        | (replace hq := mK hq (by assumption); subst hq; cbv)
        | (replace hq := mR hq
           rcases hq with ⟨hr, rfl⟩ | h1
           rotate_left
           repeat' (first | (replace h1 := bP h1; rcases h1 with h1 | h1) | (replace h1 := mX h1; obtain ⟨_, h1⟩ := h1) | fail)
           all_goals first | (replace h1 := bX h1; rcases h1 with ⟨hr, ho⟩ | ⟨hr, ho⟩ <;> (try dsimp only at ho) <;> subst ho <;> cbv) | (obtain ⟨_, hr, ho⟩ := h1; (try dsimp only at ho); subst ho; cbv) | cbv | fail))
    | (rewrite [hget]; generalize hq : real.get _ _ = o; replace hq := getE hU hq (by assumption); rcases hq with ⟨hb, x, hx, rfl⟩ | ⟨hb, rfl⟩ <;> first | (exact absurd (by assumption) hb) | cbv | fail)
    | (rewrite [hbyte]; generalize hq : real.byte _ _ = o; replace hq := byteE hq; rcases hq with ⟨hb, x, hx, rfl⟩ | ⟨hb, rfl⟩ <;> cbv)
    | (rewrite [hok]; generalize hq : real.ok _ _ = o; cases o <;> cbv)
    | (rewrite [hcmp]; generalize hq : real.cmp _ _ _ = o; cases o <;> simp only [rc] at hq <;> first | (exfalso; omega) | cbv | fail)
    | fail)
  all_goals as_aux_lemma =>
    clear hcall hor hUu hbyte hcmp hok hget happ hlp'
    repeat (rename U _ _ _ = some _ => hu; obtain rfl := unU hU hu; clear hu)
    obtain ⟨rfl, rfl, rfl, rfl, rfl, rfl, rfl, rfl, rfl, rfl, rfl, rfl, rfl, rfl⟩ := arE hA
    clear hA hK
    subst hlp hR hG hC hU
    try simp only [realF, rl, rds, len_m, most] at *
    all_goals
      rewrite [e.out] at H
      try subst_vars
      try simp only [beq_dec, bne_dec] at H
    all_goals
      repeat (first
        | (simp [j.out, beq_dec, bne_dec, *] at H; done)
        | (simp [j.out, beq_dec, bne_dec, *] at H)
        | (rw [if_pos (by omega)] at H)
        | (rw [if_neg (by omega)] at H)
        | (have hc := And.left H; replace H := And.right H; try (exfalso; clear H; omega)))
    all_goals first
      | (subst H; have hx := shr58 (bits BinOp.and IntKind.u64 ‹Int› (IntKind.u64.wrap (-‹Int›)) * 285870213051353865); obtain ⟨t, ht, hx⟩ := hx; rw [hx]; clear hx; (iterate 64 (rcases t with _ | t; · as_aux_lemma => rfl)); omega)
      | (subst H; rfl)
      | (subst H; simp; done)
      | (cases H; rfl)
      | (exfalso; clear H; omega)
      | (exfalso; clear H; simp [ByteArray.size] at hb; omega)
      | (subst H; simp [beq_dec, bne_dec, *]; done)
      | (simp_all [beq_dec, bne_dec]; done)
      | (simp_all [beq_dec, bne_dec]; subst H; first | rfl | (simp; done) | (simp [*]; done))
      | (simp only [hq] at *; simp [*] at H; done)
      | (simp only [hq] at *; simp [*] at H; subst H; first | rfl | (simp; done))
      | (simp only [hq] at hb; exfalso; first | omega | exact hb ⟨by assumption, by assumption⟩)) : P := h ⟨e⟩ ⟨j⟩
theorem hzz {P : Prop} (h : P := by
  intro y h; dsimp only [i] at h; replace h := goE h; obtain ⟨q', hq', h⟩ := h
  obtain rfl : q' = 0 := by omega
  repeat (replace h := wiE h; obtain ⟨_, _, h⟩ := h)
  simp [l.out] at h) : P := h
theorem nxt {P : Prop} (h : P := by first | exact hnx.out (_, _, _, _, _, _, _, _, _, _) (goI H (by omega)) | exact hnx.out (_, _, _, _, _, _, _, _, _) (goI H (by omega)) | exact hnx.out (_, _, _, _, _, _, _, _) (goI H (by omega)) | exact hnx.out (_, _, _, _, _, _, _) (goI H (by omega)) | exact hnx.out (_, _, _, _, _, _) (goI H (by omega)) | exact hnx.out (_, _, _, _, _) (goI H (by omega)) | exact hnx.out (_, _, _, _) (goI H (by omega)) | exact hnx.out (_, _, _) (goI H (by omega)) | exact hnx.out (_, _) (goI H (by omega)) | exact hnx.out _ (goI H (by omega)) | exact hnx.out (_, _, _, _, _, _, _, _, _, _) (goI (wiM H) (by omega)) | exact hnx.out (_, _, _, _, _, _, _, _, _) (goI (wiM H) (by omega)) | exact hnx.out (_, _, _, _, _, _, _, _) (goI (wiM H) (by omega)) | exact hnx.out (_, _, _, _, _, _, _) (goI (wiM H) (by omega)) | exact hnx.out (_, _, _, _, _, _) (goI (wiM H) (by omega)) | exact hnx.out (_, _, _, _, _) (goI (wiM H) (by omega)) | exact hnx.out (_, _, _, _) (goI (wiM H) (by omega)) | exact hnx.out (_, _, _) (goI (wiM H) (by omega)) | exact hnx.out (_, _) (goI (wiM H) (by omega)) | exact hnx.out _ (goI (wiM H) (by omega)) | exact hnx.out (_, _, _, _, _, _, _, _, _, _) (goI (wiN H) (by omega)) | exact hnx.out (_, _, _, _, _, _, _, _, _) (goI (wiN H) (by omega)) | exact hnx.out (_, _, _, _, _, _, _, _) (goI (wiN H) (by omega)) | exact hnx.out (_, _, _, _, _, _, _) (goI (wiN H) (by omega)) | exact hnx.out (_, _, _, _, _, _) (goI (wiN H) (by omega)) | exact hnx.out (_, _, _, _, _) (goI (wiN H) (by omega)) | exact hnx.out (_, _, _, _) (goI (wiN H) (by omega)) | exact hnx.out (_, _, _) (goI (wiN H) (by omega)) | exact hnx.out (_, _) (goI (wiN H) (by omega)) | exact hnx.out _ (goI (wiN H) (by omega)) | exact hnx.out (_, _, _, _, _, _, _, _, _, _) (goI (wiM (wiM H)) (by omega)) | exact hnx.out (_, _, _, _, _, _, _, _, _) (goI (wiM (wiM H)) (by omega)) | exact hnx.out (_, _, _, _, _, _, _, _) (goI (wiM (wiM H)) (by omega)) | exact hnx.out (_, _, _, _, _, _, _) (goI (wiM (wiM H)) (by omega)) | exact hnx.out (_, _, _, _, _, _) (goI (wiM (wiM H)) (by omega)) | exact hnx.out (_, _, _, _, _) (goI (wiM (wiM H)) (by omega)) | exact hnx.out (_, _, _, _) (goI (wiM (wiM H)) (by omega)) | exact hnx.out (_, _, _) (goI (wiM (wiM H)) (by omega)) | exact hnx.out (_, _) (goI (wiM (wiM H)) (by omega)) | exact hnx.out _ (goI (wiM (wiM H)) (by omega)) | exact hnx.out (_, _, _, _, _, _, _, _, _, _) (goI (wiN (wiM H)) (by omega)) | exact hnx.out (_, _, _, _, _, _, _, _, _) (goI (wiN (wiM H)) (by omega)) | exact hnx.out (_, _, _, _, _, _, _, _) (goI (wiN (wiM H)) (by omega)) | exact hnx.out (_, _, _, _, _, _, _) (goI (wiN (wiM H)) (by omega)) | exact hnx.out (_, _, _, _, _, _) (goI (wiN (wiM H)) (by omega)) | exact hnx.out (_, _, _, _, _) (goI (wiN (wiM H)) (by omega)) | exact hnx.out (_, _, _, _) (goI (wiN (wiM H)) (by omega)) | exact hnx.out (_, _, _) (goI (wiN (wiM H)) (by omega)) | exact hnx.out (_, _) (goI (wiN (wiM H)) (by omega)) | exact hnx.out _ (goI (wiN (wiM H)) (by omega)) | exact hnx.out (_, _, _, _, _, _, _, _, _, _) (goI (wiM (wiN H)) (by omega)) | exact hnx.out (_, _, _, _, _, _, _, _, _) (goI (wiM (wiN H)) (by omega)) | exact hnx.out (_, _, _, _, _, _, _, _) (goI (wiM (wiN H)) (by omega)) | exact hnx.out (_, _, _, _, _, _, _) (goI (wiM (wiN H)) (by omega)) | exact hnx.out (_, _, _, _, _, _) (goI (wiM (wiN H)) (by omega)) | exact hnx.out (_, _, _, _, _) (goI (wiM (wiN H)) (by omega)) | exact hnx.out (_, _, _, _) (goI (wiM (wiN H)) (by omega)) | exact hnx.out (_, _, _) (goI (wiM (wiN H)) (by omega)) | exact hnx.out (_, _) (goI (wiM (wiN H)) (by omega)) | exact hnx.out _ (goI (wiM (wiN H)) (by omega)) | exact hnx.out (_, _, _, _, _, _, _, _, _, _) (goI (wiN (wiN H)) (by omega)) | exact hnx.out (_, _, _, _, _, _, _, _, _) (goI (wiN (wiN H)) (by omega)) | exact hnx.out (_, _, _, _, _, _, _, _) (goI (wiN (wiN H)) (by omega)) | exact hnx.out (_, _, _, _, _, _, _) (goI (wiN (wiN H)) (by omega)) | exact hnx.out (_, _, _, _, _, _) (goI (wiN (wiN H)) (by omega)) | exact hnx.out (_, _, _, _, _) (goI (wiN (wiN H)) (by omega)) | exact hnx.out (_, _, _, _) (goI (wiN (wiN H)) (by omega)) | exact hnx.out (_, _, _) (goI (wiN (wiN H)) (by omega)) | exact hnx.out (_, _) (goI (wiN (wiN H)) (by omega)) | exact hnx.out _ (goI (wiN (wiN H)) (by omega)) | exact hnx.out (_, _, _, _, _, _, _, _, _, _) (goI (wiM (wiM (wiM H))) (by omega)) | exact hnx.out (_, _, _, _, _, _, _, _, _) (goI (wiM (wiM (wiM H))) (by omega)) | exact hnx.out (_, _, _, _, _, _, _, _) (goI (wiM (wiM (wiM H))) (by omega)) | exact hnx.out (_, _, _, _, _, _, _) (goI (wiM (wiM (wiM H))) (by omega)) | exact hnx.out (_, _, _, _, _, _) (goI (wiM (wiM (wiM H))) (by omega)) | exact hnx.out (_, _, _, _, _) (goI (wiM (wiM (wiM H))) (by omega)) | exact hnx.out (_, _, _, _) (goI (wiM (wiM (wiM H))) (by omega)) | exact hnx.out (_, _, _) (goI (wiM (wiM (wiM H))) (by omega)) | exact hnx.out (_, _) (goI (wiM (wiM (wiM H))) (by omega)) | exact hnx.out _ (goI (wiM (wiM (wiM H))) (by omega))) : P := h
theorem runL {α : Type} {β : Sort _} (upd : α → St → St) (inv : β) {P E J L : Prop} (e : E) (j : J) (l : L) (h : let u := upd; let i := inv; Box E → Box J → Box L → P := by
  intro u i e j l
  have hcall : ∀ α x f, C α x f = cm x f := fun _ _ _ => by rw [hC]; rfl
  have hor : ∀ n a h, K n a h = orc G C U n a h := fun _ _ _ => by rw [hK]
  have hUu : ∀ α cd c, U α cd c = uu cd c := fun _ _ _ => by rw [hU]; rfl
  have hbyte : ∀ c i, byte c i = real.byte c i := fun _ _ => by rw [← hA]
  have hcmp : ∀ o a b, cmp o a b = real.cmp o a b := fun _ _ _ => by rw [← hA]
  have hok : ∀ o a, ok o a = real.ok o a := fun _ _ => by rw [← hA]
  have hget : ∀ c i, get c i = real.get c i := fun _ _ => by rw [← hA]
  have happ : ∀ n b c y, app n b c y = real.app n b c y := fun _ _ _ _ => by rw [← hA]
  have hlp' : ∀ b n0 kp L st, lp b n0 kp L st = rounds b n0 kp L st := fun _ _ _ _ _ => by rw [hlp]
  try simp only [V.i, V.u, V.b, V.y] at hR
  cbv
  repeat' (first
    | (rewrite [hor]; cbv)
    | (rewrite [hUu]; generalize hq : uu _ _ = o; replace hq := uE hU hq (by first | assumption | exact (U_nil hU) | exact (U_cons hU rfl (U_nil hU)) | exact (U_cons hU rfl (U_cons hU rfl (U_nil hU))) | exact (U_cons hU rfl (U_cons hU rfl (U_cons hU rfl (U_nil hU)))) | exact (U_cons hU rfl (U_cons hU rfl (U_cons hU rfl (U_cons hU rfl (U_nil hU))))) | exact (U_cons hU rfl (U_cons hU rfl (U_cons hU rfl (U_cons hU rfl (U_cons hU rfl (U_nil hU))))))); subst hq; cbv)
    | (rewrite [hcall]; generalize hq : cm _ _ = o; first
        | (replace hq := mK hq (by assumption); subst hq; cbv)
        | (replace hq := mR hq
           rcases hq with ⟨hr, rfl⟩ | h1
           rotate_left
           repeat' (first | (replace h1 := bP h1; rcases h1 with h1 | h1) | (replace h1 := mX h1; obtain ⟨_, h1⟩ := h1) | fail)
           all_goals first | (replace h1 := bX h1; rcases h1 with ⟨hr, ho⟩ | ⟨hr, ho⟩ <;> (try dsimp only at ho) <;> subst ho <;> cbv) | (obtain ⟨_, hr, ho⟩ := h1; (try dsimp only at ho); subst ho; cbv) | cbv | fail))
    | (rewrite [hget]; generalize hq : real.get _ _ = o; replace hq := getE hU hq (by assumption); rcases hq with ⟨hb, x, hx, rfl⟩ | ⟨hb, rfl⟩ <;> first | (exact absurd (by assumption) hb) | cbv | fail)
    | (rewrite [hbyte]; generalize hq : real.byte _ _ = o; replace hq := byteE hq; rcases hq with ⟨hb, x, hx, rfl⟩ | ⟨hb, rfl⟩ <;> cbv)
    | (rewrite [hok]; generalize hq : real.ok _ _ = o; cases o <;> cbv)
    | (rewrite [hcmp]; generalize hq : real.cmp _ _ _ = o; cases o <;> simp only [rc] at hq <;> first | (exfalso; omega) | cbv | fail)
    | (rewrite [happ]; generalize hq : real.app _ _ _ _ = o; replace hq := appE hU hq (by assumption) rfl rfl (by decide); rcases hq with ⟨hb, c, hu, rfl⟩ | ⟨hb, rfl⟩ <;> cbv)
    | (rewrite [hlp']; generalize hl : rounds _ _ _ _ _ = o; revert o
       first | refine loop_rule u i (n := q + 8) (x := (?_, ?_, ?_, ?_, ?_, ?_, ?_, ?_, ?_, ?_)) (by exact rfl) ?_ (by omega) hzz ?_ | refine loop_rule u i (n := q + 8) (x := (?_, ?_, ?_, ?_, ?_, ?_, ?_, ?_, ?_)) (by exact rfl) ?_ (by omega) hzz ?_ | refine loop_rule u i (n := q + 8) (x := (?_, ?_, ?_, ?_, ?_, ?_, ?_, ?_)) (by exact rfl) ?_ (by omega) hzz ?_ | refine loop_rule u i (n := q + 8) (x := (?_, ?_, ?_, ?_, ?_, ?_, ?_)) (by exact rfl) ?_ (by omega) hzz ?_ | refine loop_rule u i (n := q + 8) (x := (?_, ?_, ?_, ?_, ?_, ?_)) (by exact rfl) ?_ (by omega) hzz ?_ | refine loop_rule u i (n := q + 8) (x := (?_, ?_, ?_, ?_, ?_)) (by exact rfl) ?_ (by omega) hzz ?_ | refine loop_rule u i (n := q + 8) (x := (?_, ?_, ?_, ?_)) (by exact rfl) ?_ (by omega) hzz ?_ | refine loop_rule u i (n := q + 8) (x := (?_, ?_, ?_)) (by exact rfl) ?_ (by omega) hzz ?_ | refine loop_rule u i (n := q + 8) (x := (?_, ?_)) (by exact rfl) ?_ (by omega) hzz ?_ | refine loop_rule u i (n := q + 8) (x := ?_) (by exact rfl) ?_ (by omega) hzz ?_
       · skip
         clear hcall hor hUu hbyte hcmp hok hget happ hlp'
         repeat (rename U _ _ _ = some _ => hu; obtain rfl := unU hU hu; clear hu)
         obtain ⟨rfl, rfl, rfl, rfl, rfl, rfl, rfl, rfl, rfl, rfl, rfl, rfl, rfl, rfl⟩ := arE hA
         clear hA hK
         subst hlp hR hG hC hU
         try simp only [realF, rl, rds, len_m, most] at *
         all_goals
           have H := H0
           clear H0
           rewrite [e.out] at H
           try subst_vars
           try simp only [hQ, beq_dec, bne_dec] at H
         all_goals
           repeat (first
             | (simp [j.out, beq_dec, bne_dec, *] at H; done)
             | (simp [j.out, beq_dec, bne_dec, *] at H)
             | (rw [if_pos (by omega)] at H)
             | (rw [if_neg (by omega)] at H)
             | (have hc := And.left H; replace H := And.right H; try (exfalso; clear H; omega)))
         all_goals dsimp only [i]
         all_goals first | exact goI H (by omega) | exact goI (wiM H) (by omega) | exact goI (wiN H) (by omega) | exact goI (wiM (wiM H)) (by omega) | exact goI (wiN (wiM H)) (by omega) | exact goI (wiM (wiN H)) (by omega) | exact goI (wiN (wiN H)) (by omega) | exact goI (wiM (wiM (wiM H))) (by omega) | exact goI (wiN (wiM (wiM H))) (by omega) | exact goI (wiM (wiN (wiM H))) (by omega) | exact goI (wiN (wiN (wiM H))) (by omega) | exact goI (wiM (wiM (wiN H))) (by omega) | exact goI (wiN (wiM (wiN H))) (by omega) | exact goI (wiM (wiN (wiN H))) (by omega) | exact goI (wiN (wiN (wiN H))) (by omega) | (simp only [*]; first | exact goI H (by omega) | exact goI (wiM H) (by omega) | exact goI (wiN H) (by omega) | exact goI (wiM (wiM H)) (by omega) | exact goI (wiN (wiM H)) (by omega) | exact goI (wiM (wiN H)) (by omega) | exact goI (wiN (wiN H)) (by omega))
       all_goals
         clear H0
         intro m hm
         repeat (refine pf fun _ => ?_)
         intro y nx hnx H0
         dsimp only [u, i] at hnx H0 ⊢
         replace H0 := goE H0
         obtain ⟨q', hqm, H0⟩ := H0
         repeat (replace H0 := wiE H0; obtain ⟨_, hu, H0⟩ := H0)
         rcases q' with _ | q'
         · exfalso; simp [l.out] at H0
         repeat' (rename Bool => b; cases b)
         all_goals cbv)
    | fail)
  all_goals as_aux_lemma =>
    clear hcall hor hUu hbyte hcmp hok hget happ hlp'
    repeat (rename U _ _ _ = some _ => hu; obtain rfl := unU hU hu; clear hu)
    obtain ⟨rfl, rfl, rfl, rfl, rfl, rfl, rfl, rfl, rfl, rfl, rfl, rfl, rfl, rfl⟩ := arE hA
    clear hA hK
    subst hlp hR hG hC hU
    try simp only [realF, rl, rds, len_m, most] at *
    all_goals try (rename ((List.length _ : Int) = (List.length _ : Int)) => hlen; have hbx := Box.mk hlen; simp only [hbx.out] at *; replace hbx := hbx.out)
    all_goals
      have H := H0
      clear H0
      first | (rewrite [e.out] at H; try simp only [hQ] at H) | skip
      try subst_vars
      try simp only [beq_dec, bne_dec] at H
      try simp only [l.out, beq_dec, bne_dec] at H
    all_goals
      repeat (first
        | (simp [j.out, beq_dec, bne_dec, *] at H; done)
        | (simp [j.out, beq_dec, bne_dec, *] at H)
        | (rcases q' with _ | q'; · (exfalso; simp [j.out] at H; done))
        | (rw [if_pos (by omega)] at H)
        | (rw [if_neg (by omega)] at H)
        | (have hc := And.left H; replace H := And.right H; try (exfalso; clear H; (try clear hnx); omega)))
    all_goals first
      | exact nxt
      | (rw [← hq] at H; exact nxt)
      | (subst H; have hx := shr58 (bits BinOp.and IntKind.u64 ‹Int› (IntKind.u64.wrap (-‹Int›)) * 285870213051353865); obtain ⟨t, ht, hx⟩ := hx; rw [hx]; clear hx; (iterate 64 (rcases t with _ | t; · as_aux_lemma => rfl)); omega)
      | (subst H; rfl)
      | (subst H; simp; done)
      | (cases H; rfl)
      | (exfalso; clear H; (try clear hnx); omega)
      | (exfalso; clear H; simp [ByteArray.size] at hb; omega)
      | (subst H; simp [beq_dec, bne_dec, *]; done)
      | (simp_all [beq_dec, bne_dec]; done)
      | (simp_all [beq_dec, bne_dec]; subst H; first | rfl | (simp; done) | (simp [*]; done))
      | (simp only [hq] at *; simp [*] at H; done)
      | (simp only [hq] at *; simp [*] at H; subst H; first | rfl | (simp; done))
      | (simp only [hq] at hb; exfalso; first | omega | exact hb ⟨by assumption, by assumption⟩)
      | (exfalso; clear H; (try clear hnx); simp only [natCast_eq] at *; omega)) : P := h ⟨e⟩ ⟨j⟩ ⟨l⟩
theorem hzz2 {P : Prop} (h : P := by
  intro y h; dsimp only [i2] at h; replace h := goE h; obtain ⟨q', hq', h⟩ := h
  obtain rfl : q' = 0 := by omega
  repeat (replace h := wiE h; obtain ⟨_, _, h⟩ := h)
  simp [l.out] at h) : P := h
theorem nxt2 {P : Prop} (h : P := by first | exact hnx2.out (_, _, _, _, _, _, _, _, _, _) (goI H (by omega)) | exact hnx2.out (_, _, _, _, _, _, _, _, _) (goI H (by omega)) | exact hnx2.out (_, _, _, _, _, _, _, _) (goI H (by omega)) | exact hnx2.out (_, _, _, _, _, _, _) (goI H (by omega)) | exact hnx2.out (_, _, _, _, _, _) (goI H (by omega)) | exact hnx2.out (_, _, _, _, _) (goI H (by omega)) | exact hnx2.out (_, _, _, _) (goI H (by omega)) | exact hnx2.out (_, _, _) (goI H (by omega)) | exact hnx2.out (_, _) (goI H (by omega)) | exact hnx2.out _ (goI H (by omega)) | exact hnx2.out (_, _, _, _, _, _, _, _, _, _) (goI (wiM H) (by omega)) | exact hnx2.out (_, _, _, _, _, _, _, _, _) (goI (wiM H) (by omega)) | exact hnx2.out (_, _, _, _, _, _, _, _) (goI (wiM H) (by omega)) | exact hnx2.out (_, _, _, _, _, _, _) (goI (wiM H) (by omega)) | exact hnx2.out (_, _, _, _, _, _) (goI (wiM H) (by omega)) | exact hnx2.out (_, _, _, _, _) (goI (wiM H) (by omega)) | exact hnx2.out (_, _, _, _) (goI (wiM H) (by omega)) | exact hnx2.out (_, _, _) (goI (wiM H) (by omega)) | exact hnx2.out (_, _) (goI (wiM H) (by omega)) | exact hnx2.out _ (goI (wiM H) (by omega)) | exact hnx2.out (_, _, _, _, _, _, _, _, _, _) (goI (wiN H) (by omega)) | exact hnx2.out (_, _, _, _, _, _, _, _, _) (goI (wiN H) (by omega)) | exact hnx2.out (_, _, _, _, _, _, _, _) (goI (wiN H) (by omega)) | exact hnx2.out (_, _, _, _, _, _, _) (goI (wiN H) (by omega)) | exact hnx2.out (_, _, _, _, _, _) (goI (wiN H) (by omega)) | exact hnx2.out (_, _, _, _, _) (goI (wiN H) (by omega)) | exact hnx2.out (_, _, _, _) (goI (wiN H) (by omega)) | exact hnx2.out (_, _, _) (goI (wiN H) (by omega)) | exact hnx2.out (_, _) (goI (wiN H) (by omega)) | exact hnx2.out _ (goI (wiN H) (by omega)) | exact hnx2.out (_, _, _, _, _, _, _, _, _, _) (goI (wiM (wiM H)) (by omega)) | exact hnx2.out (_, _, _, _, _, _, _, _, _) (goI (wiM (wiM H)) (by omega)) | exact hnx2.out (_, _, _, _, _, _, _, _) (goI (wiM (wiM H)) (by omega)) | exact hnx2.out (_, _, _, _, _, _, _) (goI (wiM (wiM H)) (by omega)) | exact hnx2.out (_, _, _, _, _, _) (goI (wiM (wiM H)) (by omega)) | exact hnx2.out (_, _, _, _, _) (goI (wiM (wiM H)) (by omega)) | exact hnx2.out (_, _, _, _) (goI (wiM (wiM H)) (by omega)) | exact hnx2.out (_, _, _) (goI (wiM (wiM H)) (by omega)) | exact hnx2.out (_, _) (goI (wiM (wiM H)) (by omega)) | exact hnx2.out _ (goI (wiM (wiM H)) (by omega)) | exact hnx2.out (_, _, _, _, _, _, _, _, _, _) (goI (wiN (wiM H)) (by omega)) | exact hnx2.out (_, _, _, _, _, _, _, _, _) (goI (wiN (wiM H)) (by omega)) | exact hnx2.out (_, _, _, _, _, _, _, _) (goI (wiN (wiM H)) (by omega)) | exact hnx2.out (_, _, _, _, _, _, _) (goI (wiN (wiM H)) (by omega)) | exact hnx2.out (_, _, _, _, _, _) (goI (wiN (wiM H)) (by omega)) | exact hnx2.out (_, _, _, _, _) (goI (wiN (wiM H)) (by omega)) | exact hnx2.out (_, _, _, _) (goI (wiN (wiM H)) (by omega)) | exact hnx2.out (_, _, _) (goI (wiN (wiM H)) (by omega)) | exact hnx2.out (_, _) (goI (wiN (wiM H)) (by omega)) | exact hnx2.out _ (goI (wiN (wiM H)) (by omega)) | exact hnx2.out (_, _, _, _, _, _, _, _, _, _) (goI (wiM (wiN H)) (by omega)) | exact hnx2.out (_, _, _, _, _, _, _, _, _) (goI (wiM (wiN H)) (by omega)) | exact hnx2.out (_, _, _, _, _, _, _, _) (goI (wiM (wiN H)) (by omega)) | exact hnx2.out (_, _, _, _, _, _, _) (goI (wiM (wiN H)) (by omega)) | exact hnx2.out (_, _, _, _, _, _) (goI (wiM (wiN H)) (by omega)) | exact hnx2.out (_, _, _, _, _) (goI (wiM (wiN H)) (by omega)) | exact hnx2.out (_, _, _, _) (goI (wiM (wiN H)) (by omega)) | exact hnx2.out (_, _, _) (goI (wiM (wiN H)) (by omega)) | exact hnx2.out (_, _) (goI (wiM (wiN H)) (by omega)) | exact hnx2.out _ (goI (wiM (wiN H)) (by omega)) | exact hnx2.out (_, _, _, _, _, _, _, _, _, _) (goI (wiN (wiN H)) (by omega)) | exact hnx2.out (_, _, _, _, _, _, _, _, _) (goI (wiN (wiN H)) (by omega)) | exact hnx2.out (_, _, _, _, _, _, _, _) (goI (wiN (wiN H)) (by omega)) | exact hnx2.out (_, _, _, _, _, _, _) (goI (wiN (wiN H)) (by omega)) | exact hnx2.out (_, _, _, _, _, _) (goI (wiN (wiN H)) (by omega)) | exact hnx2.out (_, _, _, _, _) (goI (wiN (wiN H)) (by omega)) | exact hnx2.out (_, _, _, _) (goI (wiN (wiN H)) (by omega)) | exact hnx2.out (_, _, _) (goI (wiN (wiN H)) (by omega)) | exact hnx2.out (_, _) (goI (wiN (wiN H)) (by omega)) | exact hnx2.out _ (goI (wiN (wiN H)) (by omega)) | exact hnx2.out (_, _, _, _, _, _, _, _, _, _) (goI (wiM (wiM (wiM H))) (by omega)) | exact hnx2.out (_, _, _, _, _, _, _, _, _) (goI (wiM (wiM (wiM H))) (by omega)) | exact hnx2.out (_, _, _, _, _, _, _, _) (goI (wiM (wiM (wiM H))) (by omega)) | exact hnx2.out (_, _, _, _, _, _, _) (goI (wiM (wiM (wiM H))) (by omega)) | exact hnx2.out (_, _, _, _, _, _) (goI (wiM (wiM (wiM H))) (by omega)) | exact hnx2.out (_, _, _, _, _) (goI (wiM (wiM (wiM H))) (by omega)) | exact hnx2.out (_, _, _, _) (goI (wiM (wiM (wiM H))) (by omega)) | exact hnx2.out (_, _, _) (goI (wiM (wiM (wiM H))) (by omega)) | exact hnx2.out (_, _) (goI (wiM (wiM (wiM H))) (by omega)) | exact hnx2.out _ (goI (wiM (wiM (wiM H))) (by omega))) : P := h
theorem runLL {α α2 : Type} {β β2 : Sort _} (upd : α → St → St) (inv : β) (upd2 : α2 → St → St) (inv2 : β2) {P E J L : Prop} (e : E) (j : J) (l : L) (h : let u := upd; let i := inv; let u2 := upd2; let i2 := inv2; Box E → Box J → Box L → P := by
  intro u i u2 i2 e j l
  have hcall : ∀ α x f, C α x f = cm x f := fun _ _ _ => by rw [hC]; rfl
  have hor : ∀ n a h, K n a h = orc G C U n a h := fun _ _ _ => by rw [hK]
  have hUu : ∀ α cd c, U α cd c = uu cd c := fun _ _ _ => by rw [hU]; rfl
  have hbyte : ∀ c i, byte c i = real.byte c i := fun _ _ => by rw [← hA]
  have hcmp : ∀ o a b, cmp o a b = real.cmp o a b := fun _ _ _ => by rw [← hA]
  have hok : ∀ o a, ok o a = real.ok o a := fun _ _ => by rw [← hA]
  have hget : ∀ c i, get c i = real.get c i := fun _ _ => by rw [← hA]
  have happ : ∀ n b c y, app n b c y = real.app n b c y := fun _ _ _ _ => by rw [← hA]
  have hlp' : ∀ b n0 kp L st, lp b n0 kp L st = rounds b n0 kp L st := fun _ _ _ _ _ => by rw [hlp]
  try simp only [V.i, V.u, V.b, V.y] at hR
  cbv
  repeat' (first
    | (rewrite [hor]; cbv)
    | (rewrite [hUu]; generalize hq : uu _ _ = o; replace hq := uE hU hq (by first | assumption | exact (U_nil hU) | exact (U_cons hU rfl (U_nil hU)) | exact (U_cons hU rfl (U_cons hU rfl (U_nil hU))) | exact (U_cons hU rfl (U_cons hU rfl (U_cons hU rfl (U_nil hU)))) | exact (U_cons hU rfl (U_cons hU rfl (U_cons hU rfl (U_cons hU rfl (U_nil hU))))) | exact (U_cons hU rfl (U_cons hU rfl (U_cons hU rfl (U_cons hU rfl (U_cons hU rfl (U_nil hU))))))); subst hq; cbv)
    | (rewrite [hcall]; generalize hq : cm _ _ = o; first
        | (replace hq := mK hq (by assumption); subst hq; cbv)
        | (replace hq := mR hq
           rcases hq with ⟨hr, rfl⟩ | h1
           rotate_left
           repeat' (first | (replace h1 := bP h1; rcases h1 with h1 | h1) | (replace h1 := mX h1; obtain ⟨_, h1⟩ := h1) | fail)
           all_goals first | (replace h1 := bX h1; rcases h1 with ⟨hr, ho⟩ | ⟨hr, ho⟩ <;> (try dsimp only at ho) <;> subst ho <;> cbv) | (obtain ⟨_, hr, ho⟩ := h1; (try dsimp only at ho); subst ho; cbv) | cbv | fail))
    | (rewrite [hget]; generalize hq : real.get _ _ = o; replace hq := getE hU hq (by assumption); rcases hq with ⟨hb, x, hx, rfl⟩ | ⟨hb, rfl⟩ <;> first | (exact absurd (by assumption) hb) | cbv | fail)
    | (rewrite [hbyte]; generalize hq : real.byte _ _ = o; replace hq := byteE hq; rcases hq with ⟨hb, x, hx, rfl⟩ | ⟨hb, rfl⟩ <;> cbv)
    | (rewrite [hok]; generalize hq : real.ok _ _ = o; cases o <;> cbv)
    | (rewrite [hcmp]; generalize hq : real.cmp _ _ _ = o; cases o <;> simp only [rc] at hq <;> first | (exfalso; omega) | cbv | fail)
    | (rewrite [happ]; generalize hq : real.app _ _ _ _ = o; replace hq := appE hU hq (by assumption) rfl rfl (by decide); rcases hq with ⟨hb, c, hu, rfl⟩ | ⟨hb, rfl⟩ <;> cbv)
    | (rewrite [hlp']; generalize hl : rounds _ _ _ _ _ = o; revert o
       first | refine loop_rule u2 i2 (n := m) (x := (?_, ?_, ?_, ?_, ?_, ?_, ?_, ?_, ?_, ?_)) (by exact rfl) ?_ (by omega) hzz2 ?_ | refine loop_rule u2 i2 (n := m) (x := (?_, ?_, ?_, ?_, ?_, ?_, ?_, ?_, ?_)) (by exact rfl) ?_ (by omega) hzz2 ?_ | refine loop_rule u2 i2 (n := m) (x := (?_, ?_, ?_, ?_, ?_, ?_, ?_, ?_)) (by exact rfl) ?_ (by omega) hzz2 ?_ | refine loop_rule u2 i2 (n := m) (x := (?_, ?_, ?_, ?_, ?_, ?_, ?_)) (by exact rfl) ?_ (by omega) hzz2 ?_ | refine loop_rule u2 i2 (n := m) (x := (?_, ?_, ?_, ?_, ?_, ?_)) (by exact rfl) ?_ (by omega) hzz2 ?_ | refine loop_rule u2 i2 (n := m) (x := (?_, ?_, ?_, ?_, ?_)) (by exact rfl) ?_ (by omega) hzz2 ?_ | refine loop_rule u2 i2 (n := m) (x := (?_, ?_, ?_, ?_)) (by exact rfl) ?_ (by omega) hzz2 ?_ | refine loop_rule u2 i2 (n := m) (x := (?_, ?_, ?_)) (by exact rfl) ?_ (by omega) hzz2 ?_ | refine loop_rule u2 i2 (n := m) (x := (?_, ?_)) (by exact rfl) ?_ (by omega) hzz2 ?_ | refine loop_rule u2 i2 (n := m) (x := ?_) (by exact rfl) ?_ (by omega) hzz2 ?_
       · skip
         clear hcall hor hUu hbyte hcmp hok hget happ hlp'
         repeat (rename U _ _ _ = some _ => hu; obtain rfl := unU hU hu; clear hu)
         obtain ⟨rfl, rfl, rfl, rfl, rfl, rfl, rfl, rfl, rfl, rfl, rfl, rfl, rfl, rfl⟩ := arE hA
         clear hA hK
         subst hlp hR hG hC hU
         try simp only [realF, rl, rds, len_m, most] at *
         all_goals
           have H := H0
           clear H0
           first | (rewrite [e.out] at H; try simp only [hQ] at H) | skip
           try subst_vars
           try simp only [beq_dec, bne_dec] at H
           try simp only [l.out, beq_dec, bne_dec] at H
         all_goals
           repeat (first
             | (simp [j.out, beq_dec, bne_dec, *] at H; done)
             | (simp [j.out, beq_dec, bne_dec, *] at H)
             | (rcases q' with _ | q'; · (exfalso; simp [j.out] at H; done))
             | (rw [if_pos (by omega)] at H)
             | (rw [if_neg (by omega)] at H)
             | (have hc := And.left H; replace H := And.right H; try (exfalso; clear H; (try clear hnx); (try clear hnx2); omega)))
         all_goals dsimp only [i2]
         all_goals first | exact goI H (by omega) | exact goI (wiM H) (by omega) | exact goI (wiN H) (by omega) | exact goI (wiM (wiM H)) (by omega) | exact goI (wiN (wiM H)) (by omega) | exact goI (wiM (wiN H)) (by omega) | exact goI (wiN (wiN H)) (by omega) | exact goI (wiM (wiM (wiM H))) (by omega) | exact goI (wiN (wiM (wiM H))) (by omega) | exact goI (wiM (wiN (wiM H))) (by omega) | exact goI (wiN (wiN (wiM H))) (by omega) | exact goI (wiM (wiM (wiN H))) (by omega) | exact goI (wiN (wiM (wiN H))) (by omega) | exact goI (wiM (wiN (wiN H))) (by omega) | exact goI (wiN (wiN (wiN H))) (by omega) | (simp only [*]; first | exact goI H (by omega) | exact goI (wiM H) (by omega) | exact goI (wiN H) (by omega) | exact goI (wiM (wiM H)) (by omega) | exact goI (wiN (wiM H)) (by omega) | exact goI (wiM (wiN H)) (by omega) | exact goI (wiN (wiN H)) (by omega))
       all_goals
         clear H0
         intro m2 hm2
         repeat (refine pf fun _ => ?_)
         intro y2 nx2 hnx2 H0
         dsimp only [u2, i2] at hnx2 H0 ⊢
         replace H0 := goE H0
         obtain ⟨q', hqm, H0⟩ := H0
         repeat (replace H0 := wiE H0; obtain ⟨_, hu, H0⟩ := H0)
         rcases q' with _ | q'
         · exfalso; simp [l.out] at H0
         repeat' (rename Bool => b; cases b)
         all_goals cbv)
    | (rewrite [hlp']; generalize hl : rounds _ _ _ _ _ = o; revert o
       first | refine loop_rule u i (n := q + 8) (x := (?_, ?_, ?_, ?_, ?_, ?_, ?_, ?_, ?_, ?_)) (by exact rfl) ?_ (by omega) hzz ?_ | refine loop_rule u i (n := q + 8) (x := (?_, ?_, ?_, ?_, ?_, ?_, ?_, ?_, ?_)) (by exact rfl) ?_ (by omega) hzz ?_ | refine loop_rule u i (n := q + 8) (x := (?_, ?_, ?_, ?_, ?_, ?_, ?_, ?_)) (by exact rfl) ?_ (by omega) hzz ?_ | refine loop_rule u i (n := q + 8) (x := (?_, ?_, ?_, ?_, ?_, ?_, ?_)) (by exact rfl) ?_ (by omega) hzz ?_ | refine loop_rule u i (n := q + 8) (x := (?_, ?_, ?_, ?_, ?_, ?_)) (by exact rfl) ?_ (by omega) hzz ?_ | refine loop_rule u i (n := q + 8) (x := (?_, ?_, ?_, ?_, ?_)) (by exact rfl) ?_ (by omega) hzz ?_ | refine loop_rule u i (n := q + 8) (x := (?_, ?_, ?_, ?_)) (by exact rfl) ?_ (by omega) hzz ?_ | refine loop_rule u i (n := q + 8) (x := (?_, ?_, ?_)) (by exact rfl) ?_ (by omega) hzz ?_ | refine loop_rule u i (n := q + 8) (x := (?_, ?_)) (by exact rfl) ?_ (by omega) hzz ?_ | refine loop_rule u i (n := q + 8) (x := ?_) (by exact rfl) ?_ (by omega) hzz ?_
       · skip
         clear hcall hor hUu hbyte hcmp hok hget happ hlp'
         repeat (rename U _ _ _ = some _ => hu; obtain rfl := unU hU hu; clear hu)
         obtain ⟨rfl, rfl, rfl, rfl, rfl, rfl, rfl, rfl, rfl, rfl, rfl, rfl, rfl, rfl⟩ := arE hA
         clear hA hK
         subst hlp hR hG hC hU
         try simp only [realF, rl, rds, len_m, most] at *
         all_goals
           have H := H0
           clear H0
           rewrite [e.out] at H
           try subst_vars
           try simp only [hQ, beq_dec, bne_dec] at H
         all_goals
           repeat (first
             | (simp [j.out, beq_dec, bne_dec, *] at H; done)
             | (simp [j.out, beq_dec, bne_dec, *] at H)
             | (rw [if_pos (by omega)] at H)
             | (rw [if_neg (by omega)] at H)
             | (have hc := And.left H; replace H := And.right H; try (exfalso; clear H; omega)))
         all_goals dsimp only [i]
         all_goals first | exact goI H (by omega) | exact goI (wiM H) (by omega) | exact goI (wiN H) (by omega) | exact goI (wiM (wiM H)) (by omega) | exact goI (wiN (wiM H)) (by omega) | exact goI (wiM (wiN H)) (by omega) | exact goI (wiN (wiN H)) (by omega) | exact goI (wiM (wiM (wiM H))) (by omega) | exact goI (wiN (wiM (wiM H))) (by omega) | exact goI (wiM (wiN (wiM H))) (by omega) | exact goI (wiN (wiN (wiM H))) (by omega) | exact goI (wiM (wiM (wiN H))) (by omega) | exact goI (wiN (wiM (wiN H))) (by omega) | exact goI (wiM (wiN (wiN H))) (by omega) | exact goI (wiN (wiN (wiN H))) (by omega) | (simp only [*]; first | exact goI H (by omega) | exact goI (wiM H) (by omega) | exact goI (wiN H) (by omega) | exact goI (wiM (wiM H)) (by omega) | exact goI (wiN (wiM H)) (by omega) | exact goI (wiM (wiN H)) (by omega) | exact goI (wiN (wiN H)) (by omega))
       all_goals
         clear H0
         intro m hm
         repeat (refine pf fun _ => ?_)
         intro y nx hnx H0
         dsimp only [u, i] at hnx H0 ⊢
         replace H0 := goE H0
         obtain ⟨q', hqm, H0⟩ := H0
         repeat (replace H0 := wiE H0; obtain ⟨_, hu, H0⟩ := H0)
         rcases q' with _ | q'
         · exfalso; simp [l.out] at H0
         repeat' (rename Bool => b; cases b)
         all_goals cbv)
    | fail)
  all_goals as_aux_lemma =>
    clear hcall hor hUu hbyte hcmp hok hget happ hlp'
    repeat (rename U _ _ _ = some _ => hu; obtain rfl := unU hU hu; clear hu)
    obtain ⟨rfl, rfl, rfl, rfl, rfl, rfl, rfl, rfl, rfl, rfl, rfl, rfl, rfl, rfl⟩ := arE hA
    clear hA hK
    subst hlp hR hG hC hU
    try simp only [realF, rl, rds, len_m, most] at *
    all_goals try (rename ((List.length _ : Int) = (List.length _ : Int)) => hlen; have hbx := Box.mk hlen; simp only [hbx.out] at *; replace hbx := hbx.out)
    all_goals
      have H := H0
      clear H0
      first | (rewrite [e.out] at H; try simp only [hQ] at H) | skip
      try subst_vars
      try simp only [beq_dec, bne_dec] at H
      try simp only [l.out, beq_dec, bne_dec] at H
    all_goals
      repeat (first
        | (simp [j.out, beq_dec, bne_dec, *] at H; done)
        | (simp [j.out, beq_dec, bne_dec, *] at H)
        | (rcases q' with _ | q'; · (exfalso; simp [j.out] at H; done))
        | (rw [if_pos (by omega)] at H)
        | (rw [if_neg (by omega)] at H)
        | (have hc := And.left H; replace H := And.right H; try (exfalso; clear H; (try clear hnx); (try clear hnx2); omega)))
    all_goals first
      | exact nxt2
      | (rw [← hq] at H; exact nxt2)
      | exact nxt
      | (rw [← hq] at H; exact nxt)
      | (subst H; have hx := shr58 (bits BinOp.and IntKind.u64 ‹Int› (IntKind.u64.wrap (-‹Int›)) * 285870213051353865); obtain ⟨t, ht, hx⟩ := hx; rw [hx]; clear hx; (iterate 64 (rcases t with _ | t; · as_aux_lemma => rfl)); omega)
      | (subst H; rfl)
      | (subst H; simp; done)
      | (cases H; rfl)
      | (exfalso; clear H; (try clear hnx); (try clear hnx2); omega)
      | (exfalso; clear H; simp [ByteArray.size] at hb; omega)
      | (subst H; simp [beq_dec, bne_dec, *]; done)
      | (simp_all [beq_dec, bne_dec]; done)
      | (simp_all [beq_dec, bne_dec]; subst H; first | rfl | (simp; done) | (simp [*]; done))
      | (simp only [hq] at *; simp [*] at H; done)
      | (simp only [hq] at *; simp [*] at H; subst H; first | rfl | (simp; done))
      | (simp only [hq] at hb; exfalso; first | omega | exact hb ⟨by assumption, by assumption⟩)
      | (exfalso; clear H; (try clear hnx); (try clear hnx2); simp only [natCast_eq] at *; omega)) : P := h ⟨e⟩ ⟨j⟩ ⟨l⟩
theorem mainL {P : Prop} (h : P := by
  repeat' (first
    | (rewrite [hor]; cbv)
    | (rewrite [hUu]; generalize hq : uu _ _ = o; replace hq := uE hU hq (by first | assumption | exact (U_nil hU) | exact (U_cons hU rfl (U_nil hU)) | exact (U_cons hU rfl (U_cons hU rfl (U_nil hU))) | exact (U_cons hU rfl (U_cons hU rfl (U_cons hU rfl (U_nil hU)))) | exact (U_cons hU rfl (U_cons hU rfl (U_cons hU rfl (U_cons hU rfl (U_nil hU))))) | exact (U_cons hU rfl (U_cons hU rfl (U_cons hU rfl (U_cons hU rfl (U_cons hU rfl (U_nil hU))))))); subst hq; cbv)
    | (rewrite [hcall]; generalize hq : cm _ _ = o; first
        | (replace hq := mK hq (by assumption); subst hq; cbv)
        | (replace hq := mR hq
           rcases hq with ⟨hr, rfl⟩ | h1
           rotate_left
           repeat' (first | (replace h1 := bP h1; rcases h1 with h1 | h1) | (replace h1 := mX h1; obtain ⟨_, h1⟩ := h1) | fail)
           all_goals first | (replace h1 := bX h1; rcases h1 with ⟨hr, ho⟩ | ⟨hr, ho⟩ <;> (try dsimp only at ho) <;> subst ho <;> cbv) | (obtain ⟨_, hr, ho⟩ := h1; (try dsimp only at ho); subst ho; cbv) | cbv | fail))
    | (rewrite [hget]; generalize hq : real.get _ _ = o; replace hq := getE hU hq (by assumption); rcases hq with ⟨hb, x, hx, rfl⟩ | ⟨hb, rfl⟩ <;> first | (exact absurd (by assumption) hb) | cbv | fail)
    | (rewrite [hbyte]; generalize hq : real.byte _ _ = o; replace hq := byteE hq; rcases hq with ⟨hb, x, hx, rfl⟩ | ⟨hb, rfl⟩ <;> cbv)
    | (rewrite [hok]; generalize hq : real.ok _ _ = o; cases o <;> cbv)
    | (rewrite [hcmp]; generalize hq : real.cmp _ _ _ = o; cases o <;> simp only [rc] at hq <;> first | (exfalso; omega) | cbv | fail)
    | (rewrite [happ]; generalize hq : real.app _ _ _ _ = o; replace hq := appE hU hq (by assumption) rfl rfl (by decide); rcases hq with ⟨hb, c, hu, rfl⟩ | ⟨hb, rfl⟩ <;> cbv)
    | fail)
  all_goals as_aux_lemma =>
    clear hcall hor hUu hbyte hcmp hok hget happ hlp'
    repeat (rename U _ _ _ = some _ => hu; obtain rfl := unU hU hu; clear hu)
    obtain ⟨rfl, rfl, rfl, rfl, rfl, rfl, rfl, rfl, rfl, rfl, rfl, rfl, rfl, rfl⟩ := arE hA
    clear hA hK
    subst hlp hR hG hC hU
    try simp only [realF, rl, rds, len_m, most] at *
    all_goals try (rename ((List.length _ : Int) = (List.length _ : Int)) => hlen; have hbx := Box.mk hlen; simp only [hbx.out] at *; replace hbx := hbx.out)
    all_goals
      have H := H0
      clear H0
      first | (rewrite [e.out] at H; try simp only [hQ] at H) | skip
      try subst_vars
      try simp only [beq_dec, bne_dec] at H
      try simp only [l.out, beq_dec, bne_dec] at H
    all_goals
      repeat (first
        | (simp [j.out, beq_dec, bne_dec, *] at H; done)
        | (simp [j.out, beq_dec, bne_dec, *] at H)
        | (rcases q' with _ | q'; · (exfalso; simp [j.out] at H; done))
        | (rw [if_pos (by omega)] at H)
        | (rw [if_neg (by omega)] at H)
        | (have hc := And.left H; replace H := And.right H; try (exfalso; clear H; (try clear hnx); omega)))
    all_goals first
      | exact nxt
      | (rw [← hq] at H; exact nxt)
      | (subst H; have hx := shr58 (bits BinOp.and IntKind.u64 ‹Int› (IntKind.u64.wrap (-‹Int›)) * 285870213051353865); obtain ⟨t, ht, hx⟩ := hx; rw [hx]; clear hx; (iterate 64 (rcases t with _ | t; · as_aux_lemma => rfl)); omega)
      | (subst H; rfl)
      | (subst H; simp; done)
      | (cases H; rfl)
      | (exfalso; clear H; (try clear hnx); omega)
      | (exfalso; clear H; simp [ByteArray.size] at hb; omega)
      | (subst H; simp [beq_dec, bne_dec, *]; done)
      | (simp_all [beq_dec, bne_dec]; done)
      | (simp_all [beq_dec, bne_dec]; subst H; first | rfl | (simp; done) | (simp [*]; done))
      | (simp only [hq] at *; simp [*] at H; done)
      | (simp only [hq] at *; simp [*] at H; subst H; first | rfl | (simp; done))
      | (simp only [hq] at hb; exfalso; first | omega | exact hb ⟨by assumption, by assumption⟩)
      | (exfalso; clear H; (try clear hnx); simp only [natCast_eq] at *; omega)) : P := h
theorem runC {α : Type} {β : Sort _} (upd : α → St → St) (inv : β) {P E J L : Prop} (e : E) (j : J) (l : L) (h : let u := upd; let i := inv; Box E → Box J → Box L → P := by
  intro u i e j l
  have hcall : ∀ α x f, C α x f = cm x f := fun _ _ _ => by rw [hC]; rfl
  have hor : ∀ n a h, K n a h = orc G C U n a h := fun _ _ _ => by rw [hK]
  have hUu : ∀ α cd c, U α cd c = uu cd c := fun _ _ _ => by rw [hU]; rfl
  have hbyte : ∀ c i, byte c i = real.byte c i := fun _ _ => by rw [← hA]
  have hcmp : ∀ o a b, cmp o a b = real.cmp o a b := fun _ _ _ => by rw [← hA]
  have hok : ∀ o a, ok o a = real.ok o a := fun _ _ => by rw [← hA]
  have hget : ∀ c i, get c i = real.get c i := fun _ _ => by rw [← hA]
  have happ : ∀ n b c y, app n b c y = real.app n b c y := fun _ _ _ _ => by rw [← hA]
  have hlp' : ∀ b n0 kp L st, lp b n0 kp L st = rounds b n0 kp L st := fun _ _ _ _ _ => by rw [hlp]
  try simp only [V.i, V.u, V.b, V.y] at hR
  cbv
  repeat' (first
    | (rewrite [hor]; cbv)
    | (rewrite [hUu]; generalize hq : uu _ _ = o; replace hq := uE hU hq (by first | assumption | exact (U_nil hU) | exact (U_cons hU rfl (U_nil hU)) | exact (U_cons hU rfl (U_cons hU rfl (U_nil hU))) | exact (U_cons hU rfl (U_cons hU rfl (U_cons hU rfl (U_nil hU)))) | exact (U_cons hU rfl (U_cons hU rfl (U_cons hU rfl (U_cons hU rfl (U_nil hU))))) | exact (U_cons hU rfl (U_cons hU rfl (U_cons hU rfl (U_cons hU rfl (U_cons hU rfl (U_nil hU))))))); subst hq; cbv)
    | (rewrite [hcall]; generalize hq : cm _ _ = o; first
        | (replace hq := mK hq (by assumption); subst hq; cbv)
        | (replace hq := mR hq
           rcases hq with ⟨hr, rfl⟩ | h1
           rotate_left
           repeat' (first | (replace h1 := bP h1; rcases h1 with h1 | h1) | (replace h1 := mX h1; obtain ⟨_, h1⟩ := h1) | fail)
           all_goals first | (replace h1 := bX h1; rcases h1 with ⟨hr, ho⟩ | ⟨hr, ho⟩ <;> (try dsimp only at ho) <;> subst ho <;> cbv) | (obtain ⟨_, hr, ho⟩ := h1; (try dsimp only at ho); subst ho; cbv) | cbv | fail))
    | (rewrite [hget]; generalize hq : real.get _ _ = o; replace hq := getE hU hq (by assumption); rcases hq with ⟨hb, x, hx, rfl⟩ | ⟨hb, rfl⟩ <;> first | (exact absurd (by assumption) hb) | cbv | fail)
    | (rewrite [hbyte]; generalize hq : real.byte _ _ = o; replace hq := byteE hq; rcases hq with ⟨hb, x, hx, rfl⟩ | ⟨hb, rfl⟩ <;> cbv)
    | (rewrite [hok]; generalize hq : real.ok _ _ = o; cases o <;> cbv)
    | (rewrite [hcmp]; generalize hq : real.cmp _ _ _ = o; cases o <;> simp only [rc] at hq <;> (first | (exfalso; omega) | cbv | fail); rotate_left; as_aux_lemma => exact mainL)
    | (rewrite [happ]; generalize hq : real.app _ _ _ _ = o; replace hq := appE hU hq (by assumption) rfl rfl (by decide); rcases hq with ⟨hb, c, hu, rfl⟩ | ⟨hb, rfl⟩ <;> cbv)
    | (rewrite [hlp']; generalize hl : rounds _ _ _ _ _ = o; revert o
       first | refine loop_rule u i (n := q + 8) (x := (?_, ?_, ?_, ?_, ?_, ?_, ?_, ?_, ?_, ?_)) (by exact rfl) ?_ (by omega) hzz ?_ | refine loop_rule u i (n := q + 8) (x := (?_, ?_, ?_, ?_, ?_, ?_, ?_, ?_, ?_)) (by exact rfl) ?_ (by omega) hzz ?_ | refine loop_rule u i (n := q + 8) (x := (?_, ?_, ?_, ?_, ?_, ?_, ?_, ?_)) (by exact rfl) ?_ (by omega) hzz ?_ | refine loop_rule u i (n := q + 8) (x := (?_, ?_, ?_, ?_, ?_, ?_, ?_)) (by exact rfl) ?_ (by omega) hzz ?_ | refine loop_rule u i (n := q + 8) (x := (?_, ?_, ?_, ?_, ?_, ?_)) (by exact rfl) ?_ (by omega) hzz ?_ | refine loop_rule u i (n := q + 8) (x := (?_, ?_, ?_, ?_, ?_)) (by exact rfl) ?_ (by omega) hzz ?_ | refine loop_rule u i (n := q + 8) (x := (?_, ?_, ?_, ?_)) (by exact rfl) ?_ (by omega) hzz ?_ | refine loop_rule u i (n := q + 8) (x := (?_, ?_, ?_)) (by exact rfl) ?_ (by omega) hzz ?_ | refine loop_rule u i (n := q + 8) (x := (?_, ?_)) (by exact rfl) ?_ (by omega) hzz ?_ | refine loop_rule u i (n := q + 8) (x := ?_) (by exact rfl) ?_ (by omega) hzz ?_
       · skip
         clear hcall hor hUu hbyte hcmp hok hget happ hlp'
         repeat (rename U _ _ _ = some _ => hu; obtain rfl := unU hU hu; clear hu)
         obtain ⟨rfl, rfl, rfl, rfl, rfl, rfl, rfl, rfl, rfl, rfl, rfl, rfl, rfl, rfl⟩ := arE hA
         clear hA hK
         subst hlp hR hG hC hU
         try simp only [realF, rl, rds, len_m, most] at *
         all_goals
           have H := H0
           clear H0
           rewrite [e.out] at H
           try subst_vars
           try simp only [hQ, beq_dec, bne_dec] at H
         all_goals
           repeat (first
             | (simp [j.out, beq_dec, bne_dec, *] at H; done)
             | (simp [j.out, beq_dec, bne_dec, *] at H)
             | (rw [if_pos (by omega)] at H)
             | (rw [if_neg (by omega)] at H)
             | (have hc := And.left H; replace H := And.right H; try (exfalso; clear H; omega)))
         all_goals dsimp only [i]
         all_goals first | exact goI H (by omega) | exact goI (wiM H) (by omega) | exact goI (wiN H) (by omega) | exact goI (wiM (wiM H)) (by omega) | exact goI (wiN (wiM H)) (by omega) | exact goI (wiM (wiN H)) (by omega) | exact goI (wiN (wiN H)) (by omega) | exact goI (wiM (wiM (wiM H))) (by omega) | exact goI (wiN (wiM (wiM H))) (by omega) | exact goI (wiM (wiN (wiM H))) (by omega) | exact goI (wiN (wiN (wiM H))) (by omega) | exact goI (wiM (wiM (wiN H))) (by omega) | exact goI (wiN (wiM (wiN H))) (by omega) | exact goI (wiM (wiN (wiN H))) (by omega) | exact goI (wiN (wiN (wiN H))) (by omega) | (simp only [*]; first | exact goI H (by omega) | exact goI (wiM H) (by omega) | exact goI (wiN H) (by omega) | exact goI (wiM (wiM H)) (by omega) | exact goI (wiN (wiM H)) (by omega) | exact goI (wiM (wiN H)) (by omega) | exact goI (wiN (wiN H)) (by omega))
       all_goals
         clear H0
         intro m hm
         repeat (refine pf fun _ => ?_)
         intro y nx hnx H0
         dsimp only [u, i] at hnx H0 ⊢
         replace H0 := goE H0
         obtain ⟨q', hqm, H0⟩ := H0
         repeat (replace H0 := wiE H0; obtain ⟨_, hu, H0⟩ := H0)
         rcases q' with _ | q'
         · exfalso; simp [l.out] at H0
         repeat' (rename Bool => b; cases b)
         all_goals cbv)
    | fail)
  all_goals as_aux_lemma =>
    clear hcall hor hUu hbyte hcmp hok hget happ hlp'
    repeat (rename U _ _ _ = some _ => hu; obtain rfl := unU hU hu; clear hu)
    obtain ⟨rfl, rfl, rfl, rfl, rfl, rfl, rfl, rfl, rfl, rfl, rfl, rfl, rfl, rfl⟩ := arE hA
    clear hA hK
    subst hlp hR hG hC hU
    try simp only [realF, rl, rds, len_m, most] at *
    all_goals try (rename ((List.length _ : Int) = (List.length _ : Int)) => hlen; have hbx := Box.mk hlen; simp only [hbx.out] at *; replace hbx := hbx.out)
    all_goals
      have H := H0
      clear H0
      first | (rewrite [e.out] at H; try simp only [hQ] at H) | skip
      try subst_vars
      try simp only [beq_dec, bne_dec] at H
      try simp only [l.out, beq_dec, bne_dec] at H
    all_goals
      repeat (first
        | (simp [j.out, beq_dec, bne_dec, *] at H; done)
        | (simp [j.out, beq_dec, bne_dec, *] at H)
        | (rcases q' with _ | q'; · (exfalso; simp [j.out] at H; done))
        | (rw [if_pos (by omega)] at H)
        | (rw [if_neg (by omega)] at H)
        | (have hc := And.left H; replace H := And.right H; try (exfalso; clear H; (try clear hnx); omega)))
    all_goals first
      | exact nxt
      | (rw [← hq] at H; exact nxt)
      | (subst H; have hx := shr58 (bits BinOp.and IntKind.u64 ‹Int› (IntKind.u64.wrap (-‹Int›)) * 285870213051353865); obtain ⟨t, ht, hx⟩ := hx; rw [hx]; clear hx; (iterate 64 (rcases t with _ | t; · as_aux_lemma => rfl)); omega)
      | (subst H; rfl)
      | (subst H; simp; done)
      | (cases H; rfl)
      | (exfalso; clear H; (try clear hnx); omega)
      | (exfalso; clear H; simp [ByteArray.size] at hb; omega)
      | (subst H; simp [beq_dec, bne_dec, *]; done)
      | (simp_all [beq_dec, bne_dec]; done)
      | (simp_all [beq_dec, bne_dec]; subst H; first | rfl | (simp; done) | (simp [*]; done))
      | (simp only [hq] at *; simp [*] at H; done)
      | (simp only [hq] at *; simp [*] at H; subst H; first | rfl | (simp; done))
      | (simp only [hq] at hb; exfalso; first | omega | exact hb ⟨by assumption, by assumption⟩)
      | (exfalso; clear H; (try clear hnx); simp only [natCast_eq] at *; omega)) : P := h ⟨e⟩ ⟨j⟩ ⟨l⟩
end Go.Vm

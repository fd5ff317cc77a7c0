/-
  A walk by frames and pieces of memory: pieces brought to other places. No condition.
-/
import Derived.Test.YtpamjobiohbibaaEngH
namespace Go.Proofs.Ytpamjobiohbibaa
open Go.RowKit
set_option linter.unusedVariables false
theorem pu0 {a : Ch} {L L' : List Ch} (h : L.Perm L') : (a :: L).Perm (a :: L') := h.cons a
theorem wu0 {a : Ch} {L L' : List Ch} (h : Wk L L') : Wk (a :: L) (a :: L') := h.cons
theorem pu1 {a0 x : Ch} {L L' : List Ch} (h : (a0 :: L).Perm L') : (a0 :: x :: L).Perm (x :: L') := ((pu0 (.refl _)).cons a0).trans ((List.Perm.swap x a0 _).trans (h.cons x))
theorem wu1 {a0 x : Ch} {L L' : List Ch} (h : Wk (a0 :: L) L') : Wk (a0 :: x :: L) (x :: L') := (Wk.of_perm (pu1 (.refl _))).trans h.cons
theorem pu2 {a0 a1 x : Ch} {L L' : List Ch} (h : (a0 :: a1 :: L).Perm L') : (a0 :: a1 :: x :: L).Perm (x :: L') := ((pu1 (.refl _)).cons a0).trans ((List.Perm.swap x a0 _).trans (h.cons x))
theorem wu2 {a0 a1 x : Ch} {L L' : List Ch} (h : Wk (a0 :: a1 :: L) L') : Wk (a0 :: a1 :: x :: L) (x :: L') := (Wk.of_perm (pu2 (.refl _))).trans h.cons
theorem pu3 {a0 a1 a2 x : Ch} {L L' : List Ch} (h : (a0 :: a1 :: a2 :: L).Perm L') : (a0 :: a1 :: a2 :: x :: L).Perm (x :: L') := ((pu2 (.refl _)).cons a0).trans ((List.Perm.swap x a0 _).trans (h.cons x))
theorem wu3 {a0 a1 a2 x : Ch} {L L' : List Ch} (h : Wk (a0 :: a1 :: a2 :: L) L') : Wk (a0 :: a1 :: a2 :: x :: L) (x :: L') := (Wk.of_perm (pu3 (.refl _))).trans h.cons
theorem pu4 {a0 a1 a2 a3 x : Ch} {L L' : List Ch} (h : (a0 :: a1 :: a2 :: a3 :: L).Perm L') : (a0 :: a1 :: a2 :: a3 :: x :: L).Perm (x :: L') := ((pu3 (.refl _)).cons a0).trans ((List.Perm.swap x a0 _).trans (h.cons x))
theorem wu4 {a0 a1 a2 a3 x : Ch} {L L' : List Ch} (h : Wk (a0 :: a1 :: a2 :: a3 :: L) L') : Wk (a0 :: a1 :: a2 :: a3 :: x :: L) (x :: L') := (Wk.of_perm (pu4 (.refl _))).trans h.cons
theorem pu5 {a0 a1 a2 a3 a4 x : Ch} {L L' : List Ch} (h : (a0 :: a1 :: a2 :: a3 :: a4 :: L).Perm L') : (a0 :: a1 :: a2 :: a3 :: a4 :: x :: L).Perm (x :: L') := ((pu4 (.refl _)).cons a0).trans ((List.Perm.swap x a0 _).trans (h.cons x))
theorem wu5 {a0 a1 a2 a3 a4 x : Ch} {L L' : List Ch} (h : Wk (a0 :: a1 :: a2 :: a3 :: a4 :: L) L') : Wk (a0 :: a1 :: a2 :: a3 :: a4 :: x :: L) (x :: L') := (Wk.of_perm (pu5 (.refl _))).trans h.cons
theorem pu6 {a0 a1 a2 a3 a4 a5 x : Ch} {L L' : List Ch} (h : (a0 :: a1 :: a2 :: a3 :: a4 :: a5 :: L).Perm L') : (a0 :: a1 :: a2 :: a3 :: a4 :: a5 :: x :: L).Perm (x :: L') := ((pu5 (.refl _)).cons a0).trans ((List.Perm.swap x a0 _).trans (h.cons x))
theorem wu6 {a0 a1 a2 a3 a4 a5 x : Ch} {L L' : List Ch} (h : Wk (a0 :: a1 :: a2 :: a3 :: a4 :: a5 :: L) L') : Wk (a0 :: a1 :: a2 :: a3 :: a4 :: a5 :: x :: L) (x :: L') := (Wk.of_perm (pu6 (.refl _))).trans h.cons
theorem pu7 {a0 a1 a2 a3 a4 a5 a6 x : Ch} {L L' : List Ch} (h : (a0 :: a1 :: a2 :: a3 :: a4 :: a5 :: a6 :: L).Perm L') : (a0 :: a1 :: a2 :: a3 :: a4 :: a5 :: a6 :: x :: L).Perm (x :: L') := ((pu6 (.refl _)).cons a0).trans ((List.Perm.swap x a0 _).trans (h.cons x))
theorem wu7 {a0 a1 a2 a3 a4 a5 a6 x : Ch} {L L' : List Ch} (h : Wk (a0 :: a1 :: a2 :: a3 :: a4 :: a5 :: a6 :: L) L') : Wk (a0 :: a1 :: a2 :: a3 :: a4 :: a5 :: a6 :: x :: L) (x :: L') := (Wk.of_perm (pu7 (.refl _))).trans h.cons
theorem pu8 {a0 a1 a2 a3 a4 a5 a6 a7 x : Ch} {L L' : List Ch} (h : (a0 :: a1 :: a2 :: a3 :: a4 :: a5 :: a6 :: a7 :: L).Perm L') : (a0 :: a1 :: a2 :: a3 :: a4 :: a5 :: a6 :: a7 :: x :: L).Perm (x :: L') := ((pu7 (.refl _)).cons a0).trans ((List.Perm.swap x a0 _).trans (h.cons x))
theorem wu8 {a0 a1 a2 a3 a4 a5 a6 a7 x : Ch} {L L' : List Ch} (h : Wk (a0 :: a1 :: a2 :: a3 :: a4 :: a5 :: a6 :: a7 :: L) L') : Wk (a0 :: a1 :: a2 :: a3 :: a4 :: a5 :: a6 :: a7 :: x :: L) (x :: L') := (Wk.of_perm (pu8 (.refl _))).trans h.cons
theorem pu9 {a0 a1 a2 a3 a4 a5 a6 a7 a8 x : Ch} {L L' : List Ch} (h : (a0 :: a1 :: a2 :: a3 :: a4 :: a5 :: a6 :: a7 :: a8 :: L).Perm L') : (a0 :: a1 :: a2 :: a3 :: a4 :: a5 :: a6 :: a7 :: a8 :: x :: L).Perm (x :: L') := ((pu8 (.refl _)).cons a0).trans ((List.Perm.swap x a0 _).trans (h.cons x))
theorem wu9 {a0 a1 a2 a3 a4 a5 a6 a7 a8 x : Ch} {L L' : List Ch} (h : Wk (a0 :: a1 :: a2 :: a3 :: a4 :: a5 :: a6 :: a7 :: a8 :: L) L') : Wk (a0 :: a1 :: a2 :: a3 :: a4 :: a5 :: a6 :: a7 :: a8 :: x :: L) (x :: L') := (Wk.of_perm (pu9 (.refl _))).trans h.cons
end Go.Proofs.Ytpamjobiohbibaa
